/- Part 35 of the texts of this claim: a symbolic executor and contracts of functions. -/
import Derived.Test.YtjapnklocibgaaaOCiRP1
import Derived.Test.YtjapnklocibgaaaOCiRCPar
import Derived.Test.YtjapnklocibgaaaOCiRCLimB
import Derived.Test.YtjapnklocibgaaaOCiRCLimA
import Derived.Test.YtjapnklocibgaaaOCiRCUse
namespace Go.Proofs.Ytjapnklocibgaaa.Sx
open Go Go.RowKit
set_option linter.unusedVariables false
set_option linter.unusedSimpArgs false
set_option maxRecDepth 100000
set_option maxHeartbeats 8000000
attribute [local congr] fin_congr finG_congr stepG_congr step1_congr runOps_congr brv_congr obl_congr condK_congr LoopK_congr seqK_congr CutK_congr vc_congr DrawK_congr regK_congr CallK_congr AskK_congr newK_congr retC_congr ret1_congr retK_congr outV_congr closeK_congr genR_congr appR_congr finD_congr finGD_congr stepGD_congr stepD_congr CallK0_congr runD_congr okR_congr CallS_congr vcX_congr
attribute [local congr] Stop_congr
abbrev Bst:=List UInt8
structure Cmp {α:Type} (c:α→α→Int):Prop where
 anti:∀a b,c a b=- c b a
 zero:∀a b,c a b=0↔a=b
 trans:∀a b d,c a b<0→c b d<0→c a d<0
 lo:∀a b,-1≤c a b
def lexL{α:Type}(c:α→α→Int):List α→List α→Int
 | [],[]=>0
 | [],_ :: _=>-1
 | _ :: _,[]=>1
 | a :: l,b :: m=>if c a b=0 then lexL c l m else c a b
theorem Cmp.lex{α:Type}{c:α→α→Int}(h:Cmp c):Cmp (lexL c) where
 anti:=fun l=>by
  induction l with
  | nil=>intro m;cases m<;>simp[lexL]
  | cons a l ih=>
   intro m
   cases m with
   | nil=>simp[lexL]
   | cons b m=>
    simp only[lexL]
    have h1:=h.anti a b
    by_cases e:c a b=0
    ·rw[if_pos e,if_pos (by omega),ih m]
    ·rw[if_neg e,if_neg (by omega),h1]
 zero:=fun l=>by
  induction l with
  | nil=>intro m;cases m<;>simp[lexL]
  | cons a l ih=>
   intro m
   cases m with
   | nil=>simp[lexL]
   | cons b m=>
    simp only[lexL]
    by_cases e:c a b=0
    ·rw[if_pos e,ih m,(h.zero a b).1 e];simp
    ·rw[if_neg e]
     have:a≠b:=fun x=>e ((h.zero a b).2 x)
     simp[e,this]
 trans:=fun l=>by
  induction l with
  | nil=>
   intro m n h1 h2
   cases n with
   | nil=>cases m<;>simp[lexL]at h1 h2
   | cons d n=>simp[lexL]
  | cons a l ih=>
   intro m n h1 h2
   cases m with
   | nil=>simp[lexL]at h1
   | cons b m=>
    cases n with
    | nil=>simp[lexL]at h2
    | cons d n=>
     simp only[lexL]at h1 h2 ⊢
     by_cases e1:c a b=0
     ·rw[if_pos e1]at h1
      rw[(h.zero a b).1 e1]
      by_cases e2:c b d=0
      ·rw[if_pos e2]at h2 ⊢;exact ih m n h1 h2
      ·rw[if_neg e2]at h2 ⊢;exact h2
     ·rw[if_neg e1]at h1
      by_cases e2:c b d=0
      ·rw[←(h.zero b d).1 e2,if_neg e1];exact h1
      ·rw[if_neg e2]at h2
       have:=h.trans a b d h1 h2
       rw[if_neg (by omega)];exact this
 lo:=fun l=>by
  induction l with
  | nil=>intro m;cases m<;>simp[lexL]
  | cons a l ih=>
   intro m
   cases m with
   | nil=>simp[lexL]
   | cons b m=>
    simp only[lexL]
    split
    ·exact ih m
    ·exact h.lo a b
theorem Cmp.hi{α:Type}{c:α→α→Int}(h:Cmp c)(a b:α):c a b≤1:=by
 have h1:=h.anti a b
 have h2:=h.lo b a
 omega
def c8(a b:UInt8):Int:=if a<b then -1 else if b<a then 1 else 0
theorem c8_nat(a b:UInt8):c8 a b=if a.toNat<b.toNat then -1 else if b.toNat<a.toNat then 1 else 0:=by
 simp only[c8,UInt8.lt_iff_toNat_lt]
theorem cmp8:Cmp c8 where
 anti:=fun a b=>by rw[c8_nat,c8_nat];(repeat' split)<;>omega
 zero:=fun a b=>by
  rw[c8_nat,←UInt8.toNat_inj];(repeat' split)<;>omega
 trans:=fun a b d h1 h2=>by
  rw[c8_nat]at h1 h2 ⊢
  split at h1<;>split at h2<;>(repeat' split)<;>(try split at h1)<;>(try split at h2)<;>omega
 lo:=fun a b=>by rw[c8_nat];(repeat' split)<;>omega
def cmpS:Bst→Bst→Int:=lexL c8
theorem cmp_S:Cmp cmpS:=cmp8.lex
theorem less_cmpS:∀a b:Bst,Op.bytesLess a b=decide (cmpS a b<0)
 | [],[]=>rfl
 | [],_ :: _=>rfl
 | _ :: _,[]=>rfl
 | a :: l,b :: m=>by
  have ih:=less_cmpS l m
  unfold cmpS at ih ⊢
  simp only[Op.bytesLess,lexL,c8_nat]
  by_cases h1:a.toNat<b.toNat
  ·simp[h1,UInt8.lt_iff_toNat_lt]
  ·by_cases h2:b.toNat<a.toNat
   ·have:a≠b:=fun e=>by subst e;omega
    simp[h1,h2,UInt8.lt_iff_toNat_lt,this]
   ·have:a=b:=UInt8.toNat_inj.1 (by omega)
    subst this
    simp[ih,UInt8.lt_irrefl]
section
variable {M:Mem}{K:AV→Hp→Mem→Prop}
theorem cmpS_ok(a b:Bst)(hK:K (.ext (.int .i64 (cmpS a b))) [] M):CallS Try.prog 40 [.ext (.string (bs a)),.ext (.string (bs b))] [] M [] K:=by
 refine inlS (cs:=[]) Try.mixed Try.func40 rfl (by kernel_rfl) 0 rfl rfl ?_
 simp only[Try.f40]
 have h1:=less_cmpS a b
 have h2:=less_cmpS b a
 have h3:=cmp_S.anti a b
 have h4:=cmp_S.lo a b
 have h5:=cmp_S.lo b a
 have q1:(a==a)=true:=by simp
 have q2:(b==b)=true:=by simp
 by_cases e1:cmpS a b<0
 ·have d1:decide (cmpS a b<0)=true:=by simp[e1]
  have e:cmpS a b=-1:=by omega
  rw[d1]at h1
  rw[e]at hK
  refine Go1.mk ?_;repeat' ((first|(with_reducible refine Go1.go ?_)|((first|((with_reducible refine isCall (f:=60) ?_);refine inlK (cs:=[]) (f:=60) Try.mixed Try.func60 rfl (by kernel_rfl) 50 rfl (by kernel_rfl) ?_));simp only[Try.f60])|(refine And.intro ?_ ?_;(try simp only[sxO]at *);omega)|fail)<;>(try simp (maxSteps:=1000000) only [h1,q1,q2,bs_mk,bs_app,bs_ext,bs_size,bs_toList,bs_at,bs_cells,List.take_length,imp_ga,guard_pk,guard_pk2,↓hold_pre,awayP,runOps,regK,step1,newK,genR,appR,obl,buildR,Value.cells,closeK,keepH,outV,retK,ret1,retC,RetV,Option.getD,runD,stepD,afterK,undef,simprocAttr,sxB,↓sxD,sxE,sxTab]))
  exact hK
 ·have d1:decide (cmpS a b<0)=false:=by simp;omega
  rw[d1]at h1
  by_cases e2:cmpS b a<0
  ·have d2:decide (cmpS b a<0)=true:=by simp[e2]
   have e:cmpS a b=1:=by omega
   rw[d2]at h2
   rw[e]at hK
   refine Go1.mk ?_;repeat' ((first|(with_reducible refine Go1.go ?_)|((first|((with_reducible refine isCall (f:=60) ?_);refine inlK (cs:=[]) (f:=60) Try.mixed Try.func60 rfl (by kernel_rfl) 50 rfl (by kernel_rfl) ?_));simp only[Try.f60])|(refine And.intro ?_ ?_;(try simp only[sxO]at *);omega)|fail)<;>(try simp (maxSteps:=1000000) only [h1,h2,q1,q2,bs_mk,bs_app,bs_ext,bs_size,bs_toList,bs_at,bs_cells,List.take_length,imp_ga,guard_pk,guard_pk2,↓hold_pre,awayP,runOps,regK,step1,newK,genR,appR,obl,buildR,Value.cells,closeK,keepH,outV,retK,ret1,retC,RetV,Option.getD,runD,stepD,afterK,undef,simprocAttr,sxB,↓sxD,sxE,sxTab]))
   exact hK
  ·have d2:decide (cmpS b a<0)=false:=by simp;omega
   have e:cmpS a b=0:=by omega
   rw[d2]at h2
   rw[e]at hK
   refine Go1.mk ?_;repeat' ((first|(with_reducible refine Go1.go ?_)|((first|((with_reducible refine isCall (f:=60) ?_);refine inlK (cs:=[]) (f:=60) Try.mixed Try.func60 rfl (by kernel_rfl) 50 rfl (by kernel_rfl) ?_));simp only[Try.f60])|(refine And.intro ?_ ?_;(try simp only[sxO]at *);omega)|fail)<;>(try simp (maxSteps:=1000000) only [h1,h2,q1,q2,bs_mk,bs_app,bs_ext,bs_size,bs_toList,bs_at,bs_cells,List.take_length,imp_ga,guard_pk,guard_pk2,↓hold_pre,awayP,runOps,regK,step1,newK,genR,appR,obl,buildR,Value.cells,closeK,keepH,outV,retK,ret1,retC,RetV,Option.getD,runD,stepD,afterK,undef,simprocAttr,sxB,↓sxD,sxE,sxTab]))
   exact hK
def or3(a b d:Int):Int:=if a=0 then (if b=0 then d else b) else a
def o3St(M:Mem)(k:Nat)(T:TypeId)(a b d:Int)(i:Nat):St:={env:=[(8,.ext (.int .i64 (i:Int))),(7,.ext (.int .i64 3)),(6,.slo k 0 3 1),(3,.ext (.int .i64 0)),(2,.ext (.int .i64 0))],hp:=[(k,T,[.ext (.int .i64 a),.ext (.int .i64 b),.ext (.int .i64 d)])],M:=M,kb:=k+1,fx:=[k]}
theorem or3_ok(k:Nat)(T:TypeId)(a b d:Int)(hK:K (.ext (.int .i64 (or3 a b d))) [(k,T,[.ext (.int .i64 a),.ext (.int .i64 b),.ext (.int .i64 d)])] M):CallS Try.prog 39 [.slo k 0 3 1] [(k,T,[.ext (.int .i64 a),.ext (.int .i64 b),.ext (.int .i64 d)])] M [] K:=by
 refine inlS (cs:=[]) (f:=39) Try.mixed Try.func39 rfl (by kernel_rfl) (k+1) rfl (by simp[ltB,keysH]) ?_
 simp only[Try.f39]
 unfold or3 at hK
 refine Go1.mk ?_;repeat' ((first|(with_reducible refine Go1.go ?_)|(refine And.intro ?_ ?_;(try simp only[sxO]at *);omega)|fail)<;>(try simp (maxSteps:=1000000) only [↓hold_pre,awayP,runOps,regK,step1,newK,genR,appR,obl,buildR,Value.cells,closeK,keepH,outV,retK,ret1,retC,RetV,Option.getD,runD,stepD,afterK,undef,simprocAttr,sxB,↓sxD,sxE,sxTab]))
 refine ⟨fun m z=>∃i,i≤3∧(1≤i→a=0)∧(2≤i→b=0)∧(i=3→d=0)∧m=3-i∧z=o3St M k T a b d i,⟨3,o3St M k T a b d 0,le_sub ⟨rfl,rfl,rfl,rfl,rfl,trivial⟩ (by simp[subHp,o3St,lkH]) rfl rfl rfl (by simp[keepLt,o3St,lkH]),⟨0,by omega,by omega,by omega,by omega,rfl,rfl⟩⟩,?_⟩
 rintro m z ⟨i,hi,h1,h2,h3,rfl,rfl⟩
 have:i=0∨i=1∨i=2∨i=3:=by omega
 rcases this with rfl|rfl|rfl|rfl
 ·by_cases e:a=0
  ·have d1:decide (a=0)=true:=by simp[e]
   refine Go1.mk ?_;repeat' ((first|(with_reducible refine Go1.go ?_)|(refine And.intro ?_ ?_;(try simp only[sxO]at *);omega)|fail)<;>(try simp (maxSteps:=1000000) only [o3St,d1,Int.cast_ofNat_Int,Int.toNat_zero,↓hold_pre,awayP,runOps,regK,step1,newK,genR,appR,obl,buildR,Value.cells,closeK,keepH,outV,retK,ret1,retC,RetV,Option.getD,runD,stepD,afterK,undef,simprocAttr,sxB,↓sxD,sxE,sxTab]))
   exact ⟨2,o3St M k T a b d 1,by omega,le_sub ⟨rfl,rfl,rfl,rfl,rfl,trivial⟩ (by simp[subHp,o3St,lkH]) rfl rfl rfl (by simp[keepLt,o3St,lkH]),1,by omega,fun _=>e,by omega,by omega,rfl,rfl⟩
  ·have d1:decide (a=0)=false:=by simp[e]
   rw[if_neg e]at hK
   refine Go1.mk ?_;repeat' ((first|(with_reducible refine Go1.go ?_)|(refine And.intro ?_ ?_;(try simp only[sxO]at *);omega)|fail)<;>(try simp (maxSteps:=1000000) only [o3St,d1,Int.cast_ofNat_Int,Int.toNat_zero,↓hold_pre,awayP,runOps,regK,step1,newK,genR,appR,obl,buildR,Value.cells,closeK,keepH,outV,retK,ret1,retC,RetV,Option.getD,runD,stepD,afterK,undef,simprocAttr,sxB,↓sxD,sxE,sxTab]))
   exact hK
 ·rw[if_pos (h1 (by omega))]at hK
  by_cases e:b=0
  ·have d1:decide (b=0)=true:=by simp[e]
   refine Go1.mk ?_;repeat' ((first|(with_reducible refine Go1.go ?_)|(refine And.intro ?_ ?_;(try simp only[sxO]at *);omega)|fail)<;>(try simp (maxSteps:=1000000) only [o3St,d1,Int.cast_ofNat_Int,Int.toNat_zero,↓hold_pre,awayP,runOps,regK,step1,newK,genR,appR,obl,buildR,Value.cells,closeK,keepH,outV,retK,ret1,retC,RetV,Option.getD,runD,stepD,afterK,undef,simprocAttr,sxB,↓sxD,sxE,sxTab]))
   exact ⟨1,o3St M k T a b d 2,by omega,le_sub ⟨rfl,rfl,rfl,rfl,rfl,trivial⟩ (by simp[subHp,o3St,lkH]) rfl rfl rfl (by simp[keepLt,o3St,lkH]),2,by omega,fun _=>h1 (by omega),fun _=>e,by omega,rfl,rfl⟩
  ·have d1:decide (b=0)=false:=by simp[e]
   rw[if_neg e]at hK
   refine Go1.mk ?_;repeat' ((first|(with_reducible refine Go1.go ?_)|(refine And.intro ?_ ?_;(try simp only[sxO]at *);omega)|fail)<;>(try simp (maxSteps:=1000000) only [o3St,d1,Int.cast_ofNat_Int,Int.toNat_zero,↓hold_pre,awayP,runOps,regK,step1,newK,genR,appR,obl,buildR,Value.cells,closeK,keepH,outV,retK,ret1,retC,RetV,Option.getD,runD,stepD,afterK,undef,simprocAttr,sxB,↓sxD,sxE,sxTab]))
   exact hK
 ·rw[if_pos (h1 (by omega)),if_pos (h2 (by omega))]at hK
  by_cases e:d=0
  ·have d1:decide (d=0)=true:=by simp[e]
   refine Go1.mk ?_;repeat' ((first|(with_reducible refine Go1.go ?_)|(refine And.intro ?_ ?_;(try simp only[sxO]at *);omega)|fail)<;>(try simp (maxSteps:=1000000) only [o3St,d1,Int.cast_ofNat_Int,Int.toNat_zero,↓hold_pre,awayP,runOps,regK,step1,newK,genR,appR,obl,buildR,Value.cells,closeK,keepH,outV,retK,ret1,retC,RetV,Option.getD,runD,stepD,afterK,undef,simprocAttr,sxB,↓sxD,sxE,sxTab]))
   exact ⟨0,o3St M k T a b d 3,by omega,le_sub ⟨rfl,rfl,rfl,rfl,rfl,trivial⟩ (by simp[subHp,o3St,lkH]) rfl rfl rfl (by simp[keepLt,o3St,lkH]),3,by omega,fun _=>h1 (by omega),fun _=>h2 (by omega),fun _=>e,rfl,rfl⟩
  ·have d1:decide (d=0)=false:=by simp[e]
   refine Go1.mk ?_;repeat' ((first|(with_reducible refine Go1.go ?_)|(refine And.intro ?_ ?_;(try simp only[sxO]at *);omega)|fail)<;>(try simp (maxSteps:=1000000) only [o3St,d1,Int.cast_ofNat_Int,Int.toNat_zero,↓hold_pre,awayP,runOps,regK,step1,newK,genR,appR,obl,buildR,Value.cells,closeK,keepH,outV,retK,ret1,retC,RetV,Option.getD,runD,stepD,afterK,undef,simprocAttr,sxB,↓sxD,sxE,sxTab]))
   exact hK
 ·rw[if_pos (h1 (by omega)),if_pos (h2 (by omega))]at hK
  obtain rfl:=h3 rfl
  refine Go1.mk ?_;repeat' ((first|(with_reducible refine Go1.go ?_)|(refine And.intro ?_ ?_;(try simp only[sxO]at *);omega)|fail)<;>(try simp (maxSteps:=1000000) only [o3St,Int.cast_ofNat_Int,Int.toNat_zero,↓hold_pre,awayP,runOps,regK,step1,newK,genR,appR,obl,buildR,Value.cells,closeK,keepH,outV,retK,ret1,retC,RetV,Option.getD,runD,stepD,afterK,undef,simprocAttr,sxB,↓sxD,sxE,sxTab]))
  exact hK
end
theorem ofN_u32{n:Nat}(h0:0<n)(h:n<4294967296):ofN n=[n]:=by
 rw[ofN_pos (by omega),Nat.div_eq_of_lt h,Nat.mod_eq_of_lt h,ofN_zero]
theorem FrzF.agg1{K:AV→Hp→Mem→Prop}{H:Hp}{M':Mem}{k n:Nat}{T:TypeId}(x:Value)(cs:List Value)(h1:lkH H k=none)(h2:cs.length=n)(h:∀u M'',Mem.le M' M''→SlM M'' 1 u n cs→FreshS M' u→K (.ext (.agg #[x,u])) [] M''):FrzF K H (.ag false [.ext x,.slo k 0 n 1]) [(k,T,cs.map .ext)] M':=
 .inr ⟨some false,[.ext x],[],k,n,1,T,cs,[],rfl,rfl,rfl,h1,by omega,rfl,h⟩
theorem FrzF.agg2{K:AV→Hp→Mem→Prop}{H:Hp}{M':Mem}{k j n m:Nat}{T T':TypeId}(cs ds:List Value)(h1:lkH H k=none)(h1':lkH H j=none)(h2:cs.length=n)(h2':ds.length=m)(hkj:j≠k)(h:∀u u' M'',Mem.le M' M''→SlM M'' 1 u n cs→SlM M'' 1 u' m ds→FreshS M' u→FreshS M' u'→K (.ext (.agg #[u,u'])) [] M'') :
  FrzF (FrzF K H) H (.ag false [.slo k 0 n 1,.slo j 0 m 1]) [(k,T,cs.map .ext),(j,T',ds.map .ext)] M':=by
 refine .inr ⟨some false,[],[.slo j 0 m 1],k,n,1,T,cs,[(j,T',ds.map .ext)],rfl,rfl,?_,h1,by omega,?_,fun u M'' hM hs hf=>?_⟩
 ·simp[lkH,hkj]
 ·simp[mentL,AV.ment,mentH,mentL_ext,hasK,hkj]
 ·refine .inr ⟨some false,[.ext u],[],j,m,1,T',ds,[],rfl,rfl,rfl,h1',by omega,rfl,fun u' M3 hM3 hs3 hf3=>?_⟩
  exact h u u' M3 (hM.trans hM3) (hs.le hM3) hs3 hf (hf3.le hM)
section
variable {M:Mem}{K:AV→Hp→Mem→Prop}
def smlSt(M:Mem)(num den:Nat)(a b:Nat):St:={env:=[(6,.ext (.int .i64 (b:Int))),(5,.ext (.int .i64 (a:Int))),(4,.own 4 0),(0,.ext (.int .i64 (num:Int))),(1,.ext (.int .i64 (den:Int)))],hp:=[(4,34,[.ext (.slice none 0 0),.ext (.slice none 0 0)])],M:=M,kb:=0,fx:=[]}
theorem sml_ok(num den:Nat)(hn:num≤2147483648)(hd:0<den)(hd2:den≤2147483648)
  (hK:∀w1 w2 M',Mem.le M M'→IsL M' u32V w1 (ofN (num / Nat.gcd num den))→IsL M' u32V w2 (ofN (den / Nat.gcd num den))→FreshS M w1→FreshS M w2→K (.ext (.agg #[w1,w2])) [] M'):CallS Try.prog 22 [.ext (.int .i64 (num:Int)),.ext (.int .i64 (den:Int))] [] M [] K:=by
 refine CallS.frzF (CallS.frzF ?_)
 refine inlS (cs:=[]) Try.mixed Try.func22 rfl (by kernel_rfl) 0 rfl rfl ?_
 simp only[Try.f22]
 refine Go1.mk ?_;repeat' ((first|(with_reducible refine Go1.go ?_)|((with_reducible refine isDraw [some 12,some 13,some 14,some 15,some 5,some 6] (by decide) ?_);refine draw_rule [(0,[]),(1,[]),(2,[]),(3,[]),(4,[]),(5,[])] [[],[],[],[1,2],[0,1],[0,1,2,3,4]] [12,13,14,15] [5] (by kernel_rfl) (by kernel_rfl) (by kernel_rfl) (by kernel_rfl) (by exact ⟨rfl,trivial⟩) ?_)|(refine And.intro ?_ ?_;(try simp only[sxO]at *);omega)|fail)<;>(try simp (maxSteps:=1000000) only [↓hold_pre,awayP,runOps,regK,step1,newK,genR,appR,obl,buildR,Value.cells,closeK,keepH,outV,retK,ret1,retC,RetV,Option.getD,runD,stepD,afterK,undef,simprocAttr,sxB,↓sxD,sxE,sxTab]))
 refine ⟨fun m z=>∃a b,b=m∧Nat.gcd a b=Nat.gcd num den∧a≤2147483648∧b≤2147483648∧z=smlSt M num den a b,⟨den,smlSt M num den num den,le_sub ⟨rfl,rfl,rfl,rfl,rfl,trivial⟩ ⟨rfl,trivial⟩ rfl rfl rfl (keepLt0 _),⟨num,den,rfl,rfl,hn,hd2,rfl⟩⟩,?_⟩
 rintro m z ⟨a,b,rfl,hg,ha,hb,rfl⟩
 by_cases hb0:b=0
 case neg=>
  have d1:decide ((b:Int)=0)=false:=by rw[decide_eq_false_iff_not];omega
  have w1:(a:Int).tmod (b:Int)=((a % b:Nat):Int):=(Int.ofNat_tmod a b).symm
  have n1:((b:Int)=0)=False:=eq_false (fun h=>by omega)
  have hlt:=Nat.mod_lt a (show 0<b by omega)
  refine Go1.mk ?_;repeat' ((first|(with_reducible refine Go1.go ?_)|((with_reducible refine isDraw [some 12,some 13,some 14,some 15,some 5,some 6] (by decide) ?_);refine draw_rule [(0,[]),(1,[]),(2,[]),(3,[]),(4,[]),(5,[])] [[],[],[],[1,2],[0,1],[0,1,2,3,4]] [12,13,14,15] [5] (by kernel_rfl) (by kernel_rfl) (by kernel_rfl) (by kernel_rfl) (by exact ⟨rfl,trivial⟩) ?_)|(refine And.intro ?_ ?_;(try simp only[sxO]at *);omega)|fail)<;>(try simp (maxSteps:=1000000) only [smlSt,d1,w1,n1,↓hold_pre,awayP,runOps,regK,step1,newK,genR,appR,obl,buildR,Value.cells,closeK,keepH,outV,retK,ret1,retC,RetV,Option.getD,runD,stepD,afterK,undef,simprocAttr,sxB,↓sxD,sxE,sxTab]))
  exact ⟨a % b,smlSt M num den b (a % b),by omega,le_sub ⟨rfl,rfl,rfl,rfl,rfl,trivial⟩ ⟨rfl,trivial⟩ rfl rfl rfl (keepLt0 _),b,a % b,rfl,by rw[←hg,Nat.gcd_comm b,←Nat.gcd_rec,Nat.gcd_comm],hb,by omega,rfl⟩
 subst hb0
 rw[Nat.gcd_zero_right]at hg
 subst hg
 have hg0:0<Nat.gcd num den:=Nat.gcd_pos_of_pos_right _ hd
 have hq0:0<den / Nat.gcd num den:=Nat.div_pos (Nat.gcd_le_right num hd) hg0
 have hq1:den / Nat.gcd num den≤2147483648:=Nat.le_trans (Nat.div_le_self _ _) hd2
 have d1:decide (((0:Nat):Int)=0)=true:=by decide
 have n1:(((Nat.gcd num den:Nat):Int)=0)=False:=eq_false (fun h=>by omega)
 have w1:IntKind.i64.wrap ((den:Int).tdiv ((Nat.gcd num den:Nat):Int))=((den / Nat.gcd num den:Nat):Int):=by rw[←Int.ofNat_tdiv];exact wrap_id (by omega) (by omega)
 have w2:IntKind.u32.wrap ((den / Nat.gcd num den:Nat):Int)=((den / Nat.gcd num den:Nat):Int):=wrap32_id (by omega)
 by_cases h0:num=0
 ·subst h0
  have d2:decide ((0:Int)<((0:Nat):Int))=false:=by decide
  rw[Nat.zero_div,ofN_zero]at hK
  refine Go1.mk ?_;repeat' ((first|(with_reducible refine Go1.go ?_)|((with_reducible refine isDraw [some 12,some 13,some 14,some 15,some 5,some 6] (by decide) ?_);refine draw_rule [(0,[]),(1,[]),(2,[]),(3,[]),(4,[]),(5,[])] [[],[],[],[1,2],[0,1],[0,1,2,3,4]] [12,13,14,15] [5] (by kernel_rfl) (by kernel_rfl) (by kernel_rfl) (by kernel_rfl) (by exact ⟨rfl,trivial⟩) ?_)|(refine And.intro ?_ ?_;(try simp only[sxO]at *);omega)|fail)<;>(try simp (maxSteps:=1000000) only [smlSt,d1,d2,n1,w1,w2,↓hold_pre,awayP,runOps,regK,step1,newK,genR,appR,obl,buildR,Value.cells,closeK,keepH,outV,retK,ret1,retC,RetV,Option.getD,runD,stepD,afterK,undef,simprocAttr,sxB,↓sxD,sxE,sxTab]))
  exact .inl (FrzF.agg1 _ [u32V (den / Nat.gcd 0 den)] rfl rfl fun u M1 a1 a2 a3=>hK _ _ _ a1 (isL_nil _ _ _) (by rw[ofN_u32 hq0 (by omega)];exact a2) (freshS_nil _ _) a3)
 ·have hp0:0<num / Nat.gcd num den:=Nat.div_pos (Nat.gcd_le_left den (by omega)) hg0
  have hp1:num / Nat.gcd num den≤2147483648:=Nat.le_trans (Nat.div_le_self _ _) hn
  have d2:decide ((0:Int)<(num:Int))=true:=by rw[decide_eq_true_eq];omega
  have w3:IntKind.i64.wrap ((num:Int).tdiv ((Nat.gcd num den:Nat):Int))=((num / Nat.gcd num den:Nat):Int):=by rw[←Int.ofNat_tdiv];exact wrap_id (by omega) (by omega)
  have w4:IntKind.u32.wrap ((num / Nat.gcd num den:Nat):Int)=((num / Nat.gcd num den:Nat):Int):=wrap32_id (by omega)
  refine Go1.mk ?_;repeat' ((first|(with_reducible refine Go1.go ?_)|((with_reducible refine isDraw [some 12,some 13,some 14,some 15,some 5,some 6] (by decide) ?_);refine draw_rule [(0,[]),(1,[]),(2,[]),(3,[]),(4,[]),(5,[])] [[],[],[],[1,2],[0,1],[0,1,2,3,4]] [12,13,14,15] [5] (by kernel_rfl) (by kernel_rfl) (by kernel_rfl) (by kernel_rfl) (by exact ⟨rfl,trivial⟩) ?_)|(refine And.intro ?_ ?_;(try simp only[sxO]at *);omega)|fail)<;>(try simp (maxSteps:=1000000) only [smlSt,d1,d2,n1,w1,w2,w3,w4,↓hold_pre,awayP,runOps,regK,step1,newK,genR,appR,obl,buildR,Value.cells,closeK,keepH,outV,retK,ret1,retC,RetV,Option.getD,runD,stepD,afterK,undef,simprocAttr,sxB,↓sxD,sxE,sxTab]))
  exact FrzF.agg2 [u32V (num / Nat.gcd num den)] [u32V (den / Nat.gcd num den)] rfl rfl rfl rfl (by decide) fun u u' M1 a1 a2 a3 a4 a5=>hK _ _ _ a1 (by rw[ofN_u32 hp0 (by omega)];exact a2) (by rw[ofN_u32 hq0 (by omega)];exact a3) a4 a5
end
structure IR where
 pk:Bst
 ts:Bst
 u1:Value
 u2:Value
 l1:List Nat
 l2:List Nat
 cost:Int
def IR.c(x:IR):List Value:=[.string (bs x.pk),.string (bs x.ts),x.u1,x.u2,.int .i64 x.cost]
structure IR.ok (M:Mem) (x:IR):Prop where
 f:IsF M x.u1 x.u2 x.l1 x.l2
 lo : -9223372036854775808≤x.cost
 hi:x.cost≤9223372036854775807
def okIL(M:Mem)(L:List IR):Prop:=∀x∈L,x.ok M
theorem IR.ok.le{M M':Mem}{x:IR}(h:x.ok M)(hM:Mem.le M M'):x.ok M':=⟨h.f.le hM,h.lo,h.hi⟩
theorem okIL.le{M M':Mem}{L:List IR}(h:okIL M L)(hM:Mem.le M M'):okIL M' L:=fun x hx=>(h x hx).le hM
def chkI(x:IR):Bool:=chkF x.l1 x.l2&&decide (x.l1.length≤1)&&decide (x.l2.length≤1)&&decide (1≤x.cost)&&decide (x.cost≤1048576)
def chkIL(L:List IR):Bool:=decide (L.length≤64)&&L.all chkI
section
variable {M:Mem}{K:AV→Hp→Mem→Prop}{u:Value}{L:List IR}
theorem ochk1_ok(x:IR)(h:x.ok M)(hK:∀M',Mem.le M M'→K (.ext (.bool (!chkI x))) [] M'):CallS Try.prog 52 [.ext (.agg #[.string (bs x.pk),.string (bs x.ts),x.u1,x.u2,.int .i64 x.cost])] [] M [] K:=by
 refine inlS (cs:=[]) Try.mixed Try.func52 rfl (by kernel_rfl) 0 rfl rfl ?_
 simp only[Try.f52]
 obtain ⟨pk,ts,u1,u2,l1,l2,cost⟩:=x
 obtain ⟨hF,_,_⟩:=h
 simp only at hF
 unfold chkI at hK
 simp only at hK ⊢
 cases hc:chkF l1 l2 with
 | false=>
  rw[hc]at hK
  refine Go1.mk ?_;repeat' ((first|(with_reducible refine Go1.go ?_)|(((with_reducible refine isCall (f:=43) ?_);refine callA_nil (by kernel_rfl) ?_;refine (fcheck_ok hF.n hF.d hF.on hF.od hF.bn hF.bd (fun M1 m1=>Stop.mk ?_))))|(refine And.intro ?_ ?_;(try simp only[sxO]at *);omega)|fail)<;>(try simp (maxSteps:=1000000) only [hF.n.one,hF.d.one,hc,bs_mk,bs_app,bs_ext,bs_size,bs_toList,bs_at,bs_cells,List.take_length,imp_ga,guard_pk,guard_pk2,↓hold_pre,awayP,runOps,regK,step1,newK,genR,appR,obl,buildR,Value.cells,closeK,keepH,outV,retK,ret1,retC,RetV,Option.getD,runD,stepD,afterK,undef,simprocAttr,sxB,↓sxD,sxE,sxTab]))
  have hk:=hK M1 m1
  refine Stop.go ?_
  refine Go1.mk ?_;repeat' ((first|(with_reducible refine Go1.go ?_)|(refine And.intro ?_ ?_;(try simp only[sxO]at *);omega)|fail)<;>(try simp (maxSteps:=1000000) only [hF.n.one,hF.d.one,hc,bs_mk,bs_app,bs_ext,bs_size,bs_toList,bs_at,bs_cells,List.take_length,imp_ga,guard_pk,guard_pk2,↓hold_pre,awayP,runOps,regK,step1,newK,genR,appR,obl,buildR,Value.cells,closeK,keepH,outV,retK,ret1,retC,RetV,Option.getD,runD,stepD,afterK,undef,simprocAttr,sxB,↓sxD,sxE,sxTab]))
  exact hk
 | true=>
  rw[hc]at hK
  refine Go1.mk ?_;repeat' ((first|(with_reducible refine Go1.go ?_)|(((with_reducible refine isCall (f:=43) ?_);refine callA_nil (by kernel_rfl) ?_;refine (fcheck_ok hF.n hF.d hF.on hF.od hF.bn hF.bd (fun M1 m1=>Stop.mk ?_))))|(refine And.intro ?_ ?_;(try simp only[sxO]at *);omega)|fail)<;>(try simp (maxSteps:=1000000) only [hF.n.one,hF.d.one,hc,bs_mk,bs_app,bs_ext,bs_size,bs_toList,bs_at,bs_cells,List.take_length,imp_ga,guard_pk,guard_pk2,↓hold_pre,awayP,runOps,regK,step1,newK,genR,appR,obl,buildR,Value.cells,closeK,keepH,outV,retK,ret1,retC,RetV,Option.getD,runD,stepD,afterK,undef,simprocAttr,sxB,↓sxD,sxE,sxTab]))
  have hk:=hK M1 m1
  clear hK
  by_cases h1:l1.length≤1
  case neg=>
   have d1:decide ((1:Int)<(l1.length:Int))=true:=by rw[decide_eq_true_eq];omega
   have e1:decide (l1.length≤1)=false:=decide_eq_false h1
   rw[e1]at hk
   refine Stop.go ?_
   refine Go1.mk ?_;repeat' ((first|(with_reducible refine Go1.go ?_)|(refine And.intro ?_ ?_;(try simp only[sxO]at *);omega)|fail)<;>(try simp (maxSteps:=1000000) only [hF.n.one,hF.d.one,hF.n.len,hF.n.sl,hF.d.len,hF.d.sl,hc,d1,bs_mk,bs_app,bs_ext,bs_size,bs_toList,bs_at,bs_cells,List.take_length,imp_ga,guard_pk,guard_pk2,↓hold_pre,awayP,runOps,regK,step1,newK,genR,appR,obl,buildR,Value.cells,closeK,keepH,outV,retK,ret1,retC,RetV,Option.getD,runD,stepD,afterK,undef,simprocAttr,sxB,↓sxD,sxE,sxTab]))
   exact hk
  have d1:decide ((1:Int)<(l1.length:Int))=false:=by rw[decide_eq_false_iff_not];omega
  have e1:decide (l1.length≤1)=true:=decide_eq_true h1
  rw[e1]at hk
  by_cases h2:l2.length≤1
  case neg=>
   have d2:decide ((1:Int)<(l2.length:Int))=true:=by rw[decide_eq_true_eq];omega
   have e2:decide (l2.length≤1)=false:=decide_eq_false h2
   rw[e2]at hk
   refine Stop.go ?_
   refine Go1.mk ?_;repeat' ((first|(with_reducible refine Go1.go ?_)|(refine And.intro ?_ ?_;(try simp only[sxO]at *);omega)|fail)<;>(try simp (maxSteps:=1000000) only [hF.n.one,hF.d.one,hF.n.len,hF.n.sl,hF.d.len,hF.d.sl,hc,d1,d2,bs_mk,bs_app,bs_ext,bs_size,bs_toList,bs_at,bs_cells,List.take_length,imp_ga,guard_pk,guard_pk2,↓hold_pre,awayP,runOps,regK,step1,newK,genR,appR,obl,buildR,Value.cells,closeK,keepH,outV,retK,ret1,retC,RetV,Option.getD,runD,stepD,afterK,undef,simprocAttr,sxB,↓sxD,sxE,sxTab]))
   exact hk
  have d2:decide ((1:Int)<(l2.length:Int))=false:=by rw[decide_eq_false_iff_not];omega
  have e2:decide (l2.length≤1)=true:=decide_eq_true h2
  rw[e2]at hk
  by_cases h3:1≤cost
  case neg=>
   have d3:decide (cost<1)=true:=by rw[decide_eq_true_eq];omega
   have e3:decide (1≤cost)=false:=decide_eq_false h3
   rw[e3]at hk
   refine Stop.go ?_
   refine Go1.mk ?_;repeat' ((first|(with_reducible refine Go1.go ?_)|(refine And.intro ?_ ?_;(try simp only[sxO]at *);omega)|fail)<;>(try simp (maxSteps:=1000000) only [hF.n.one,hF.d.one,hF.n.len,hF.n.sl,hF.d.len,hF.d.sl,hc,d1,d2,d3,bs_mk,bs_app,bs_ext,bs_size,bs_toList,bs_at,bs_cells,List.take_length,imp_ga,guard_pk,guard_pk2,↓hold_pre,awayP,runOps,regK,step1,newK,genR,appR,obl,buildR,Value.cells,closeK,keepH,outV,retK,ret1,retC,RetV,Option.getD,runD,stepD,afterK,undef,simprocAttr,sxB,↓sxD,sxE,sxTab]))
   exact hk
  have d3:decide (cost<1)=false:=by rw[decide_eq_false_iff_not];omega
  have e3:decide (1≤cost)=true:=decide_eq_true h3
  rw[e3]at hk
  by_cases h4:cost≤1048576
  case neg=>
   have d4:decide ((1048576:Int)<cost)=true:=by rw[decide_eq_true_eq];omega
   have e4:decide (cost≤1048576)=false:=decide_eq_false h4
   rw[e4]at hk
   refine Stop.go ?_
   refine Go1.mk ?_;repeat' ((first|(with_reducible refine Go1.go ?_)|(refine And.intro ?_ ?_;(try simp only[sxO]at *);omega)|fail)<;>(try simp (maxSteps:=1000000) only [hF.n.one,hF.d.one,hF.n.len,hF.n.sl,hF.d.len,hF.d.sl,hc,d1,d2,d3,d4,bs_mk,bs_app,bs_ext,bs_size,bs_toList,bs_at,bs_cells,List.take_length,imp_ga,guard_pk,guard_pk2,↓hold_pre,awayP,runOps,regK,step1,newK,genR,appR,obl,buildR,Value.cells,closeK,keepH,outV,retK,ret1,retC,RetV,Option.getD,runD,stepD,afterK,undef,simprocAttr,sxB,↓sxD,sxE,sxTab]))
   exact hk
  have d4:decide ((1048576:Int)<cost)=false:=by rw[decide_eq_false_iff_not];omega
  have e4:decide (cost≤1048576)=true:=decide_eq_true h4
  rw[e4]at hk
  refine Stop.go ?_
  refine Go1.mk ?_;repeat' ((first|(with_reducible refine Go1.go ?_)|(refine And.intro ?_ ?_;(try simp only[sxO]at *);omega)|fail)<;>(try simp (maxSteps:=1000000) only [hF.n.one,hF.d.one,hF.n.len,hF.n.sl,hF.d.len,hF.d.sl,hc,d1,d2,d3,d4,bs_mk,bs_app,bs_ext,bs_size,bs_toList,bs_at,bs_cells,List.take_length,imp_ga,guard_pk,guard_pk2,↓hold_pre,awayP,runOps,regK,step1,newK,genR,appR,obl,buildR,Value.cells,closeK,keepH,outV,retK,ret1,retC,RetV,Option.getD,runD,stepD,afterK,undef,simprocAttr,sxB,↓sxD,sxE,sxTab]))
  exact hk
def oiSt(M:Mem)(u:Value)(n i:Nat):St:={env:=[(8,.ext (.int .i64 (i:Int))),(7,.ext (.int .i64 (n:Int))),(4,.ext (.int .i64 0)),(1,.fn 52 []),(0,.ext u)],hp:=[],M:=M,kb:=0,fx:=[]}
theorem oidx_ok(hu:IsR M 5 IR.c u L)(hL:okIL M L)(hb:L.length<1000000)(hK:∀M' (r:Int),Mem.le M M'→((r=-1∧L.all chkI=true)∨(0≤r∧L.all chkI=false))→K (.ext (.int .i64 r)) [] M'):CallS Try.prog 72 [.ext u,.fn 52 []] [] M [] K:=by
 refine inlS (cs:=[]) Try.mixed Try.func72 rfl (by kernel_rfl) 0 rfl rfl ?_
 simp only[Try.f72]
 refine Go1.mk ?_;repeat' ((first|(with_reducible refine Go1.go ?_)|(refine And.intro ?_ ?_;(try simp only[sxO]at *);omega)|fail)<;>(try simp (maxSteps:=1000000) only [hu.one,hu.len,hu.sl,bs_mk,bs_app,bs_ext,bs_size,bs_toList,bs_at,bs_cells,List.take_length,imp_ga,guard_pk,guard_pk2,↓hold_pre,awayP,runOps,regK,step1,newK,genR,appR,obl,buildR,Value.cells,closeK,keepH,outV,retK,ret1,retC,RetV,Option.getD,runD,stepD,afterK,undef,simprocAttr,sxB,↓sxD,sxE,sxTab]))
 refine ⟨fun m z=>∃M' i,m=L.length-i∧i≤L.length∧Mem.le M M'∧(∀x∈L.take i,chkI x=true)∧z=oiSt M' u L.length i,
  ⟨L.length,oiSt M u L.length 0,le_sub ⟨rfl,rfl,rfl,rfl,rfl,trivial⟩ trivial rfl rfl rfl (keepLt0 _),⟨M,0,by omega,by omega,Mem.le.refl _,by simp,rfl⟩⟩,?_⟩
 rintro m z ⟨M2,i,rfl,hi,hM,hp,rfl⟩
 have hu2:=hu.le hM
 have hL2:=hL.le hM
 by_cases hlt:i<L.length
 case neg=>
  obtain rfl:i=L.length:=by omega
  have e1:decide ((L.length:Int)<(L.length:Int))=false:=by simp
  have hk:=hK M2 (-1) hM (.inl ⟨rfl,by rw[List.take_of_length_le (Nat.le_refl _)]at hp;exact List.all_eq_true.2 hp⟩)
  refine Go1.mk ?_;repeat' ((first|(with_reducible refine Go1.go ?_)|(refine And.intro ?_ ?_;(try simp only[sxO]at *);omega)|fail)<;>(try simp (maxSteps:=1000000) only [oiSt,hu2.one,e1,bs_mk,bs_app,bs_ext,bs_size,bs_toList,bs_at,bs_cells,List.take_length,imp_ga,guard_pk,guard_pk2,↓hold_pre,awayP,runOps,regK,step1,newK,genR,appR,obl,buildR,Value.cells,closeK,keepH,outV,retK,ret1,retC,RetV,Option.getD,runD,stepD,afterK,undef,simprocAttr,sxB,↓sxD,sxE,sxTab]))
  exact hk
 have e1:decide ((i:Int)<(L.length:Int))=true:=by rw[decide_eq_true_eq];omega
 have b1:(0:Int)≤(i:Int):=by omega
 have b2:(i:Int)<(L.length:Int):=by omega
 have hnn:=hu2.nn hlt
 have hat:=hu2.at (P:=Try.prog) (T:=46) (fun _=>rfl) tk46 tz46 hlt
 have hmem:=List.getElem_mem hlt
 have hF:=hL2 _ hmem
 have hnx:chkI L[i]=true→∀x∈L.take (i+1),chkI x=true:=fun hx x hm=>by
  rw[List.take_add_one,List.getElem?_eq_getElem hlt]at hm
  rcases List.mem_append.1 hm with h1|h1
  ·exact hp x h1
  ·have:x=L[i]:=by simpa using h1
   rw[this];exact hx
 have wi:IntKind.i64.wrap ((i:Int)+1)=((i+1:Nat):Int):=succ_i (by omega)
 generalize L[i]=x at *
 obtain ⟨pk,ts,x1,x2,y1,y2,co⟩:=x
 have hat:lookM Try.prog 46 M2 (elemP u 5 i)=some (.agg #[.string (bs pk),.string (bs ts),x1,x2,.int .i64 co]):=hat
 have hF1:IsF M2 x1 x2 y1 y2:=hF.f
 refine Go1.mk ?_;repeat' ((first|(with_reducible refine Go1.go ?_)|(((with_reducible refine isCall (f:=52) ?_);refine callA_nil (by kernel_rfl) ?_;refine (ochk1_ok ⟨pk,ts,x1,x2,y1,y2,co⟩ hF (fun M3 c1=>Stop.mk ?_))))|(refine And.intro ?_ ?_;(try simp only[sxO]at *);omega)|fail)<;>(try simp (maxSteps:=1000000) only [oiSt,hu2.one,hu2.len,hu2.sl,hnn,e1,b1,b2,hat,hF1.n.one,hF1.d.one,bs_mk,bs_app,bs_ext,bs_size,bs_toList,bs_at,bs_cells,List.take_length,imp_ga,guard_pk,guard_pk2,↓hold_pre,awayP,runOps,regK,step1,newK,genR,appR,obl,buildR,Value.cells,closeK,keepH,outV,retK,ret1,retC,RetV,Option.getD,runD,stepD,afterK,undef,simprocAttr,sxB,↓sxD,sxE,sxTab]))
 have c1:Mem.le M2 M3:=c1
 refine Stop.go ?_
 cases hc:chkI ⟨pk,ts,x1,x2,y1,y2,co⟩ with
 | true=>
  refine Go1.mk ?_;repeat' ((first|(with_reducible refine Go1.go ?_)|(refine And.intro ?_ ?_;(try simp only[sxO]at *);omega)|fail)<;>(try simp (maxSteps:=1000000) only [wi,bs_mk,bs_app,bs_ext,bs_size,bs_toList,bs_at,bs_cells,List.take_length,imp_ga,guard_pk,guard_pk2,↓hold_pre,awayP,runOps,regK,step1,newK,genR,appR,obl,buildR,Value.cells,closeK,keepH,outV,retK,ret1,retC,RetV,Option.getD,runD,stepD,afterK,undef,simprocAttr,sxB,↓sxD,sxE,sxTab]))
  exact ⟨L.length-(i+1),oiSt M3 u L.length (i+1),by omega,le_sub ⟨rfl,rfl,rfl,rfl,rfl,trivial⟩ trivial rfl rfl rfl (keepLt0 _),M3,i+1,rfl,by omega,hM.trans c1,hnx hc,rfl⟩
 | false=>
  have hk:=hK M3 i (hM.trans c1) (.inr ⟨by omega,by
   cases h:L.all chkI with
   | false=>rfl
   | true=>rw[List.all_eq_true.1 h _ hmem]at hc;cases hc⟩)
  refine Go1.mk ?_;repeat' ((first|(with_reducible refine Go1.go ?_)|(refine And.intro ?_ ?_;(try simp only[sxO]at *);omega)|fail)<;>(try simp (maxSteps:=1000000) only [wi,bs_mk,bs_app,bs_ext,bs_size,bs_toList,bs_at,bs_cells,List.take_length,imp_ga,guard_pk,guard_pk2,↓hold_pre,awayP,runOps,regK,step1,newK,genR,appR,obl,buildR,Value.cells,closeK,keepH,outV,retK,ret1,retC,RetV,Option.getD,runD,stepD,afterK,undef,simprocAttr,sxB,↓sxD,sxE,sxTab]))
  exact hk
theorem ocont_ok(hu:IsR M 5 IR.c u L)(hL:okIL M L)(hb:L.length<1000000)(hK:∀M',Mem.le M M'→K (.ext (.bool (!L.all chkI))) [] M'):CallS Try.prog 51 [.ext u,.fn 52 []] [] M [] K:=by
 refine inlS (cs:=[]) Try.mixed Try.func51 rfl (by kernel_rfl) 0 rfl rfl ?_
 simp only[Try.f51]
 refine Go1.mk ?_;repeat' ((first|(with_reducible refine Go1.go ?_)|(((with_reducible refine isCall (f:=72) ?_);refine callA_nil (by kernel_rfl) ?_;refine (oidx_ok hu hL hb (fun M3 r c1 c2=>Stop.mk ?_))))|(refine And.intro ?_ ?_;(try simp only[sxO]at *);omega)|fail)<;>(try simp (maxSteps:=1000000) only [hu.one,↓hold_pre,awayP,runOps,regK,step1,newK,genR,appR,obl,buildR,Value.cells,closeK,keepH,outV,retK,ret1,retC,RetV,Option.getD,runD,stepD,afterK,undef,simprocAttr,sxB,↓sxD,sxE,sxTab]))
 have hk:=hK M3 c1
 have c2:(r=-1∧L.all chkI=true)∨(0≤r∧L.all chkI=false):=by assumption
 refine Stop.go ?_
 rcases c2 with ⟨rfl,h⟩|⟨h1,h⟩
 ·rw[h]at hk
  refine Go1.mk ?_;repeat' ((first|(with_reducible refine Go1.go ?_)|(refine And.intro ?_ ?_;(try simp only[sxO]at *);omega)|fail)<;>(try simp (maxSteps:=1000000) only [↓hold_pre,awayP,runOps,regK,step1,newK,genR,appR,obl,buildR,Value.cells,closeK,keepH,outV,retK,ret1,retC,RetV,Option.getD,runD,stepD,afterK,undef,simprocAttr,sxB,↓sxD,sxE,sxTab]))
  exact hk
 ·rw[h]at hk
  have d1:decide (0≤r)=true:=decide_eq_true h1
  refine Go1.mk ?_;repeat' ((first|(with_reducible refine Go1.go ?_)|(refine And.intro ?_ ?_;(try simp only[sxO]at *);omega)|fail)<;>(try simp (maxSteps:=1000000) only [d1,↓hold_pre,awayP,runOps,regK,step1,newK,genR,appR,obl,buildR,Value.cells,closeK,keepH,outV,retK,ret1,retC,RetV,Option.getD,runD,stepD,afterK,undef,simprocAttr,sxB,↓sxD,sxE,sxTab]))
  exact hk
theorem ocheck_ok(hu:IsR M 5 IR.c u L)(hL:okIL M L)(hb:L.length<1000000)(hK:∀M',Mem.le M M'→K (.ext (.bool (chkIL L))) [] M'):CallS Try.prog 28 [.ext u] [] M [] K:=by
 refine inlS (cs:=[]) Try.mixed Try.func28 rfl (by kernel_rfl) 0 rfl rfl ?_
 simp only[Try.f28]
 unfold chkIL at hK
 by_cases h64:L.length≤64
 ·have d1:decide ((64:Int)<(L.length:Int))=false:=by rw[decide_eq_false_iff_not];omega
  rw[decide_eq_true h64]at hK
  refine Go1.mk ?_;repeat' ((first|(with_reducible refine Go1.go ?_)|(((with_reducible refine isCall (f:=51) ?_);refine callA_nil (by kernel_rfl) ?_;refine (ocont_ok hu hL hb (fun M3 c1=>Stop.mk ?_))))|(refine And.intro ?_ ?_;(try simp only[sxO]at *);omega)|fail)<;>(try simp (maxSteps:=1000000) only [hu.one,hu.len,hu.sl,d1,↓hold_pre,awayP,runOps,regK,step1,newK,genR,appR,obl,buildR,Value.cells,closeK,keepH,outV,retK,ret1,retC,RetV,Option.getD,runD,stepD,afterK,undef,simprocAttr,sxB,↓sxD,sxE,sxTab]))
  have hk:=hK M3 c1
  refine Stop.go ?_
  cases hc:L.all chkI with
  | true=>
   rw[hc]at hk
   refine Go1.mk ?_;repeat' ((first|(with_reducible refine Go1.go ?_)|(refine And.intro ?_ ?_;(try simp only[sxO]at *);omega)|fail)<;>(try simp (maxSteps:=1000000) only [↓hold_pre,awayP,runOps,regK,step1,newK,genR,appR,obl,buildR,Value.cells,closeK,keepH,outV,retK,ret1,retC,RetV,Option.getD,runD,stepD,afterK,undef,simprocAttr,sxB,↓sxD,sxE,sxTab]))
   exact hk
  | false=>
   rw[hc]at hk
   refine Go1.mk ?_;repeat' ((first|(with_reducible refine Go1.go ?_)|(refine And.intro ?_ ?_;(try simp only[sxO]at *);omega)|fail)<;>(try simp (maxSteps:=1000000) only [↓hold_pre,awayP,runOps,regK,step1,newK,genR,appR,obl,buildR,Value.cells,closeK,keepH,outV,retK,ret1,retC,RetV,Option.getD,runD,stepD,afterK,undef,simprocAttr,sxB,↓sxD,sxE,sxTab]))
   exact hk
 ·have d1:decide ((64:Int)<(L.length:Int))=true:=by rw[decide_eq_true_eq];omega
  rw[decide_eq_false h64]at hK
  have hk:=hK M (Mem.le.refl _)
  refine Go1.mk ?_;repeat' ((first|(with_reducible refine Go1.go ?_)|(refine And.intro ?_ ?_;(try simp only[sxO]at *);omega)|fail)<;>(try simp (maxSteps:=1000000) only [hu.one,hu.len,hu.sl,d1,↓hold_pre,awayP,runOps,regK,step1,newK,genR,appR,obl,buildR,Value.cells,closeK,keepH,outV,retK,ret1,retC,RetV,Option.getD,runD,stepD,afterK,undef,simprocAttr,sxB,↓sxD,sxE,sxTab]))
  exact hk
theorem ofF_one{n:Nat}(h:n<9223372036854775808):ofF (n:Int) 1=(0,n,1):=by
 have hl:(ofN n).length≤2:=ofN_len_le (by rw[show wN 2=18446744073709551616 from rfl];omega)
 have h1:(ofN 1).length≤128:=by rw[ofN_u32 (by decide) (by decide)];decide
 unfold ofF makF
 rw[if_neg (by omega),Int.toNat_natCast,show ((1:Int)).toNat=1 from rfl,chkN_ofN (by omega),chkN_ofN h1,Bool.and_self,if_pos rfl,valN_ofN,valN_ofN,if_neg (by decide),exF_is (by omega) h1,Nat.gcd_one_right,Nat.div_one,Nat.div_one]
theorem whole_ok(n:Nat)(hn:n<9223372036854775808)(hK:∀w1 w2 M',Mem.le M M'→IsL M' u32V w1 (ofN n)→IsL M' u32V w2 (ofN 1)→FreshS M w1→FreshS M w2→K (.ext (.agg #[w1,w2])) [] M'):CallS Try.prog 36 [.ext (.int .i64 (n:Int))] [] M [] K:=by
 refine inlS (cs:=[]) Try.mixed Try.func36 rfl (by kernel_rfl) 0 rfl rfl ?_
 simp only[Try.f36]
 have hf:=ofF_one hn
 refine Go1.mk ?_;repeat' ((first|(with_reducible refine Go1.go ?_)|(((with_reducible refine isCall (f:=58) ?_);refine callA_nil (by kernel_rfl) ?_;refine (fof_ok n 1 (by omega) (by omega) (by omega) (by omega) (fun w1 w2 M1 a1 a2 a3 a4 a5=>Stop.mk ?_))))|(refine And.intro ?_ ?_;(try simp only[sxO]at *);omega)|fail)<;>(try simp (maxSteps:=1000000) only [↓hold_pre,awayP,runOps,regK,step1,newK,genR,appR,obl,buildR,Value.cells,closeK,keepH,outV,retK,ret1,retC,RetV,Option.getD,runD,stepD,afterK,undef,simprocAttr,sxB,↓sxD,sxE,sxTab]))
 rw[hf]at a2 a3
 have hk:=hK w1 w2 M1 a1 a2 a3 a4 a5
 refine Stop.go ?_
 refine Go1.mk ?_;repeat' ((first|(with_reducible refine Go1.go ?_)|(refine And.intro ?_ ?_;(try simp only[sxO]at *);omega)|fail)<;>(try simp (maxSteps:=1000000) only [a2.one,a3.one,↓hold_pre,awayP,runOps,regK,step1,newK,genR,appR,obl,buildR,Value.cells,closeK,keepH,outV,retK,ret1,retC,RetV,Option.getD,runD,stepD,afterK,undef,simprocAttr,sxB,↓sxD,sxE,sxTab]))
 exact hk
end
structure FR where
 u1:Value
 u2:Value
 l1:List Nat
 l2:List Nat
def FR.c(x:FR):List Value:=[x.u1,x.u2]
def frC(L:List FR):List AV:=(L.flatMap FR.c).map .ext
theorem frC_len(L:List FR):(frC L).length=L.length*2:=by
 unfold frC
 rw[List.length_map,flat_len (z:=2) (fun _=>rfl)]
theorem frC_ment(L:List FR):mentL (frC L)=[]:=mentL_ext _
theorem killL_ext(k:Nat):∀vs:List Value,killL k (vs.map .ext)=vs.map .ext
 | []=>rfl
 | v :: r=>by simp only[List.map_cons,killL,AV.kill,killL_ext k r]
theorem frC_kill(k:Nat)(L:List FR):killL k (frC L)=frC L:=killL_ext _ _
theorem set_mid(A:List Nat)(u v:Nat)(B:List Nat):(A++u :: B).set A.length v=A++v :: B:=by
 induction A with
 | nil=>rfl
 | cons a r ih=>simp only[List.cons_append,List.length_cons,List.set_cons_succ,ih]
theorem set_two(A C B:List Nat)(u v:Nat){i j:Nat}(hi:i=A.length)(hj:j=A.length+1+C.length):((A++u :: (C++v :: B)).set i v).set j u=A++v :: (C++u :: B):=by
 subst hi hj
 rw[set_mid]
 have:=set_mid (A++v :: C) v u B
 rw[List.length_append,List.length_cons,List.append_assoc,List.append_assoc,show A.length+(C.length+1)=A.length+1+C.length by omega]at this
 exact this
theorem set_owt(A C B:List Nat)(u v:Nat){i j:Nat}(hi:i=A.length)(hj:j=A.length+1+C.length):((A++u :: (C++v :: B)).set j u).set i v=A++v :: (C++u :: B):=by
 rw[List.set_comm _ _ (by omega)];exact set_two A C B u v hi hj
theorem at_mid(A:List Nat)(u:Nat)(B:List Nat){i:Nat}(hi:i=A.length):(cE natV (A++u :: B))[i]? = some (.ext (natV u)):=by
 subst hi
 have:=cE_at natV (l:=A++u :: B) (i:=A.length) (by simp)
 rw[this];simp
theorem nat_set(L:List Nat)(i x:Nat):(cE natV L).set i (.ext (.int .i64 (x:Int)))=cE natV (L.set i x):=cE_set natV L i x
section
variable {M:Mem}{K:AV→Hp→Mem→Prop}(ul:Value)(nr:Nat)(R:List FR)
def so_swSt(M:Mem)(ul:Value)(nr:Nat)(R:List FR)(N:Nat)(D:List Nat)(a b n i:Nat):St:={env:=[(10,.ext (.int .i64 (i:Int))),(1,.ext (.int .i64 (a:Int))),(2,.ext (.int .i64 (b:Int))),(3,.ext (.int .i64 (n:Int))),(0,.slo 114 0 N 1)],hp:=[(114,3,cE natV (D)),(1,26,[.ext ul]),(4,66,[.slo 12 0 nr 2]),(12,34,frC R)],M:=M,kb:=200,fx:=[114,1,4,12]}
theorem swap_ok(A U C V B:List Nat)(a b n N:Nat)(ha:a=A.length)(hb:b=A.length+U.length+C.length)(hU:U.length=n)(hV:V.length=n)(hN:(A++U++C++V++B).length=N)(hN2:N<1000000)(hK:K (.ext (.tuple #[])) [(114,3,cE natV (A++V++C++U++B)),(1,26,[.ext ul]),(4,66,[.slo 12 0 nr 2]),(12,34,frC R)] M) :
  CallS Try.prog 109 [.slo 114 0 N 1,.ext (.int .i64 (a:Int)),.ext (.int .i64 (b:Int)),.ext (.int .i64 (n:Int)),.fn 38 [.own 1 0,.own 4 0]] [(114,3,cE natV (A++U++C++V++B)),(1,26,[.ext ul]),(4,66,[.slo 12 0 nr 2]),(12,34,frC R)] M [] K:=by
 refine inlS (cs:=[]) Try.mixed Try.func109 rfl (by kernel_rfl) 200 rfl rfl ?_
 simp only[Try.f109]
 refine Go1.mk ?_;repeat' ((first|(with_reducible refine Go1.go ?_)|((with_reducible refine isDraw [some 16,some 17,some 18,some 19,some 20,some 21,some 22,some 23,some 24,some 25,some 26,some 27,some 28,some 29,some 30,some 31,some 32,some 33,some 34,some 35,some 36,none,some 37,none] (by decide) ?_);refine draw_rule [(0,[]),(1,[]),(2,[]),(3,[]),(4,[]),(5,[]),(6,[]),(7,[]),(8,[]),(9,[]),(10,[]),(11,[]),(12,[]),(13,[]),(14,[13]),(15,[13]),(16,[13]),(17,[13]),(18,[13]),(19,[13]),(20,[]),(21,[]),(22,[]),(23,[])] [[],[],[],[1,2],[],[],[],[5,6],[],[],[],[9,10],[8,9,10,11],[8,9,10,11,12],[],[],[],[15,16],[14,15,16,17],[14,15,16,17,18],[0,1,2,3,8,9,10,11,12,13,14,15,16,17,18,19],[0,1,2,3,8,9,10,11,12,13,14,15,16,17,18,19,20],[0,1,2,3,4,5,6,7,8,9,10,11,12,13,14,15,16,17,18,19,20,21],[0,1,2,3,4,5,6,7,8,9,10,11,12,13,14,15,16,17,18,19,20,21,22]] [16,17,18,19,20,21,22,23,24,25,26,27,28,29,30,31,32,33,34,35,36] [] (by kernel_rfl) (by kernel_rfl) (by kernel_rfl) (by kernel_rfl) (by exact trivial) ?_)|(refine And.intro ?_ ?_;(try simp only[sxO]at *);omega)|fail)<;>(try simp (maxSteps:=1000000) only [natV,cE_ment,cE_kill,cE_len,hasK_nil,Nat.mul_one,List.length_set,frC_len,frC_ment,frC_kill,↓hold_pre,awayP,runOps,regK,step1,newK,genR,appR,obl,buildR,Value.cells,closeK,keepH,outV,retK,ret1,retC,RetV,Option.getD,runD,stepD,afterK,undef,simprocAttr,sxB,↓sxD,sxE,sxTab]))
 refine ⟨fun m z=>∃U1 U2 V1 V2 D,U=U1++U2∧V=V1++V2∧U1.length=V1.length∧m=U2.length∧D=A++V1++U2++C++U1++V2++B∧z=so_swSt M ul nr R N D a b n U1.length,
  ⟨n,so_swSt M ul nr R N (A++U++C++V++B) a b n 0,le_sub ⟨rfl,rfl,rfl,rfl,rfl,trivial⟩ ⟨by simp[lkH],by simp[lkH],by simp[lkH],by simp[lkH],trivial⟩ rfl rfl rfl (by simp[keepLt,so_swSt,lkH]),⟨[],U,[],V,_,rfl,rfl,rfl,hU.symm,by simp,rfl⟩⟩,?_⟩
 rintro m z ⟨U1,U2,V1,V2,D,rfl,rfl,hl,rfl,hD,rfl⟩
 rw[List.length_append]at hU hV
 simp only[List.length_append]at hN hb
 have hDl:D.length=N:=by rw[hD];simp only[List.length_append];omega
 rcases U2 with _|⟨u,U2⟩
 ·rcases V2 with _|⟨v,V2⟩
  ·have d1:decide ((U1.length:Int)<(n:Int))=false:=by rw[decide_eq_false_iff_not];simp only[List.length_nil]at hU;omega
   refine Go1.mk ?_;repeat' ((first|(with_reducible refine Go1.go ?_)|(refine And.intro ?_ ?_;(try simp only[sxO]at *);omega)|fail)<;>(try simp (maxSteps:=1000000) only [so_swSt,d1,natV,cE_ment,cE_kill,cE_len,hasK_nil,Nat.mul_one,List.length_set,frC_len,frC_ment,frC_kill,↓hold_pre,awayP,runOps,regK,step1,newK,genR,appR,obl,buildR,Value.cells,closeK,keepH,outV,retK,ret1,retC,RetV,Option.getD,runD,stepD,afterK,undef,simprocAttr,sxB,↓sxD,sxE,sxTab]))
   simp only[List.append_nil]at hD hK
   rw[hD]
   exact hK
  ·simp only[List.length_nil,List.length_cons]at hU hV;omega
 ·rcases V2 with _|⟨v,V2⟩
  ·simp only[List.length_nil,List.length_cons]at hU hV;omega
  simp only[List.length_cons]at hU hV hN hb
  have d1:decide ((U1.length:Int)<(n:Int))=true:=by rw[decide_eq_true_eq];omega
  have e1:D=(A++V1)++u :: ((U2++C++U1)++v :: (V2++B)):=by rw[hD];simp
  have e2:D=((A++V1)++u :: (U2++C++U1))++v :: (V2++B):=by rw[e1];simp
  have ai:a+U1.length=(A++V1).length:=by rw[List.length_append];omega
  have bi:b+U1.length=(A++V1).length+1+(U2++C++U1).length:=by simp only[List.length_append];omega
  have bi2:b+U1.length=((A++V1)++u :: (U2++C++U1)).length:=by rw[bi];simp only[List.length_append,List.length_cons];omega
  have h1:=at_mid (A++V1) u ((U2++C++U1)++v :: (V2++B)) ai
  rw[←e1]at h1
  have h2:=at_mid ((A++V1)++u :: (U2++C++U1)) v (V2++B) bi2
  rw[←e2]at h2
  have h3:=set_two (A++V1) (U2++C++U1) (V2++B) u v ai bi
  rw[←e1]at h3
  have w1:IntKind.i64.wrap ((a:Int)+(U1.length:Int))=((a+U1.length:Nat):Int):=by rw[wrap_id (by omega) (by omega)];omega
  have w2:IntKind.i64.wrap ((b:Int)+(U1.length:Int))=((b+U1.length:Nat):Int):=by rw[wrap_id (by omega) (by omega)];omega
  have w3:IntKind.i64.wrap ((U1.length:Int)+1)=((U1.length+1:Nat):Int):=succ_i (by omega)
  have k1:=nat_set D (a+U1.length) v
  have k2:=nat_set (D.set (a+U1.length) v) (b+U1.length) u
  refine Go1.mk ?_;repeat' ((first|(with_reducible refine Go1.go ?_)|((with_reducible refine isDraw [some 16,some 17,some 18,some 19,some 20,some 21,some 22,some 23,some 24,some 25,some 26,some 27,some 28,some 29,some 30,some 31,some 32,some 33,some 34,some 35,some 36,none,some 37,none] (by decide) ?_);refine draw_rule [(0,[]),(1,[]),(2,[]),(3,[]),(4,[]),(5,[]),(6,[]),(7,[]),(8,[]),(9,[]),(10,[]),(11,[]),(12,[]),(13,[]),(14,[13]),(15,[13]),(16,[13]),(17,[13]),(18,[13]),(19,[13]),(20,[]),(21,[]),(22,[]),(23,[])] [[],[],[],[1,2],[],[],[],[5,6],[],[],[],[9,10],[8,9,10,11],[8,9,10,11,12],[],[],[],[15,16],[14,15,16,17],[14,15,16,17,18],[0,1,2,3,8,9,10,11,12,13,14,15,16,17,18,19],[0,1,2,3,8,9,10,11,12,13,14,15,16,17,18,19,20],[0,1,2,3,4,5,6,7,8,9,10,11,12,13,14,15,16,17,18,19,20,21],[0,1,2,3,4,5,6,7,8,9,10,11,12,13,14,15,16,17,18,19,20,21,22]] [16,17,18,19,20,21,22,23,24,25,26,27,28,29,30,31,32,33,34,35,36] [] (by kernel_rfl) (by kernel_rfl) (by kernel_rfl) (by kernel_rfl) (by exact trivial) ?_)|(refine And.intro ?_ ?_;(try simp only[sxO]at *);omega)|fail)<;>(try simp (maxSteps:=1000000) only [so_swSt,d1,h1,h2,k1,k2,h3,hDl,w1,w2,w3,natV,cE_ment,cE_kill,cE_len,hasK_nil,Nat.mul_one,List.length_set,frC_len,frC_ment,frC_kill,↓hold_pre,awayP,runOps,regK,step1,newK,genR,appR,obl,buildR,Value.cells,closeK,keepH,outV,retK,ret1,retC,RetV,Option.getD,runD,stepD,afterK,undef,simprocAttr,sxB,↓sxD,sxE,sxTab]))
  exact ⟨U2.length,so_swSt M ul nr R N ((A++V1)++v :: ((U2++C++U1)++u :: (V2++B))) a b n (U1.length+1),by simp,le_sub ⟨rfl,rfl,rfl,rfl,rfl,trivial⟩ ⟨by simp[lkH],by simp[lkH],by simp[lkH],by simp[lkH],trivial⟩ rfl rfl rfl (by simp[keepLt,so_swSt,lkH]),U1++[u],U2,V1++[v],V2,(A++V1)++v :: ((U2++C++U1)++u :: (V2++B)),by simp,by simp,by simp[hl],rfl,by simp,by rw[List.length_append];rfl⟩
end
section
variable {M:Mem}{K:AV→Hp→Mem→Prop}(ul:Value)(nr:Nat)(R:List FR)
theorem swapD_ok(A U C V B D D':List Nat)(a b n N:Nat)(hD:D=A++U++C++V++B)(hD':D'=A++V++C++U++B)(ha:a=A.length)(hb:b=A.length+U.length+C.length)(hU:U.length=n)(hV:V.length=n)(hN:D.length=N)(hN2:N<1000000)(hK:K (.ext (.tuple #[])) [(114,3,cE natV (D')),(1,26,[.ext ul]),(4,66,[.slo 12 0 nr 2]),(12,34,frC R)] M) :
  CallS Try.prog 109 [.slo 114 0 N 1,.ext (.int .i64 (a:Int)),.ext (.int .i64 (b:Int)),.ext (.int .i64 (n:Int)),.fn 38 [.own 1 0,.own 4 0]] [(114,3,cE natV (D)),(1,26,[.ext ul]),(4,66,[.slo 12 0 nr 2]),(12,34,frC R)] M [] K:=by
 subst hD hD'
 exact swap_ok ul nr R A U C V B a b n N ha hb hU hV hN hN2 hK
def so_roSt(M:Mem)(ul:Value)(nr:Nat)(R:List FR)(N:Nat)(D:List Nat)(m i j:Nat):St:={env:=[(11,.ext (.int .i64 (j:Int))),(10,.ext (.int .i64 (i:Int))),(4,.fn 38 [.own 1 0,.own 4 0]),(2,.ext (.int .i64 (m:Int))),(0,.slo 114 0 N 1)],hp:=[(114,3,cE natV (D)),(1,26,[.ext ul]),(4,66,[.slo 12 0 nr 2]),(12,34,frC R)],M:=M,kb:=200,fx:=[114,1,4,12]}
theorem rot_ok(A U V B D D':List Nat)(a m b N:Nat)(hD:D=A++U++V++B)(hD':D'=A++V++U++B)(ha:a=A.length)(hm:m=A.length+U.length)(hb:b=A.length+U.length+V.length)(hU:0<U.length)(hV:0<V.length)(hN:D.length=N)(hN2:N<1000000)(hK:K (.ext (.tuple #[])) [(114,3,cE natV (D')),(1,26,[.ext ul]),(4,66,[.slo 12 0 nr 2]),(12,34,frC R)] M) :
  CallS Try.prog 107 [.slo 114 0 N 1,.ext (.int .i64 (a:Int)),.ext (.int .i64 (m:Int)),.ext (.int .i64 (b:Int)),.fn 38 [.own 1 0,.own 4 0]] [(114,3,cE natV (D)),(1,26,[.ext ul]),(4,66,[.slo 12 0 nr 2]),(12,34,frC R)] M [] K:=by
 refine inlS (cs:=[]) Try.mixed Try.func107 rfl (by kernel_rfl) 200 rfl rfl ?_
 simp only[Try.f107]
 have hL:=congrArg List.length hD
 simp only[List.length_append]at hL
 have w1:IntKind.i64.wrap ((m:Int)-(a:Int))=(U.length:Int):=by rw[wrap_id (by omega) (by omega)];omega
 have w2:IntKind.i64.wrap ((b:Int)-(m:Int))=(V.length:Int):=by rw[wrap_id (by omega) (by omega)];omega
 refine Go1.mk ?_;repeat' ((first|(with_reducible refine Go1.go ?_)|(refine And.intro ?_ ?_;(try simp only[sxO]at *);omega)|fail)<;>(try simp (maxSteps:=1000000) only [w1,w2,natV,cE_ment,cE_kill,cE_len,hasK_nil,Nat.mul_one,List.length_set,frC_len,frC_ment,frC_kill,↓hold_pre,awayP,runOps,regK,step1,newK,genR,appR,obl,buildR,Value.cells,closeK,keepH,outV,retK,ret1,retC,RetV,Option.getD,runD,stepD,afterK,undef,simprocAttr,sxB,↓sxD,sxE,sxTab]))
 refine ⟨fun d z=>∃A' X Y B' E,d=X.length+Y.length∧0<X.length∧0<Y.length∧m=A'.length+X.length∧E=A'++X++Y++B'∧A'++Y++X++B'=D'∧E.length=N∧z=so_roSt M ul nr R N E m X.length Y.length,
  ⟨U.length+V.length,so_roSt M ul nr R N D m U.length V.length,le_sub ⟨rfl,rfl,rfl,rfl,rfl,trivial⟩ ⟨by first|rfl|simp[lkH],by first|rfl|simp[lkH],by first|rfl|simp[lkH],by first|rfl|simp[lkH],trivial⟩ rfl rfl rfl (by simp[keepLt,so_roSt,lkH]),⟨A,U,V,B,D,rfl,hU,hV,hm,hD,hD'.symm,hN,rfl⟩⟩,?_⟩
 clear hD hL w1 w2
 rintro d z ⟨A',X,Y,B',E,rfl,hX,hY,hm2,hE,hT,hEN,rfl⟩
 have hL:=congrArg List.length hE
 simp only[List.length_append]at hL
 have w3:IntKind.i64.wrap ((m:Int)-(X.length:Int))=(A'.length:Int):=by rw[wrap_id (by omega) (by omega)];omega
 by_cases heq:X.length=Y.length
 ·have d1:decide ((X.length:Int)=(Y.length:Int))=true:=by rw[decide_eq_true_eq];omega
  refine Go1.mk ?_;repeat' ((first|(with_reducible refine Go1.go ?_)|((with_reducible refine isCall (f:=109) ?_);refine callA ?_)|((with_reducible refine isCallS (f:=109) ?_);refine (swapD_ok ul nr R A' X [] Y B' E D' _ _ _ N (by rw[hE];simp) (by rw[←hT];simp) rfl (by simp;omega) rfl (by omega) hEN hN2 ?_))|(refine And.intro ?_ ?_;(try simp only[sxO]at *);omega)|fail)<;>(try simp (maxSteps:=1000000) only [so_roSt,d1,w3,natV,cE_ment,cE_kill,cE_len,hasK_nil,Nat.mul_one,List.length_set,frC_len,frC_ment,frC_kill,↓hold_pre,awayP,runOps,regK,step1,newK,genR,appR,obl,buildR,Value.cells,closeK,keepH,outV,retK,ret1,retC,RetV,Option.getD,runD,stepD,afterK,undef,simprocAttr,sxB,↓sxD,sxE,sxTab]))
  exact hK
 have d1:decide ((X.length:Int)=(Y.length:Int))=false:=by rw[decide_eq_false_iff_not];omega
 by_cases hgt:Y.length<X.length
 ·have d2:decide ((Y.length:Int)<(X.length:Int))=true:=by rw[decide_eq_true_eq];omega
  obtain ⟨X1,X2,hX12,hX1⟩:∃X1 X2,X=X1++X2∧X1.length=Y.length:=⟨X.take Y.length,X.drop Y.length,(List.take_append_drop _ _).symm,by rw[List.length_take];omega⟩
  have hX2:X.length=X1.length+X2.length:=by rw[hX12,List.length_append]
  have w4:IntKind.i64.wrap ((X.length:Int)-(Y.length:Int))=(X2.length:Int):=by rw[wrap_id (by omega) (by omega)];omega
  refine Go1.mk ?_;repeat' ((first|(with_reducible refine Go1.go ?_)|((with_reducible refine isCall (f:=109) ?_);refine callA ?_)|((with_reducible refine isCallS (f:=109) ?_);refine (swapD_ok ul nr R A' X1 X2 Y B' E (A'++Y++X2++X1++B') _ _ _ N (by rw[hE,hX12];simp) rfl rfl (by omega) hX1 rfl hEN hN2 ?_))|(refine And.intro ?_ ?_;(try simp only[sxO]at *);omega)|fail)<;>(try simp (maxSteps:=1000000) only [so_roSt,d1,d2,w3,w4,natV,cE_ment,cE_kill,cE_len,hasK_nil,Nat.mul_one,List.length_set,frC_len,frC_ment,frC_kill,↓hold_pre,awayP,runOps,regK,step1,newK,genR,appR,obl,buildR,Value.cells,closeK,keepH,outV,retK,ret1,retC,RetV,Option.getD,runD,stepD,afterK,undef,simprocAttr,sxB,↓sxD,sxE,sxTab]))
  exact ⟨X2.length+X1.length,so_roSt M ul nr R N (A'++Y++X2++X1++B') m X2.length X1.length,by omega,le_sub ⟨by rw[hX1];rfl,rfl,rfl,rfl,rfl,trivial⟩ ⟨by first|rfl|simp[lkH],by first|rfl|simp[lkH],by first|rfl|simp[lkH],by first|rfl|simp[lkH],trivial⟩ rfl rfl rfl (by simp[keepLt,so_roSt,lkH]),A'++Y,X2,X1,B',_,rfl,by omega,by omega,by rw[List.length_append];omega,rfl,by rw[←hT,hX12];simp,by simp only[List.length_append];omega,rfl⟩
 ·have d2:decide ((Y.length:Int)<(X.length:Int))=false:=by rw[decide_eq_false_iff_not];omega
  obtain ⟨Y1,Y2,hY12,hY2⟩:∃Y1 Y2,Y=Y1++Y2∧Y2.length=X.length:=⟨Y.take (Y.length-X.length),Y.drop (Y.length-X.length),(List.take_append_drop _ _).symm,by rw[List.length_drop];omega⟩
  have hY1:Y.length=Y1.length+Y2.length:=by rw[hY12,List.length_append]
  have w4:IntKind.i64.wrap ((m:Int)+(Y.length:Int))=((m+Y.length:Nat):Int):=by rw[wrap_id (by omega) (by omega)];omega
  have w5:IntKind.i64.wrap (((m+Y.length:Nat):Int)-(X.length:Int))=((A'.length+X.length+Y1.length:Nat):Int):=by rw[wrap_id (by omega) (by omega)];omega
  have w6:IntKind.i64.wrap ((Y.length:Int)-(X.length:Int))=(Y1.length:Int):=by rw[wrap_id (by omega) (by omega)];omega
  refine Go1.mk ?_;repeat' ((first|(with_reducible refine Go1.go ?_)|((with_reducible refine isCall (f:=109) ?_);refine callA ?_)|((with_reducible refine isCallS (f:=109) ?_);refine (swapD_ok ul nr R A' X Y1 Y2 B' E (A'++Y2++Y1++X++B') _ _ _ N (by rw[hE,hY12];simp) rfl rfl rfl rfl hY2 hEN hN2 ?_))|(refine And.intro ?_ ?_;(try simp only[sxO]at *);omega)|fail)<;>(try simp (maxSteps:=1000000) only [so_roSt,d1,d2,w3,w4,w5,w6,natV,cE_ment,cE_kill,cE_len,hasK_nil,Nat.mul_one,List.length_set,frC_len,frC_ment,frC_kill,↓hold_pre,awayP,runOps,regK,step1,newK,genR,appR,obl,buildR,Value.cells,closeK,keepH,outV,retK,ret1,retC,RetV,Option.getD,runD,stepD,afterK,undef,simprocAttr,sxB,↓sxD,sxE,sxTab]))
  exact ⟨Y2.length+Y1.length,so_roSt M ul nr R N (A'++Y2++Y1++X++B') m Y2.length Y1.length,by omega,le_sub ⟨rfl,by rw[hY2];rfl,rfl,rfl,rfl,trivial⟩ ⟨by first|rfl|simp[lkH],by first|rfl|simp[lkH],by first|rfl|simp[lkH],by first|rfl|simp[lkH],trivial⟩ rfl rfl rfl (by simp[keepLt,so_roSt,lkH]),A',Y2,Y1,X++B',_,rfl,by omega,by omega,by omega,by simp,by rw[←hT,hY12];simp,by simp only[List.length_append];omega,rfl⟩
end
end Go.Proofs.Ytjapnklocibgaaa.Sx
namespace Go.Proofs.Ytjapnklocibgaaa.Sx
structure CmpO (c:Nat→Nat→Int):Prop where
 anti:∀x y,c x y<0↔0<c y x
 tr:∀x y z,c x y≤0→c y z≤0→c x z≤0
def ltS(c:Nat→Nat→Int)(x y:Nat):Prop:=c x y<0∨(c x y=0∧x<y)
variable {c:Nat→Nat→Int}
theorem CmpO.zero(h:CmpO c){x y:Nat}(e:c x y=0):c y x=0:=by
 have h1:=h.anti x y
 have h2:=h.anti y x
 omega
theorem CmpO.lt_le(h:CmpO c){x y z:Nat}(h1:c x y<0)(h2:c y z≤0):c x z<0:=by
 have h3:=h.tr x y z (by omega) h2
 rcases Int.lt_or_eq_of_le h3 with h4|h4
 ·exact h4
 ·have h5:=h.zero h4
  have h6:=h.tr y z x h2 (by omega)
  have h7:=h.anti x y
  omega
theorem CmpO.le_lt(h:CmpO c){x y z:Nat}(h1:c x y≤0)(h2:c y z<0):c x z<0:=by
 have h3:=h.tr x y z h1 (by omega)
 rcases Int.lt_or_eq_of_le h3 with h4|h4
 ·exact h4
 ·have h5:=h.zero h4
  have h6:=h.tr z x y (by omega) h1
  have h7:=h.anti y z
  omega
theorem ltS_trans(h:CmpO c){x y z:Nat}(h1:ltS c x y)(h2:ltS c y z):ltS c x z:=by
 rcases h1 with h1|⟨h1,h1'⟩
 ·rcases h2 with h2|⟨h2,_⟩
  ·exact .inl (h.lt_le h1 (by omega))
  ·exact .inl (h.lt_le h1 (by omega))
 ·rcases h2 with h2|⟨h2,h2'⟩
  ·exact .inl (h.le_lt (by omega) h2)
  ·refine .inr ⟨?_,by omega⟩
   have h3:=h.tr x y z (by omega) (by omega)
   have h4:=h.tr z y x (by have:=h.zero h2;omega) (by have:=h.zero h1;omega)
   have h5:=h.anti x z
   omega
theorem ltS_total(h:CmpO c){x y:Nat}(hn:x≠y):ltS c x y∨ltS c y x:=by
 have h1:=h.anti x y
 have h2:=h.anti y x
 unfold ltS
 by_cases h3:c x y<0
 ·exact .inl (.inl h3)
 ·by_cases h4:c y x<0
  ·exact .inr (.inl h4)
  ·have:c x y=0:=by omega
   have:c y x=0:=by omega
   rcases Nat.lt_or_gt_of_ne hn with h5|h5
   ·exact .inl (.inr ⟨by assumption,h5⟩)
   ·exact .inr (.inr ⟨by assumption,h5⟩)
theorem ltS_irrefl(h:CmpO c){x:Nat}:¬ltS c x x:=fun h1=>by
 have h2:=h.anti x x
 rcases h1 with h1|⟨_,h1⟩<;>omega
theorem ltS_asymm(h:CmpO c){x y:Nat}(h1:ltS c x y):¬ltS c y x:=fun h2=>ltS_irrefl h (ltS_trans h h1 h2)
theorem ltS_ask{x y:Nat}(h:x<y):(c y x<0)↔ltS c y x:=⟨fun h1=>.inl h1,fun h1=>by
 rcases h1 with h1|⟨_,h1⟩
 ·exact h1
 ·omega⟩
theorem ltS_not(h:CmpO c){x y:Nat}(hxy:x<y)(h1:¬c y x<0):ltS c x y:=by
 rcases ltS_total h (Nat.ne_of_lt hxy) with h2|h2
 ·exact h2
 ·exact absurd ((ltS_ask hxy).2 h2) h1
def ahead(c:Nat→Nat→Int)(A B:List Nat):Prop:=∀x∈A,∀y∈B,ltS c x y
theorem pw_app{A B:List Nat}:(A++B).Pairwise (ltS c)↔A.Pairwise (ltS c)∧B.Pairwise (ltS c)∧ahead c A B:=by
 rw[List.pairwise_append];rfl
theorem ahead_ends(h:CmpO c){A B:List Nat}(hA:A.Pairwise (ltS c))(hB:B.Pairwise (ltS c))(he:∀A' x y B',A=A'++[x]→B=y :: B'→ltS c x y):ahead c A B:=fun x hx y hy=>by
 rcases List.eq_nil_or_concat A with rfl|⟨A',a,rfl⟩
 ·cases hx
 rcases B with _|⟨b,B'⟩
 ·cases hy
 rw[List.concat_eq_append]at hA hx he
 have h1:=he A' a b B' rfl rfl
 have h2:x=a∨ltS c x a:=by
  rcases List.mem_append.1 hx with h3|h3
  ·exact .inr ((List.pairwise_append.1 hA).2.2 x h3 a (by simp))
  ·exact .inl (List.mem_singleton.1 h3)
 have h3:y=b∨ltS c b y:=by
  rcases List.mem_cons.1 hy with h4|h4
  ·exact .inl h4
  ·exact .inr ((List.pairwise_cons.1 hB).1 y h4)
 have h4:ltS c a y:=by
  rcases h3 with rfl|h3
  ·exact h1
  ·exact ltS_trans h h1 h3
 rcases h2 with rfl|h2
 ·exact h4
 ·exact ltS_trans h h2 h4
theorem sorted_one(h:CmpO c):∀{A B:List Nat},A.Perm B→A.Pairwise (ltS c)→B.Pairwise (ltS c)→A=B
 | [],B,hp,_,_=>by rw[List.nil_perm]at hp;exact hp.symm
 | a :: A,[],hp,_,_=>by rw[List.perm_nil]at hp;exact hp
 | a :: A,b :: B,hp,hA,hB=>by
  have hab:a=b:=by
   have h1:a∈b :: B:=hp.subset List.mem_cons_self
   have h2:b∈a :: A:=hp.symm.subset List.mem_cons_self
   rcases List.mem_cons.1 h1 with h1|h1
   ·exact h1
   ·rcases List.mem_cons.1 h2 with h2|h2
    ·exact h2.symm
    ·exact absurd ((List.pairwise_cons.1 hA).1 b h2) (ltS_asymm h ((List.pairwise_cons.1 hB).1 a h1))
  subst hab
  rw[sorted_one h ((List.perm_cons a).1 hp) (List.pairwise_cons.1 hA).2 (List.pairwise_cons.1 hB).2]
end Go.Proofs.Ytjapnklocibgaaa.Sx
namespace Go.Proofs.Ytjapnklocibgaaa.Sx
open Go Go.RowKit
set_option linter.unusedVariables false
set_option linter.unusedSimpArgs false
set_option maxRecDepth 100000
set_option maxHeartbeats 8000000
attribute [local congr] fin_congr finG_congr stepG_congr step1_congr runOps_congr brv_congr obl_congr condK_congr LoopK_congr seqK_congr CutK_congr vc_congr DrawK_congr regK_congr CallK_congr AskK_congr newK_congr retC_congr ret1_congr retK_congr outV_congr closeK_congr genR_congr appR_congr finD_congr finGD_congr stepGD_congr stepD_congr CallK0_congr runD_congr okR_congr CallS_congr vcX_congr
attribute [local congr] Stop_congr
def CmpK(M:Mem)(ul:Value)(nr:Nat)(R:List FR)(c:Nat→Nat→Int)(NN:Nat):Prop:=∀(x y:Nat) (M1:Mem) (K:AV→Hp→Mem→Prop),x<NN→y<NN→Mem.le M M1→(∀M2,Mem.le M1 M2→K (.ext (.int .i64 (c x y))) [(1,26,[.ext ul]),(4,66,[.slo 12 0 nr 2]),(12,34,frC R)] M2)→CallS Try.prog 38 [.ext (.int .i64 (x:Int)),.ext (.int .i64 (y:Int)),.own 1 0,.own 4 0] [(1,26,[.ext ul]),(4,66,[.slo 12 0 nr 2]),(12,34,frC R)] M1 [] K
section
variable {M:Mem}{K:AV→Hp→Mem→Prop}(ul:Value)(nr:Nat)(R:List FR){c:Nat→Nat→Int}
def so_ioSt(M:Mem)(ul:Value)(nr:Nat)(R:List FR)(N:Nat)(D:List Nat)(a b i:Nat):St:={env:=[(8,.ext (.int .i64 (i:Int))),(3,.fn 38 [.own 1 0,.own 4 0]),(2,.ext (.int .i64 (b:Int))),(1,.ext (.int .i64 (a:Int))),(0,.slo 114 0 N 1)],hp:=[(114,3,cE natV (D)),(1,26,[.ext ul]),(4,66,[.slo 12 0 nr 2]),(12,34,frC R)],M:=M,kb:=200,fx:=[114,1,4,12]}
def so_iiSt(M:Mem)(ul:Value)(nr:Nat)(R:List FR)(N:Nat)(D:List Nat)(a b i j:Nat):St:={env:=[(9,.ext (.int .i64 (j:Int))),(8,.ext (.int .i64 (i:Int))),(3,.fn 38 [.own 1 0,.own 4 0]),(2,.ext (.int .i64 (b:Int))),(1,.ext (.int .i64 (a:Int))),(0,.slo 114 0 N 1)],hp:=[(114,3,cE natV (D)),(1,26,[.ext ul]),(4,66,[.slo 12 0 nr 2]),(12,34,frC R)],M:=M,kb:=200,fx:=[114,1,4,12]}
theorem ins_ok(ho:CmpO c)(NN:Nat)(hc:CmpK M ul nr R c NN)(A S B D:List Nat)(a b N:Nat)(hD:D=A++S++B)(ha:a=A.length)(hb:b=A.length+S.length)(hS:S.Pairwise (· < ·))(hSN:∀x∈S,x<NN)(hN:D.length=N)(hN2:N<1000000)
  (hK:∀S' M',Mem.le M M'→S'.Perm S→S'.Pairwise (ltS c)→K (.ext (.tuple #[])) [(114,3,cE natV (A++S'++B)),(1,26,[.ext ul]),(4,66,[.slo 12 0 nr 2]),(12,34,frC R)] M') :
  CallS Try.prog 99 [.slo 114 0 N 1,.ext (.int .i64 (a:Int)),.ext (.int .i64 (b:Int)),.fn 38 [.own 1 0,.own 4 0]] [(114,3,cE natV (D)),(1,26,[.ext ul]),(4,66,[.slo 12 0 nr 2]),(12,34,frC R)] M [] K:=by
 refine inlS (cs:=[]) Try.mixed Try.func99 rfl (by kernel_rfl) 200 rfl rfl ?_
 simp only[Try.f99]
 have hL:=congrArg List.length hD
 simp only[List.length_append]at hL
 have w1:IntKind.i64.wrap ((a:Int)+1)=((a+1:Nat):Int):=succ_i (by omega)
 refine Go1.mk ?_;repeat' ((first|(with_reducible refine Go1.go ?_)|(refine And.intro ?_ ?_;(try simp only[sxO]at *);omega)|fail)<;>(try simp (maxSteps:=1000000) only [w1,natV,cE_ment,cE_kill,cE_len,hasK_nil,Nat.mul_one,List.length_set,frC_len,frC_ment,frC_kill,↓hold_pre,awayP,runOps,regK,step1,newK,genR,appR,obl,buildR,Value.cells,closeK,keepH,outV,retK,ret1,retC,RetV,Option.getD,runD,stepD,afterK,undef,simprocAttr,sxB,↓sxD,sxE,sxTab]))
 rcases S with _|⟨s0,S0⟩
 ·refine ⟨fun m z=>z=so_ioSt M ul nr R N D a b (a+1),⟨0,so_ioSt M ul nr R N D a b (a+1),le_sub ⟨rfl,rfl,rfl,rfl,rfl,trivial⟩ ⟨by first|rfl|simp[lkH],by first|rfl|simp[lkH],by first|rfl|simp[lkH],by first|rfl|simp[lkH],trivial⟩ rfl rfl rfl (by simp[keepLt,so_ioSt,lkH]),rfl⟩,?_⟩
  rintro m z rfl
  have d1:decide (((a+1:Nat):Int)<(b:Int))=false:=by rw[decide_eq_false_iff_not];simp only[List.length_nil]at hb;omega
  refine Go1.mk ?_;repeat' ((first|(with_reducible refine Go1.go ?_)|(refine And.intro ?_ ?_;(try simp only[sxO]at *);omega)|fail)<;>(try simp (maxSteps:=1000000) only [so_ioSt,d1,natV,cE_ment,cE_kill,cE_len,hasK_nil,Nat.mul_one,List.length_set,frC_len,frC_ment,frC_kill,↓hold_pre,awayP,runOps,regK,step1,newK,genR,appR,obl,buildR,Value.cells,closeK,keepH,outV,retK,ret1,retC,RetV,Option.getD,runD,stepD,afterK,undef,simprocAttr,sxB,↓sxD,sxE,sxTab]))
  rw[hD]
  exact hK [] M (Mem.le.refl _) (List.Perm.refl _) List.Pairwise.nil
 refine ⟨fun m z=>∃M' P S1 S2 E,m=S2.length∧Mem.le M M'∧s0 :: S0=S1++S2∧P.Perm S1∧P.Pairwise (ltS c)∧0<P.length∧E=A++P++S2++B∧z=so_ioSt M' ul nr R N E a b (a+P.length),
  ⟨S0.length,so_ioSt M ul nr R N D a b (a+1),le_sub ⟨rfl,rfl,rfl,rfl,rfl,trivial⟩ ⟨by first|rfl|simp[lkH],by first|rfl|simp[lkH],by first|rfl|simp[lkH],by first|rfl|simp[lkH],trivial⟩ rfl rfl rfl (by simp[keepLt,so_ioSt,lkH]),⟨M,[s0],[s0],S0,D,rfl,Mem.le.refl _,rfl,List.Perm.refl _,by simp,by simp,by rw[hD];simp,rfl⟩⟩,?_⟩
 clear w1 hD
 rintro m z ⟨M1,P,S1,S2,E,rfl,hM1,hSS,hP,hPs,hP0,hE,rfl⟩
 have hPl:=hP.length_eq
 have hSl:=congrArg List.length hSS
 rw[List.length_append]at hSl
 have hEL:=congrArg List.length hE
 simp only[List.length_append]at hEL
 have hEN:E.length=N:=by omega
 rcases S2 with _|⟨x,S2⟩
 ·have d1:decide (((a+P.length:Nat):Int)<(b:Int))=false:=by rw[decide_eq_false_iff_not];simp only[List.length_nil]at hSl;omega
  refine Go1.mk ?_;repeat' ((first|(with_reducible refine Go1.go ?_)|(refine And.intro ?_ ?_;(try simp only[sxO]at *);omega)|fail)<;>(try simp (maxSteps:=1000000) only [so_ioSt,d1,natV,cE_ment,cE_kill,cE_len,hasK_nil,Nat.mul_one,List.length_set,frC_len,frC_ment,frC_kill,↓hold_pre,awayP,runOps,regK,step1,newK,genR,appR,obl,buildR,Value.cells,closeK,keepH,outV,retK,ret1,retC,RetV,Option.getD,runD,stepD,afterK,undef,simprocAttr,sxB,↓sxD,sxE,sxTab]))
  rw[hE]
  rw[List.append_nil]at hSS ⊢
  exact hK P M1 hM1 (by rw[hSS];exact hP) hPs
 simp only[List.length_cons]at hSl hEL hL hb
 have d1:decide (((a+P.length:Nat):Int)<(b:Int))=true:=by rw[decide_eq_true_eq];omega
 have hxN:x<NN:=hSN x (by rw[hSS];simp)
 have hlt:∀y∈P,y<x∧y<NN:=fun y hy=>by
  have h1:y∈S1:=hP.subset hy
  refine ⟨?_,hSN y (by rw[hSS];simp[h1])⟩
  have h2:=hS
  rw[hSS]at h2
  exact (List.pairwise_append.1 h2).2.2 y h1 x (by simp)
 refine Go1.mk ?_;repeat' ((first|(with_reducible refine Go1.go ?_)|(refine And.intro ?_ ?_;(try simp only[sxO]at *);omega)|fail)<;>(try simp (maxSteps:=1000000) only [so_ioSt,d1,natV,cE_ment,cE_kill,cE_len,hasK_nil,Nat.mul_one,List.length_set,frC_len,frC_ment,frC_kill,↓hold_pre,awayP,runOps,regK,step1,newK,genR,appR,obl,buildR,Value.cells,closeK,keepH,outV,retK,ret1,retC,RetV,Option.getD,runD,stepD,afterK,undef,simprocAttr,sxB,↓sxD,sxE,sxTab]))
 have wi:IntKind.i64.wrap (((a+P.length:Nat):Int)+1)=((a+P.length+1:Nat):Int):=succ_i (by omega)
 have fin:∀(P1 P2:List Nat) (M2:Mem) (s:St),Mem.le M M2→P=P1++P2→(P1++x :: P2).Pairwise (ltS c)→Le s (so_ioSt M2 ul nr R N (A++(P1++x :: P2)++S2++B) a b (a+P.length+1))→∃m' z,m'<(x :: S2).length∧Le s z∧(∃M' P S1 S2 E,m'=S2.length∧Mem.le M M'∧s0 :: S0=S1++S2∧P.Perm S1∧P.Pairwise (ltS c)∧0<P.length∧E=A++P++S2++B∧z=so_ioSt M' ul nr R N E a b (a+P.length)):=fun P1 P2 M2 s h1 h2 h3 h4=>
  ⟨S2.length,_,by simp,h4,M2,P1++x :: P2,S1++[x],S2,_,rfl,h1,by rw[hSS];simp,by
   have h5:(P1++x :: P2).Perm (P++[x]):=by
    rw[h2]
    refine List.perm_middle.trans ?_
    exact (List.perm_append_comm (l₁:=[x]) (l₂:=P1++P2))
   exact h5.trans (hP.append_right [x]),h3,by simp only[List.length_append,List.length_cons];omega,rfl,by
   have:(P1++x :: P2).length=P.length+1:=by rw[h2];simp;omega
   rw[this];rfl⟩
 refine ⟨fun m z=>∃M' P1 P2 E,m=P1.length∧Mem.le M M'∧P=P1++P2∧(∀q∈P2,ltS c x q)∧E=A++P1++x :: P2++S2++B∧z=so_iiSt M' ul nr R N E a b (a+P.length) (a+P1.length),
  ⟨P.length,so_iiSt M1 ul nr R N E a b (a+P.length) (a+P.length),le_sub ⟨rfl,rfl,rfl,rfl,rfl,rfl,trivial⟩ ⟨by first|rfl|simp[lkH],by first|rfl|simp[lkH],by first|rfl|simp[lkH],by first|rfl|simp[lkH],trivial⟩ rfl rfl rfl (by simp[keepLt,so_iiSt,lkH]),⟨M1,P,[],E,rfl,hM1,by simp,by simp,by rw[hE];simp,rfl⟩⟩,?_⟩
 clear hE hEN hEL d1
 rintro m z ⟨M2,P1,P2,E,rfl,hM2,hPP,hq,hE,rfl⟩
 have hPPl:=congrArg List.length hPP
 rw[List.length_append]at hPPl
 have hEN:E.length=N:=by rw[hE];simp only[List.length_append,List.length_cons];omega
 have hP2s:(x :: P2).Pairwise (ltS c):=List.pairwise_cons.2 ⟨hq,by rw[hPP]at hPs;exact (pw_app.1 hPs).2.1⟩
 rcases List.eq_nil_or_concat P1 with rfl|⟨P1',y,hy⟩
 ·have d2:decide ((a:Int)<(a:Int))=false:=by simp
  refine Go1.mk ?_;repeat' ((first|(with_reducible refine Go1.go ?_)|((with_reducible refine isDraw [some 18,some 19,some 20,some 21,some 22,some 23,some 24,some 25,some 26,some 27,some 28,some 29,some 30,some 31,some 32,some 33,some 34] (by decide) ?_);refine draw_rule [(0,[]),(1,[]),(2,[]),(3,[]),(4,[]),(5,[]),(6,[]),(7,[]),(8,[]),(9,[8]),(10,[8]),(11,[8]),(12,[8]),(13,[8]),(14,[]),(15,[]),(16,[])] [[],[],[0,1],[0,1,2],[0,1,2,3],[0,1,2,3],[0,1,2,3],[0,1,2,3,5,6],[0,1,2,3,5,6,7],[0,1,2,3],[0,1,2,3],[0,1,2,3,10],[0,1,2,3,9,10,11],[0,1,2,3,9,10,11,12],[0,1,2,3,4,5,6,7,8,9,10,11,12,13],[0,1,2,3,4,5,6,7,8,9,10,11,12,13,14],[0,1,2,3,4,5,6,7,8,9,10,11,12,13,14,15]] [18,19,22,23,24,25,26,27,28,29,30,31] [] (by kernel_rfl) (by kernel_rfl) (by kernel_rfl) (by kernel_rfl) (by exact trivial) ?_)|((with_reducible refine isDraw [some 37,some 38,some 39,some 40,some 41,some 42,some 43,some 44,some 45,some 46,some 47,some 48,some 49,some 50,some 51,none,some 52,none] (by decide) ?_);refine draw_rule [(0,[]),(1,[]),(2,[]),(3,[]),(4,[]),(5,[]),(6,[]),(7,[]),(8,[]),(9,[]),(10,[9]),(11,[9]),(12,[9]),(13,[9]),(14,[]),(15,[]),(16,[]),(17,[])] [[],[],[],[],[3],[],[],[6],[5,6,7],[5,6,7,8],[],[],[10,11],[10,11,12],[0,1,5,6,7,8,9,10,11,12,13],[0,1,5,6,7,8,9,10,11,12,13,14],[0,1,2,3,4,5,6,7,8,9,10,11,12,13,14,15],[0,1,2,3,4,5,6,7,8,9,10,11,12,13,14,15,16]] [37,38,39,40,41,42,43,44,45,46,47,48,49,50,51] [] (by kernel_rfl) (by kernel_rfl) (by kernel_rfl) (by kernel_rfl) (by exact trivial) ?_)|(refine And.intro ?_ ?_;(try simp only[sxO]at *);omega)|fail)<;>(try simp (maxSteps:=1000000) only [so_iiSt,d2,wi,natV,cE_ment,cE_kill,cE_len,hasK_nil,Nat.mul_one,List.length_set,frC_len,frC_ment,frC_kill,↓hold_pre,awayP,runOps,regK,step1,newK,genR,appR,obl,buildR,Value.cells,closeK,keepH,outV,retK,ret1,retC,RetV,Option.getD,runD,stepD,afterK,undef,simprocAttr,sxB,↓sxD,sxE,sxTab]))
  rw[hE,show A++[]++x :: P2++S2++B=A++([]++x :: P2)++S2++B by simp]
  exact fin [] P2 M2 _ hM2 hPP (by simpa using hP2s) (le_sub ⟨rfl,rfl,rfl,rfl,rfl,trivial⟩ ⟨by first|rfl|simp[lkH],by first|rfl|simp[lkH],by first|rfl|simp[lkH],by first|rfl|simp[lkH],trivial⟩ rfl rfl rfl (by simp[keepLt,so_ioSt,lkH]))
 rw[List.concat_eq_append]at hy
 subst hy
 have hl1:a+(P1'++[y]).length=a+P1'.length+1:=by rw[List.length_append];rfl
 rw[hl1]
 obtain ⟨hyx,hyN⟩:=hlt y (by rw[hPP];simp)
 have d2:decide ((a:Int)<((a+P1'.length+1:Nat):Int))=true:=by rw[decide_eq_true_eq];omega
 have e1:E=(A++P1')++y :: ([]++x :: (P2++S2++B)):=by rw[hE];simp
 have e2:E=(A++P1'++[y])++x :: (P2++S2++B):=by rw[hE];simp
 have h1:=at_mid (A++P1') y ([]++x :: (P2++S2++B)) (i:=a+P1'.length) (by rw[List.length_append];omega)
 rw[←e1]at h1
 have h2:=at_mid (A++P1'++[y]) x (P2++S2++B) (i:=a+P1'.length+1) (by simp only[List.length_append,List.length_cons,List.length_nil];omega)
 rw[←e2]at h2
 have h3:=set_owt (A++P1') [] (P2++S2++B) y x (i:=a+P1'.length) (j:=a+P1'.length+1) (by rw[List.length_append];omega) (by rw[List.length_append,List.length_nil];omega)
 rw[←e1]at h3
 have wj:IntKind.i64.wrap (((a+P1'.length+1:Nat):Int)-1)=((a+P1'.length:Nat):Int):=by rw[wrap_id (by omega) (by omega)];omega
 have j1:(0:Int)≤((a+P1'.length+1:Nat):Int):=by omega
 have j2:((a+P1'.length+1:Nat):Int)<(N:Int):=by omega
 have j3:(0:Int)≤((a+P1'.length:Nat):Int):=by omega
 have j4:((a+P1'.length:Nat):Int)<(N:Int):=by omega
 have k1:=nat_set E (a+P1'.length+1) y
 have k2:=nat_set (E.set (a+P1'.length+1) y) (a+P1'.length) x
 refine Go1.mk ?_;repeat' ((first|(with_reducible refine Go1.go ?_)|((with_reducible refine isCall0 (f:=38) ?_);refine callA0 ?_)|((with_reducible refine isCallS (f:=38) ?_);refine (hc x y _ _ hxN hyN hM2 (fun M3 m3=>Stop.mk ?_)))|((with_reducible refine isDraw [some 18,some 19,some 20,some 21,some 22,some 23,some 24,some 25,some 26,some 27,some 28,some 29,some 30,some 31,some 32,some 33,some 34] (by decide) ?_);refine draw_rule [(0,[]),(1,[]),(2,[]),(3,[]),(4,[]),(5,[]),(6,[]),(7,[]),(8,[]),(9,[8]),(10,[8]),(11,[8]),(12,[8]),(13,[8]),(14,[]),(15,[]),(16,[])] [[],[],[0,1],[0,1,2],[0,1,2,3],[0,1,2,3],[0,1,2,3],[0,1,2,3,5,6],[0,1,2,3,5,6,7],[0,1,2,3],[0,1,2,3],[0,1,2,3,10],[0,1,2,3,9,10,11],[0,1,2,3,9,10,11,12],[0,1,2,3,4,5,6,7,8,9,10,11,12,13],[0,1,2,3,4,5,6,7,8,9,10,11,12,13,14],[0,1,2,3,4,5,6,7,8,9,10,11,12,13,14,15]] [18,19,22,23,24,25,26,27,28,29,30,31] [] (by kernel_rfl) (by kernel_rfl) (by kernel_rfl) (by kernel_rfl) (by exact trivial) ?_)|((with_reducible refine isDraw [some 37,some 38,some 39,some 40,some 41,some 42,some 43,some 44,some 45,some 46,some 47,some 48,some 49,some 50,some 51,none,some 52,none] (by decide) ?_);refine draw_rule [(0,[]),(1,[]),(2,[]),(3,[]),(4,[]),(5,[]),(6,[]),(7,[]),(8,[]),(9,[]),(10,[9]),(11,[9]),(12,[9]),(13,[9]),(14,[]),(15,[]),(16,[]),(17,[])] [[],[],[],[],[3],[],[],[6],[5,6,7],[5,6,7,8],[],[],[10,11],[10,11,12],[0,1,5,6,7,8,9,10,11,12,13],[0,1,5,6,7,8,9,10,11,12,13,14],[0,1,2,3,4,5,6,7,8,9,10,11,12,13,14,15],[0,1,2,3,4,5,6,7,8,9,10,11,12,13,14,15,16]] [37,38,39,40,41,42,43,44,45,46,47,48,49,50,51] [] (by kernel_rfl) (by kernel_rfl) (by kernel_rfl) (by kernel_rfl) (by exact trivial) ?_)|(refine And.intro ?_ ?_;(try simp only[sxO]at *);omega)|fail)<;>(try simp (maxSteps:=1000000) only [so_iiSt,d2,wi,wj,h1,h2,j1,j2,j3,j4,natV,cE_ment,cE_kill,cE_len,hasK_nil,Nat.mul_one,List.length_set,frC_len,frC_ment,frC_kill,↓hold_pre,awayP,runOps,regK,step1,newK,genR,appR,obl,buildR,Value.cells,closeK,keepH,outV,retK,ret1,retC,RetV,Option.getD,runD,stepD,afterK,undef,simprocAttr,sxB,↓sxD,sxE,sxTab]))
 have m3:Mem.le M2 M3:=m3
 have hM3:=hM2.trans m3
 by_cases hcc:c x y<0
 ·have d3:decide (c x y<0)=true:=decide_eq_true hcc
  refine Stop.go ?_
  refine Go1.mk ?_;repeat' ((first|(with_reducible refine Go1.go ?_)|((with_reducible refine isDraw [some 18,some 19,some 20,some 21,some 22,some 23,some 24,some 25,some 26,some 27,some 28,some 29,some 30,some 31,some 32,some 33,some 34] (by decide) ?_);refine draw_rule [(0,[]),(1,[]),(2,[]),(3,[]),(4,[]),(5,[]),(6,[]),(7,[]),(8,[]),(9,[8]),(10,[8]),(11,[8]),(12,[8]),(13,[8]),(14,[]),(15,[]),(16,[])] [[],[],[0,1],[0,1,2],[0,1,2,3],[0,1,2,3],[0,1,2,3],[0,1,2,3,5,6],[0,1,2,3,5,6,7],[0,1,2,3],[0,1,2,3],[0,1,2,3,10],[0,1,2,3,9,10,11],[0,1,2,3,9,10,11,12],[0,1,2,3,4,5,6,7,8,9,10,11,12,13],[0,1,2,3,4,5,6,7,8,9,10,11,12,13,14],[0,1,2,3,4,5,6,7,8,9,10,11,12,13,14,15]] [18,19,22,23,24,25,26,27,28,29,30,31] [] (by kernel_rfl) (by kernel_rfl) (by kernel_rfl) (by kernel_rfl) (by exact trivial) ?_)|((with_reducible refine isDraw [some 37,some 38,some 39,some 40,some 41,some 42,some 43,some 44,some 45,some 46,some 47,some 48,some 49,some 50,some 51,none,some 52,none] (by decide) ?_);refine draw_rule [(0,[]),(1,[]),(2,[]),(3,[]),(4,[]),(5,[]),(6,[]),(7,[]),(8,[]),(9,[]),(10,[9]),(11,[9]),(12,[9]),(13,[9]),(14,[]),(15,[]),(16,[]),(17,[])] [[],[],[],[],[3],[],[],[6],[5,6,7],[5,6,7,8],[],[],[10,11],[10,11,12],[0,1,5,6,7,8,9,10,11,12,13],[0,1,5,6,7,8,9,10,11,12,13,14],[0,1,2,3,4,5,6,7,8,9,10,11,12,13,14,15],[0,1,2,3,4,5,6,7,8,9,10,11,12,13,14,15,16]] [37,38,39,40,41,42,43,44,45,46,47,48,49,50,51] [] (by kernel_rfl) (by kernel_rfl) (by kernel_rfl) (by kernel_rfl) (by exact trivial) ?_)|(refine And.intro ?_ ?_;(try simp only[sxO]at *);omega)|fail)<;>(try simp (maxSteps:=1000000) only [d3,wi,wj,h1,h2,j1,j2,j3,j4,k1,k2,h3,hEN,natV,cE_ment,cE_kill,cE_len,hasK_nil,Nat.mul_one,List.length_set,frC_len,frC_ment,frC_kill,↓hold_pre,awayP,runOps,regK,step1,newK,genR,appR,obl,buildR,Value.cells,closeK,keepH,outV,retK,ret1,retC,RetV,Option.getD,runD,stepD,afterK,undef,simprocAttr,sxB,↓sxD,sxE,sxTab]))
  exact ⟨P1'.length,so_iiSt M3 ul nr R N ((A++P1')++x :: ([]++y :: (P2++S2++B))) a b (a+P.length) (a+P1'.length),by simp,le_sub ⟨rfl,rfl,rfl,rfl,rfl,rfl,trivial⟩ ⟨by first|rfl|simp[lkH],by first|rfl|simp[lkH],by first|rfl|simp[lkH],by first|rfl|simp[lkH],trivial⟩ rfl rfl rfl (by simp[keepLt,so_iiSt,lkH]),M3,P1',y :: P2,_,rfl,hM3,by rw[hPP];simp,fun q hq2=>by
   rcases List.mem_cons.1 hq2 with h|h
   ·rw[h];exact (ltS_ask hyx).1 hcc
   ·exact hq q h,by simp,rfl⟩
 ·have d3:decide (c x y<0)=false:=decide_eq_false hcc
  have hyx2:=ltS_not ho hyx hcc
  refine Stop.go ?_
  refine Go1.mk ?_;repeat' ((first|(with_reducible refine Go1.go ?_)|((with_reducible refine isDraw [some 18,some 19,some 20,some 21,some 22,some 23,some 24,some 25,some 26,some 27,some 28,some 29,some 30,some 31,some 32,some 33,some 34] (by decide) ?_);refine draw_rule [(0,[]),(1,[]),(2,[]),(3,[]),(4,[]),(5,[]),(6,[]),(7,[]),(8,[]),(9,[8]),(10,[8]),(11,[8]),(12,[8]),(13,[8]),(14,[]),(15,[]),(16,[])] [[],[],[0,1],[0,1,2],[0,1,2,3],[0,1,2,3],[0,1,2,3],[0,1,2,3,5,6],[0,1,2,3,5,6,7],[0,1,2,3],[0,1,2,3],[0,1,2,3,10],[0,1,2,3,9,10,11],[0,1,2,3,9,10,11,12],[0,1,2,3,4,5,6,7,8,9,10,11,12,13],[0,1,2,3,4,5,6,7,8,9,10,11,12,13,14],[0,1,2,3,4,5,6,7,8,9,10,11,12,13,14,15]] [18,19,22,23,24,25,26,27,28,29,30,31] [] (by kernel_rfl) (by kernel_rfl) (by kernel_rfl) (by kernel_rfl) (by exact trivial) ?_)|((with_reducible refine isDraw [some 37,some 38,some 39,some 40,some 41,some 42,some 43,some 44,some 45,some 46,some 47,some 48,some 49,some 50,some 51,none,some 52,none] (by decide) ?_);refine draw_rule [(0,[]),(1,[]),(2,[]),(3,[]),(4,[]),(5,[]),(6,[]),(7,[]),(8,[]),(9,[]),(10,[9]),(11,[9]),(12,[9]),(13,[9]),(14,[]),(15,[]),(16,[]),(17,[])] [[],[],[],[],[3],[],[],[6],[5,6,7],[5,6,7,8],[],[],[10,11],[10,11,12],[0,1,5,6,7,8,9,10,11,12,13],[0,1,5,6,7,8,9,10,11,12,13,14],[0,1,2,3,4,5,6,7,8,9,10,11,12,13,14,15],[0,1,2,3,4,5,6,7,8,9,10,11,12,13,14,15,16]] [37,38,39,40,41,42,43,44,45,46,47,48,49,50,51] [] (by kernel_rfl) (by kernel_rfl) (by kernel_rfl) (by kernel_rfl) (by exact trivial) ?_)|(refine And.intro ?_ ?_;(try simp only[sxO]at *);omega)|fail)<;>(try simp (maxSteps:=1000000) only [d3,wi,wj,h1,h2,j1,j2,j3,j4,hEN,natV,cE_ment,cE_kill,cE_len,hasK_nil,Nat.mul_one,List.length_set,frC_len,frC_ment,frC_kill,↓hold_pre,awayP,runOps,regK,step1,newK,genR,appR,obl,buildR,Value.cells,closeK,keepH,outV,retK,ret1,retC,RetV,Option.getD,runD,stepD,afterK,undef,simprocAttr,sxB,↓sxD,sxE,sxTab]))
  rw[hE,show A++(P1'++[y])++x :: P2++S2++B=A++((P1'++[y])++x :: P2)++S2++B by simp]
  exact fin (P1'++[y]) P2 M3 _ hM3 hPP (pw_app.2 ⟨by rw[hPP]at hPs;exact (pw_app.1 hPs).1,hP2s,ahead_ends ho (by rw[hPP]at hPs;exact (pw_app.1 hPs).1) hP2s fun A' x1 y1 B' ha hb=>by
   have e3:=List.append_inj_right' ha (by simp)
   simp only[List.cons.injEq]at e3 hb
   rw[←e3.1,←hb.1];exact hyx2⟩) (le_sub ⟨rfl,rfl,rfl,rfl,rfl,trivial⟩ ⟨by first|rfl|simp[lkH],by first|rfl|simp[lkH],by first|rfl|simp[lkH],by first|rfl|simp[lkH],trivial⟩ rfl rfl rfl (by simp[keepLt,so_ioSt,lkH]))
end
theorem sh_one(x:Nat):(x:Int).fdiv (2^(min 1 IntKind.u64.bits))=((x / 2:Nat):Int):=by
 have h1:min 1 IntKind.u64.bits=1:=rfl
 rw[h1,Int.fdiv_eq_ediv_of_nonneg _ (by decide)]
 simp
def nt(L:List Nat)(i:Nat):Nat:=L[i]?.getD 0
theorem nt_mid{D:List Nat}(P Q R:List Nat){i j:Nat}(hD:D=P++Q++R)(hi:i<Q.length)(hj:j=P.length+i):nt D j=nt Q i:=by
 subst hD hj
 unfold nt
 rw[List.append_assoc,List.getElem?_append_right (by omega),Nat.add_sub_cancel_left,List.getElem?_append_left hi]
theorem nt_get{Q:List Nat}{i:Nat}(h:i<Q.length):nt Q i=Q[i]:=by
 unfold nt
 rw[List.getElem?_eq_getElem h];rfl
theorem nt_in{Q:List Nat}{i:Nat}(h:i<Q.length):nt Q i∈Q:=by
 rw[nt_get h];exact List.getElem_mem h
theorem nt_at{D:List Nat}{i:Nat}(h:i<D.length):(cE natV D)[i]? = some (.ext (natV (nt D i))):=by
 rw[cE_at natV h,nt_get h]
theorem nt_last(A:List Nat)(x:Nat):nt (A++[x]) A.length=x:=by
 unfold nt;rw[List.getElem?_append_right (Nat.le_refl _)];simp
theorem ahead_nt{c:Nat→Nat→Int}(h:CmpO c){A B:List Nat}(hA:A.Pairwise (ltS c))(hB:B.Pairwise (ltS c))(he:0<A.length→0<B.length→ltS c (nt A (A.length-1)) (nt B 0)):ahead c A B:=ahead_ends h hA hB fun A' x y B' ha hb=>by
 subst ha hb
 have h1:=he (by simp) (by simp)
 rw[show (A'++[x]).length-1=A'.length by simp,nt_last]at h1
 exact h1
section
variable {M:Mem}{K:AV→Hp→Mem→Prop}(ul:Value)(nr:Nat)(R:List FR){c:Nat→Nat→Int}
def so_maSt(M:Mem)(ul:Value)(nr:Nat)(R:List FR)(N:Nat)(D:List Nat)(a i j:Nat):St:={env:=[(10,.ext (.int .i64 (i:Int))),(11,.ext (.int .i64 (j:Int))),(4,.fn 38 [.own 1 0,.own 4 0]),(1,.ext (.int .i64 (a:Int))),(0,.slo 114 0 N 1)],hp:=[(114,3,cE natV (D)),(1,26,[.ext ul]),(4,66,[.slo 12 0 nr 2]),(12,34,frC R)],M:=M,kb:=200,fx:=[114,1,4,12]}
def so_mbSt(M:Mem)(ul:Value)(nr:Nat)(R:List FR)(N:Nat)(D:List Nat)(i k:Nat):St:={env:=[(13,.ext (.int .i64 (k:Int))),(10,.ext (.int .i64 (i:Int))),(0,.slo 114 0 N 1)],hp:=[(114,3,cE natV (D)),(1,26,[.ext ul]),(4,66,[.slo 12 0 nr 2]),(12,34,frC R)],M:=M,kb:=200,fx:=[114,1,4,12]}
theorem mrgA_ok(ho:CmpO c)(NN:Nat)(hc:CmpK M ul nr R c NN)(A X Y B D:List Nat)(a m b N:Nat)(hD:D=A++X++Y++B)(ha:a=A.length)(hm:m=A.length+X.length)(hb:b=A.length+X.length+Y.length)(hX:X.length=1)(hY:0<Y.length)(hx:X.Pairwise (ltS c))(hy:Y.Pairwise (ltS c))(hxy:∀x∈X,∀y∈Y,x<y)(hNN:∀x∈X++Y,x<NN)(hN:D.length=N)(hN2:N<1000000)
  (hK:∀Z M',Mem.le M M'→Z.Perm (X++Y)→Z.Pairwise (ltS c)→K (.ext (.tuple #[])) [(114,3,cE natV (A++Z++B)),(1,26,[.ext ul]),(4,66,[.slo 12 0 nr 2]),(12,34,frC R)] M') :
  CallS Try.prog 100 [.slo 114 0 N 1,.ext (.int .i64 (a:Int)),.ext (.int .i64 (m:Int)),.ext (.int .i64 (b:Int)),.fn 38 [.own 1 0,.own 4 0]] [(114,3,cE natV (D)),(1,26,[.ext ul]),(4,66,[.slo 12 0 nr 2]),(12,34,frC R)] M [] K:=by
 refine inlS (cs:=[]) Try.mixed Try.func100 rfl (by kernel_rfl) 200 rfl rfl ?_
 simp only[Try.f100]
 have hL:=congrArg List.length hD
 simp only[List.length_append]at hL
 have w1:IntKind.i64.wrap ((m:Int)-(a:Int))=1:=by rw[wrap_id (by omega) (by omega)];omega
 refine Go1.mk ?_;repeat' ((first|(with_reducible refine Go1.go ?_)|(refine And.intro ?_ ?_;(try simp only[sxO]at *);omega)|fail)<;>(try simp (maxSteps:=1000000) only [w1,natV,cE_ment,cE_kill,cE_len,hasK_nil,Nat.mul_one,List.length_set,frC_len,frC_ment,frC_kill,↓hold_pre,awayP,runOps,regK,step1,newK,genR,appR,obl,buildR,Value.cells,closeK,keepH,outV,retK,ret1,retC,RetV,Option.getD,runD,stepD,afterK,undef,simprocAttr,sxB,↓sxD,sxE,sxTab]))
 refine ⟨fun d z=>∃M' i j,d=j-i∧Mem.le M M'∧m≤i∧i≤j∧j≤b∧(i=m∨c (nt D (i-1)) (nt D a)<0)∧(j=b∨¬c (nt D j) (nt D a)<0)∧z=so_maSt M' ul nr R N D a i j,
  ⟨b-m,so_maSt M ul nr R N D a m b,le_sub ⟨rfl,rfl,rfl,rfl,rfl,trivial⟩ ⟨by first|rfl|simp[lkH],by first|rfl|simp[lkH],by first|rfl|simp[lkH],by first|rfl|simp[lkH],trivial⟩ rfl rfl rfl (by simp[keepLt,so_maSt,lkH]),⟨M,m,b,rfl,Mem.le.refl _,Nat.le_refl _,by omega,Nat.le_refl _,.inl rfl,.inl rfl,rfl⟩⟩,?_⟩
 clear w1
 have hx0:nt D a=nt X 0:=nt_mid A X (Y++B) (by rw[hD];simp) (by omega) (by omega)
 have hX0:X=[nt X 0]:=by
  rcases X with _|⟨x,_|⟨y,X⟩⟩
  ·simp at hX
  ·rfl
  ·simp at hX
 rintro d z ⟨M1,i,j,rfl,hM1,hmi,hij,hjb,hI,hJ,rfl⟩
 by_cases hlt:i<j
 ·have d1:decide ((i:Int)<(j:Int))=true:=by rw[decide_eq_true_eq];omega
  have w2:IntKind.i64.wrap ((i:Int)+(j:Int))=((i+j:Nat):Int):=by rw[wrap_id (by omega) (by omega)];omega
  have w3:IntKind.u64.wrap ((i+j:Nat):Int)=((i+j:Nat):Int):=wrap64_id (by omega)
  have w4:=sh_one (i+j)
  have h1:=Nat.div_add_mod (i+j) 2
  have h2:=Nat.mod_lt (i+j) (show 0<2 by decide)
  obtain ⟨h,hh⟩:∃h,h=(i+j) / 2:=⟨_,rfl⟩
  rw[←hh]at w4 h1
  have w5:IntKind.i64.wrap (h:Int)=(h:Int):=wrap_id (by omega) (by omega)
  have w6:IntKind.u64.wrap (h:Int)=(h:Int):=wrap64_id (by omega)
  have w7:IntKind.i64.wrap ((h:Int)+1)=((h+1:Nat):Int):=succ_i (by omega)
  have j1:(0:Int)≤(h:Int):=by omega
  have j2:(h:Int)<(N:Int):=by omega
  have j3:(0:Int)≤(a:Int):=by omega
  have j4:(a:Int)<(N:Int):=by omega
  have n1:=nt_at (D:=D) (i:=h) (by omega)
  have n2:=nt_at (D:=D) (i:=a) (by omega)
  have hyh:nt D h=nt Y (h-m):=nt_mid (A++X) Y B hD (by omega) (by rw[List.length_append];omega)
  have b1:nt D h<NN:=hNN _ (by rw[hyh];exact List.mem_append_right _ (nt_in (by omega)))
  have b2:nt D a<NN:=hNN _ (by rw[hx0];exact List.mem_append_left _ (nt_in (by omega)))
  refine Go1.mk ?_;repeat' ((first|(with_reducible refine Go1.go ?_)|((with_reducible refine isCall0 (f:=38) ?_);refine callA0 ?_)|((with_reducible refine isCallS (f:=38) ?_);refine (hc (nt D h) (nt D a) _ _ b1 b2 hM1 (fun M2 m2=>Stop.mk ?_)))|((with_reducible refine isDraw [some 40,some 41,some 42,some 43,some 44,some 45,some 46,some 47,some 48,some 49,some 50] (by decide) ?_);refine draw_rule [(0,[]),(1,[]),(2,[]),(3,[]),(4,[]),(5,[4]),(6,[4]),(7,[4]),(8,[4]),(9,[]),(10,[])] [[],[],[],[1,2],[1,2,3],[],[],[5,6],[5,6,7],[0,1,2,3,4,5,6,7,8],[0,1,2,3,4,5,6,7,8,9]] [40,41,42,43,44,45,46,47,48] [] (by kernel_rfl) (by kernel_rfl) (by kernel_rfl) (by kernel_rfl) (by exact trivial) ?_)|((with_reducible refine isDraw [some 61,some 62,some 63,some 64,some 65,some 66,some 67,some 68,some 69,some 70,some 71,some 72,some 73,some 74,some 75,none,some 76,none] (by decide) ?_);refine draw_rule [(0,[]),(1,[]),(2,[]),(3,[]),(4,[]),(5,[]),(6,[]),(7,[]),(8,[]),(9,[]),(10,[9]),(11,[9]),(12,[9]),(13,[9]),(14,[]),(15,[]),(16,[]),(17,[])] [[],[],[],[],[3],[],[],[6],[5,6,7],[5,6,7,8],[],[],[10,11],[10,11,12],[0,1,5,6,7,8,9,10,11,12,13],[0,1,5,6,7,8,9,10,11,12,13,14],[0,1,2,3,4,5,6,7,8,9,10,11,12,13,14,15],[0,1,2,3,4,5,6,7,8,9,10,11,12,13,14,15,16]] [61,62,63,64,65,66,67,68,69,70,71,72,73,74,75] [] (by kernel_rfl) (by kernel_rfl) (by kernel_rfl) (by kernel_rfl) (by exact trivial) ?_)|((with_reducible refine isDraw [some 92,some 93,some 94,some 95,some 96,some 97,some 98,some 99,some 100,some 101,some 102,some 103] (by decide) ?_);refine draw_rule [(0,[]),(1,[]),(2,[]),(3,[]),(4,[]),(5,[4]),(6,[4]),(7,[4]),(8,[4]),(9,[]),(10,[]),(11,[])] [[],[],[],[1,2],[1,2,3],[],[],[5,6],[5,6,7],[0,1,2,3,4,5,6,7,8],[0,1,2,3,4,5,6,7,8,9],[0,1,2,3,4,5,6,7,8,9,10]] [92,93,94,95,96,97,98,99,100] [] (by kernel_rfl) (by kernel_rfl) (by kernel_rfl) (by kernel_rfl) (by exact trivial) ?_)|((with_reducible refine isDraw [some 113,some 114,some 115,some 116,some 117,some 118,some 119,some 120,some 121,some 122,some 123,some 124,some 125,some 126,some 127,none,some 128,none] (by decide) ?_);refine draw_rule [(0,[]),(1,[]),(2,[]),(3,[]),(4,[]),(5,[]),(6,[]),(7,[]),(8,[]),(9,[]),(10,[9]),(11,[9]),(12,[9]),(13,[9]),(14,[]),(15,[]),(16,[]),(17,[])] [[],[],[],[],[3],[],[],[6],[5,6,7],[5,6,7,8],[],[],[10,11],[10,11,12],[0,1,5,6,7,8,9,10,11,12,13],[0,1,5,6,7,8,9,10,11,12,13,14],[0,1,2,3,4,5,6,7,8,9,10,11,12,13,14,15],[0,1,2,3,4,5,6,7,8,9,10,11,12,13,14,15,16]] [113,114,115,116,117,118,119,120,121,122,123,124,125,126,127] [] (by kernel_rfl) (by kernel_rfl) (by kernel_rfl) (by kernel_rfl) (by exact trivial) ?_)|((with_reducible refine isDraw [some 158,some 159,some 160,some 161,some 162,some 163,some 164,some 165,some 166,some 167,some 168,some 169,some 170,some 171] (by decide) ?_);refine draw_rule [(0,[]),(1,[]),(2,[]),(3,[]),(4,[]),(5,[]),(6,[]),(7,[6]),(8,[6]),(9,[6]),(10,[6]),(11,[]),(12,[]),(13,[])] [[],[],[],[],[2,3],[1,2,3,4],[1,2,3,4,5],[],[],[7,8],[7,8,9],[0,1,2,3,4,5,6,7,8,9,10],[0,1,2,3,4,5,6,7,8,9,10,11],[0,1,2,3,4,5,6,7,8,9,10,11,12]] [158,159,160,161,162,163,164,165,166,167,168] [] (by kernel_rfl) (by kernel_rfl) (by kernel_rfl) (by kernel_rfl) (by exact trivial) ?_)|(refine And.intro ?_ ?_;(try simp only[sxO]at *);omega)|fail)<;>(try simp (maxSteps:=1000000) only [so_maSt,d1,w2,w3,w4,w5,w6,w7,n1,n2,j1,j2,j3,j4,natV,cE_ment,cE_kill,cE_len,hasK_nil,Nat.mul_one,List.length_set,frC_len,frC_ment,frC_kill,↓hold_pre,awayP,runOps,regK,step1,newK,genR,appR,obl,buildR,Value.cells,closeK,keepH,outV,retK,ret1,retC,RetV,Option.getD,runD,stepD,afterK,undef,simprocAttr,sxB,↓sxD,sxE,sxTab]))
  have m2:Mem.le M1 M2:=m2
  have hM2:=hM1.trans m2
  by_cases hcc:c (nt D h) (nt D a)<0
  ·have d3:decide (c (nt D h) (nt D a)<0)=true:=decide_eq_true hcc
   refine Stop.go ?_
   refine Go1.mk ?_;repeat' ((first|(with_reducible refine Go1.go ?_)|((with_reducible refine isDraw [some 40,some 41,some 42,some 43,some 44,some 45,some 46,some 47,some 48,some 49,some 50] (by decide) ?_);refine draw_rule [(0,[]),(1,[]),(2,[]),(3,[]),(4,[]),(5,[4]),(6,[4]),(7,[4]),(8,[4]),(9,[]),(10,[])] [[],[],[],[1,2],[1,2,3],[],[],[5,6],[5,6,7],[0,1,2,3,4,5,6,7,8],[0,1,2,3,4,5,6,7,8,9]] [40,41,42,43,44,45,46,47,48] [] (by kernel_rfl) (by kernel_rfl) (by kernel_rfl) (by kernel_rfl) (by exact trivial) ?_)|((with_reducible refine isDraw [some 61,some 62,some 63,some 64,some 65,some 66,some 67,some 68,some 69,some 70,some 71,some 72,some 73,some 74,some 75,none,some 76,none] (by decide) ?_);refine draw_rule [(0,[]),(1,[]),(2,[]),(3,[]),(4,[]),(5,[]),(6,[]),(7,[]),(8,[]),(9,[]),(10,[9]),(11,[9]),(12,[9]),(13,[9]),(14,[]),(15,[]),(16,[]),(17,[])] [[],[],[],[],[3],[],[],[6],[5,6,7],[5,6,7,8],[],[],[10,11],[10,11,12],[0,1,5,6,7,8,9,10,11,12,13],[0,1,5,6,7,8,9,10,11,12,13,14],[0,1,2,3,4,5,6,7,8,9,10,11,12,13,14,15],[0,1,2,3,4,5,6,7,8,9,10,11,12,13,14,15,16]] [61,62,63,64,65,66,67,68,69,70,71,72,73,74,75] [] (by kernel_rfl) (by kernel_rfl) (by kernel_rfl) (by kernel_rfl) (by exact trivial) ?_)|((with_reducible refine isDraw [some 92,some 93,some 94,some 95,some 96,some 97,some 98,some 99,some 100,some 101,some 102,some 103] (by decide) ?_);refine draw_rule [(0,[]),(1,[]),(2,[]),(3,[]),(4,[]),(5,[4]),(6,[4]),(7,[4]),(8,[4]),(9,[]),(10,[]),(11,[])] [[],[],[],[1,2],[1,2,3],[],[],[5,6],[5,6,7],[0,1,2,3,4,5,6,7,8],[0,1,2,3,4,5,6,7,8,9],[0,1,2,3,4,5,6,7,8,9,10]] [92,93,94,95,96,97,98,99,100] [] (by kernel_rfl) (by kernel_rfl) (by kernel_rfl) (by kernel_rfl) (by exact trivial) ?_)|((with_reducible refine isDraw [some 113,some 114,some 115,some 116,some 117,some 118,some 119,some 120,some 121,some 122,some 123,some 124,some 125,some 126,some 127,none,some 128,none] (by decide) ?_);refine draw_rule [(0,[]),(1,[]),(2,[]),(3,[]),(4,[]),(5,[]),(6,[]),(7,[]),(8,[]),(9,[]),(10,[9]),(11,[9]),(12,[9]),(13,[9]),(14,[]),(15,[]),(16,[]),(17,[])] [[],[],[],[],[3],[],[],[6],[5,6,7],[5,6,7,8],[],[],[10,11],[10,11,12],[0,1,5,6,7,8,9,10,11,12,13],[0,1,5,6,7,8,9,10,11,12,13,14],[0,1,2,3,4,5,6,7,8,9,10,11,12,13,14,15],[0,1,2,3,4,5,6,7,8,9,10,11,12,13,14,15,16]] [113,114,115,116,117,118,119,120,121,122,123,124,125,126,127] [] (by kernel_rfl) (by kernel_rfl) (by kernel_rfl) (by kernel_rfl) (by exact trivial) ?_)|((with_reducible refine isDraw [some 158,some 159,some 160,some 161,some 162,some 163,some 164,some 165,some 166,some 167,some 168,some 169,some 170,some 171] (by decide) ?_);refine draw_rule [(0,[]),(1,[]),(2,[]),(3,[]),(4,[]),(5,[]),(6,[]),(7,[6]),(8,[6]),(9,[6]),(10,[6]),(11,[]),(12,[]),(13,[])] [[],[],[],[],[2,3],[1,2,3,4],[1,2,3,4,5],[],[],[7,8],[7,8,9],[0,1,2,3,4,5,6,7,8,9,10],[0,1,2,3,4,5,6,7,8,9,10,11],[0,1,2,3,4,5,6,7,8,9,10,11,12]] [158,159,160,161,162,163,164,165,166,167,168] [] (by kernel_rfl) (by kernel_rfl) (by kernel_rfl) (by kernel_rfl) (by exact trivial) ?_)|(refine And.intro ?_ ?_;(try simp only[sxO]at *);omega)|fail)<;>(try simp (maxSteps:=1000000) only [d3,w7,natV,cE_ment,cE_kill,cE_len,hasK_nil,Nat.mul_one,List.length_set,frC_len,frC_ment,frC_kill,↓hold_pre,awayP,runOps,regK,step1,newK,genR,appR,obl,buildR,Value.cells,closeK,keepH,outV,retK,ret1,retC,RetV,Option.getD,runD,stepD,afterK,undef,simprocAttr,sxB,↓sxD,sxE,sxTab]))
   exact ⟨j-(h+1),so_maSt M2 ul nr R N D a (h+1) j,by omega,le_sub ⟨rfl,rfl,rfl,rfl,rfl,trivial⟩ ⟨by first|rfl|simp[lkH],by first|rfl|simp[lkH],by first|rfl|simp[lkH],by first|rfl|simp[lkH],trivial⟩ rfl rfl rfl (by simp[keepLt,so_maSt,lkH]),M2,h+1,j,rfl,hM2,by omega,by omega,hjb,.inr hcc,hJ,rfl⟩
  ·have d3:decide (c (nt D h) (nt D a)<0)=false:=decide_eq_false hcc
   refine Stop.go ?_
   refine Go1.mk ?_;repeat' ((first|(with_reducible refine Go1.go ?_)|((with_reducible refine isDraw [some 40,some 41,some 42,some 43,some 44,some 45,some 46,some 47,some 48,some 49,some 50] (by decide) ?_);refine draw_rule [(0,[]),(1,[]),(2,[]),(3,[]),(4,[]),(5,[4]),(6,[4]),(7,[4]),(8,[4]),(9,[]),(10,[])] [[],[],[],[1,2],[1,2,3],[],[],[5,6],[5,6,7],[0,1,2,3,4,5,6,7,8],[0,1,2,3,4,5,6,7,8,9]] [40,41,42,43,44,45,46,47,48] [] (by kernel_rfl) (by kernel_rfl) (by kernel_rfl) (by kernel_rfl) (by exact trivial) ?_)|((with_reducible refine isDraw [some 61,some 62,some 63,some 64,some 65,some 66,some 67,some 68,some 69,some 70,some 71,some 72,some 73,some 74,some 75,none,some 76,none] (by decide) ?_);refine draw_rule [(0,[]),(1,[]),(2,[]),(3,[]),(4,[]),(5,[]),(6,[]),(7,[]),(8,[]),(9,[]),(10,[9]),(11,[9]),(12,[9]),(13,[9]),(14,[]),(15,[]),(16,[]),(17,[])] [[],[],[],[],[3],[],[],[6],[5,6,7],[5,6,7,8],[],[],[10,11],[10,11,12],[0,1,5,6,7,8,9,10,11,12,13],[0,1,5,6,7,8,9,10,11,12,13,14],[0,1,2,3,4,5,6,7,8,9,10,11,12,13,14,15],[0,1,2,3,4,5,6,7,8,9,10,11,12,13,14,15,16]] [61,62,63,64,65,66,67,68,69,70,71,72,73,74,75] [] (by kernel_rfl) (by kernel_rfl) (by kernel_rfl) (by kernel_rfl) (by exact trivial) ?_)|((with_reducible refine isDraw [some 92,some 93,some 94,some 95,some 96,some 97,some 98,some 99,some 100,some 101,some 102,some 103] (by decide) ?_);refine draw_rule [(0,[]),(1,[]),(2,[]),(3,[]),(4,[]),(5,[4]),(6,[4]),(7,[4]),(8,[4]),(9,[]),(10,[]),(11,[])] [[],[],[],[1,2],[1,2,3],[],[],[5,6],[5,6,7],[0,1,2,3,4,5,6,7,8],[0,1,2,3,4,5,6,7,8,9],[0,1,2,3,4,5,6,7,8,9,10]] [92,93,94,95,96,97,98,99,100] [] (by kernel_rfl) (by kernel_rfl) (by kernel_rfl) (by kernel_rfl) (by exact trivial) ?_)|((with_reducible refine isDraw [some 113,some 114,some 115,some 116,some 117,some 118,some 119,some 120,some 121,some 122,some 123,some 124,some 125,some 126,some 127,none,some 128,none] (by decide) ?_);refine draw_rule [(0,[]),(1,[]),(2,[]),(3,[]),(4,[]),(5,[]),(6,[]),(7,[]),(8,[]),(9,[]),(10,[9]),(11,[9]),(12,[9]),(13,[9]),(14,[]),(15,[]),(16,[]),(17,[])] [[],[],[],[],[3],[],[],[6],[5,6,7],[5,6,7,8],[],[],[10,11],[10,11,12],[0,1,5,6,7,8,9,10,11,12,13],[0,1,5,6,7,8,9,10,11,12,13,14],[0,1,2,3,4,5,6,7,8,9,10,11,12,13,14,15],[0,1,2,3,4,5,6,7,8,9,10,11,12,13,14,15,16]] [113,114,115,116,117,118,119,120,121,122,123,124,125,126,127] [] (by kernel_rfl) (by kernel_rfl) (by kernel_rfl) (by kernel_rfl) (by exact trivial) ?_)|((with_reducible refine isDraw [some 158,some 159,some 160,some 161,some 162,some 163,some 164,some 165,some 166,some 167,some 168,some 169,some 170,some 171] (by decide) ?_);refine draw_rule [(0,[]),(1,[]),(2,[]),(3,[]),(4,[]),(5,[]),(6,[]),(7,[6]),(8,[6]),(9,[6]),(10,[6]),(11,[]),(12,[]),(13,[])] [[],[],[],[],[2,3],[1,2,3,4],[1,2,3,4,5],[],[],[7,8],[7,8,9],[0,1,2,3,4,5,6,7,8,9,10],[0,1,2,3,4,5,6,7,8,9,10,11],[0,1,2,3,4,5,6,7,8,9,10,11,12]] [158,159,160,161,162,163,164,165,166,167,168] [] (by kernel_rfl) (by kernel_rfl) (by kernel_rfl) (by kernel_rfl) (by exact trivial) ?_)|(refine And.intro ?_ ?_;(try simp only[sxO]at *);omega)|fail)<;>(try simp (maxSteps:=1000000) only [d3,w7,natV,cE_ment,cE_kill,cE_len,hasK_nil,Nat.mul_one,List.length_set,frC_len,frC_ment,frC_kill,↓hold_pre,awayP,runOps,regK,step1,newK,genR,appR,obl,buildR,Value.cells,closeK,keepH,outV,retK,ret1,retC,RetV,Option.getD,runD,stepD,afterK,undef,simprocAttr,sxB,↓sxD,sxE,sxTab]))
   exact ⟨h-i,so_maSt M2 ul nr R N D a i h,by omega,le_sub ⟨rfl,rfl,rfl,rfl,rfl,trivial⟩ ⟨by first|rfl|simp[lkH],by first|rfl|simp[lkH],by first|rfl|simp[lkH],by first|rfl|simp[lkH],trivial⟩ rfl rfl rfl (by simp[keepLt,so_maSt,lkH]),M2,i,h,rfl,hM2,hmi,by omega,by omega,hI,.inr hcc,rfl⟩
 obtain rfl:i=j:=by omega
 have d1:decide ((i:Int)<(i:Int))=false:=by simp
 obtain ⟨Y1,Y2,hYY,hY1⟩:∃Y1 Y2,Y=Y1++Y2∧Y1.length=i-m:=⟨Y.take (i-m),Y.drop (i-m),(List.take_append_drop _ _).symm,by rw[List.length_take];omega⟩
 have hYl:Y.length=Y1.length+Y2.length:=by rw[hYY,List.length_append]
 have hyy:=hy
 rw[hYY]at hyy
 obtain ⟨y1,y2,y3⟩:=pw_app.1 hyy
 have g1:ahead c Y1 X:=ahead_nt ho y1 hx fun p1 _=>by
  rcases hI with hI|hI
  ·omega
  rw[nt_mid (A++X) Y1 (Y2++B) (i:=Y1.length-1) (j:=i-1) (by rw[hD,hYY];simp) (by omega) (by rw[List.length_append];omega),hx0]at hI
  exact .inl hI
 have g2:ahead c X Y2:=ahead_nt ho hx y2 fun _ p2=>by
  rcases hJ with hJ|hJ
  ·omega
  have e1:=nt_mid (D:=D) (A++X++Y1) Y2 B (i:=0) (j:=i) (by rw[hD,hYY];simp) p2 (by simp only[List.length_append];omega)
  rw[hx0,e1]at hJ
  rw[hX]
  exact ltS_not ho (hxy _ (nt_in (by omega)) _ (by rw[hYY];exact List.mem_append_right _ (nt_in p2))) hJ
 have hKz:=hK (Y1++X++Y2) M1 hM1 (by rw[hYY,←List.append_assoc];exact List.Perm.append_right _ List.perm_append_comm) (pw_app.2 ⟨pw_app.2 ⟨y1,hx,g1⟩,y2,fun u hu v hv=>by
  rcases List.mem_append.1 hu with hu|hu
  ·exact y3 u hu v hv
  ·exact g2 u hu v hv⟩)
 clear hK
 refine Go1.mk ?_;repeat' ((first|(with_reducible refine Go1.go ?_)|(refine And.intro ?_ ?_;(try simp only[sxO]at *);omega)|fail)<;>(try simp (maxSteps:=1000000) only [so_maSt,d1,natV,cE_ment,cE_kill,cE_len,hasK_nil,Nat.mul_one,List.length_set,frC_len,frC_ment,frC_kill,↓hold_pre,awayP,runOps,regK,step1,newK,genR,appR,obl,buildR,Value.cells,closeK,keepH,outV,retK,ret1,retC,RetV,Option.getD,runD,stepD,afterK,undef,simprocAttr,sxB,↓sxD,sxE,sxTab]))
 refine ⟨fun d z=>∃P Q E,d=Q.length∧Y1=P++Q∧E=A++P++X++Q++Y2++B∧z=so_mbSt M1 ul nr R N E i (a+P.length),
  ⟨Y1.length,so_mbSt M1 ul nr R N D i a,le_sub ⟨rfl,rfl,rfl,trivial⟩ ⟨by first|rfl|simp[lkH],by first|rfl|simp[lkH],by first|rfl|simp[lkH],by first|rfl|simp[lkH],trivial⟩ rfl rfl rfl (by simp[keepLt,so_mbSt,lkH]),⟨[],Y1,D,rfl,rfl,by rw[hD,hYY];simp,rfl⟩⟩,?_⟩
 rintro d z ⟨P,Q,E,rfl,hPQ,hE,rfl⟩
 have hPl:=congrArg List.length hPQ
 rw[List.length_append]at hPl
 have hEl:E.length=N:=by rw[hE];simp only[List.length_append];omega
 have w1:IntKind.i64.wrap ((i:Int)-1)=((a+Y1.length:Nat):Int):=by rw[wrap_id (by omega) (by omega)];omega
 rcases Q with _|⟨q,Q⟩
 ·have d2:decide (((a+P.length:Nat):Int)<((a+Y1.length:Nat):Int))=false:=by rw[decide_eq_false_iff_not];simp only[List.length_nil]at hPl;omega
  refine Go1.mk ?_;repeat' ((first|(with_reducible refine Go1.go ?_)|(refine And.intro ?_ ?_;(try simp only[sxO]at *);omega)|fail)<;>(try simp (maxSteps:=1000000) only [so_mbSt,d2,w1,natV,cE_ment,cE_kill,cE_len,hasK_nil,Nat.mul_one,List.length_set,frC_len,frC_ment,frC_kill,↓hold_pre,awayP,runOps,regK,step1,newK,genR,appR,obl,buildR,Value.cells,closeK,keepH,outV,retK,ret1,retC,RetV,Option.getD,runD,stepD,afterK,undef,simprocAttr,sxB,↓sxD,sxE,sxTab]))
  rw[List.append_nil]at hPQ hE
  rw[hE,←hPQ]
  rw[show A++(Y1++X++Y2)++B=A++Y1++X++Y2++B by simp]at hKz
  exact hKz
 simp only[List.length_cons]at hPl
 have d2:decide (((a+P.length:Nat):Int)<((a+Y1.length:Nat):Int))=true:=by rw[decide_eq_true_eq];omega
 obtain ⟨x,hXx⟩:∃x,X=[x]:=⟨_,hX0⟩
 have e1:E=(A++P)++x :: ([]++q :: (Q++Y2++B)):=by rw[hE,hXx];simp
 have e2:E=(A++P++[x])++q :: (Q++Y2++B):=by rw[e1];simp
 have ai:a+P.length=(A++P).length:=by rw[List.length_append];omega
 have h1:=at_mid (A++P) x ([]++q :: (Q++Y2++B)) ai
 rw[←e1]at h1
 have h2:=at_mid (A++P++[x]) q (Q++Y2++B) (i:=a+P.length+1) (by simp only[List.length_append,List.length_cons,List.length_nil];omega)
 rw[←e2]at h2
 have h3:=set_two (A++P) [] (Q++Y2++B) x q (i:=a+P.length) (j:=a+P.length+1) ai (by rw[←ai];simp)
 rw[←e1]at h3
 have w2:IntKind.i64.wrap (((a+P.length:Nat):Int)+1)=((a+P.length+1:Nat):Int):=succ_i (by omega)
 have j1:(0:Int)≤((a+P.length:Nat):Int):=by omega
 have j2:((a+P.length:Nat):Int)<(N:Int):=by omega
 have j3:(0:Int)≤((a+P.length+1:Nat):Int):=by omega
 have j4:((a+P.length+1:Nat):Int)<(N:Int):=by omega
 have k1:=nat_set E (a+P.length) q
 have k2:=nat_set (E.set (a+P.length) q) (a+P.length+1) x
 refine Go1.mk ?_;repeat' ((first|(with_reducible refine Go1.go ?_)|((with_reducible refine isDraw [some 40,some 41,some 42,some 43,some 44,some 45,some 46,some 47,some 48,some 49,some 50] (by decide) ?_);refine draw_rule [(0,[]),(1,[]),(2,[]),(3,[]),(4,[]),(5,[4]),(6,[4]),(7,[4]),(8,[4]),(9,[]),(10,[])] [[],[],[],[1,2],[1,2,3],[],[],[5,6],[5,6,7],[0,1,2,3,4,5,6,7,8],[0,1,2,3,4,5,6,7,8,9]] [40,41,42,43,44,45,46,47,48] [] (by kernel_rfl) (by kernel_rfl) (by kernel_rfl) (by kernel_rfl) (by exact trivial) ?_)|((with_reducible refine isDraw [some 61,some 62,some 63,some 64,some 65,some 66,some 67,some 68,some 69,some 70,some 71,some 72,some 73,some 74,some 75,none,some 76,none] (by decide) ?_);refine draw_rule [(0,[]),(1,[]),(2,[]),(3,[]),(4,[]),(5,[]),(6,[]),(7,[]),(8,[]),(9,[]),(10,[9]),(11,[9]),(12,[9]),(13,[9]),(14,[]),(15,[]),(16,[]),(17,[])] [[],[],[],[],[3],[],[],[6],[5,6,7],[5,6,7,8],[],[],[10,11],[10,11,12],[0,1,5,6,7,8,9,10,11,12,13],[0,1,5,6,7,8,9,10,11,12,13,14],[0,1,2,3,4,5,6,7,8,9,10,11,12,13,14,15],[0,1,2,3,4,5,6,7,8,9,10,11,12,13,14,15,16]] [61,62,63,64,65,66,67,68,69,70,71,72,73,74,75] [] (by kernel_rfl) (by kernel_rfl) (by kernel_rfl) (by kernel_rfl) (by exact trivial) ?_)|((with_reducible refine isDraw [some 92,some 93,some 94,some 95,some 96,some 97,some 98,some 99,some 100,some 101,some 102,some 103] (by decide) ?_);refine draw_rule [(0,[]),(1,[]),(2,[]),(3,[]),(4,[]),(5,[4]),(6,[4]),(7,[4]),(8,[4]),(9,[]),(10,[]),(11,[])] [[],[],[],[1,2],[1,2,3],[],[],[5,6],[5,6,7],[0,1,2,3,4,5,6,7,8],[0,1,2,3,4,5,6,7,8,9],[0,1,2,3,4,5,6,7,8,9,10]] [92,93,94,95,96,97,98,99,100] [] (by kernel_rfl) (by kernel_rfl) (by kernel_rfl) (by kernel_rfl) (by exact trivial) ?_)|((with_reducible refine isDraw [some 113,some 114,some 115,some 116,some 117,some 118,some 119,some 120,some 121,some 122,some 123,some 124,some 125,some 126,some 127,none,some 128,none] (by decide) ?_);refine draw_rule [(0,[]),(1,[]),(2,[]),(3,[]),(4,[]),(5,[]),(6,[]),(7,[]),(8,[]),(9,[]),(10,[9]),(11,[9]),(12,[9]),(13,[9]),(14,[]),(15,[]),(16,[]),(17,[])] [[],[],[],[],[3],[],[],[6],[5,6,7],[5,6,7,8],[],[],[10,11],[10,11,12],[0,1,5,6,7,8,9,10,11,12,13],[0,1,5,6,7,8,9,10,11,12,13,14],[0,1,2,3,4,5,6,7,8,9,10,11,12,13,14,15],[0,1,2,3,4,5,6,7,8,9,10,11,12,13,14,15,16]] [113,114,115,116,117,118,119,120,121,122,123,124,125,126,127] [] (by kernel_rfl) (by kernel_rfl) (by kernel_rfl) (by kernel_rfl) (by exact trivial) ?_)|((with_reducible refine isDraw [some 158,some 159,some 160,some 161,some 162,some 163,some 164,some 165,some 166,some 167,some 168,some 169,some 170,some 171] (by decide) ?_);refine draw_rule [(0,[]),(1,[]),(2,[]),(3,[]),(4,[]),(5,[]),(6,[]),(7,[6]),(8,[6]),(9,[6]),(10,[6]),(11,[]),(12,[]),(13,[])] [[],[],[],[],[2,3],[1,2,3,4],[1,2,3,4,5],[],[],[7,8],[7,8,9],[0,1,2,3,4,5,6,7,8,9,10],[0,1,2,3,4,5,6,7,8,9,10,11],[0,1,2,3,4,5,6,7,8,9,10,11,12]] [158,159,160,161,162,163,164,165,166,167,168] [] (by kernel_rfl) (by kernel_rfl) (by kernel_rfl) (by kernel_rfl) (by exact trivial) ?_)|(refine And.intro ?_ ?_;(try simp only[sxO]at *);omega)|fail)<;>(try simp (maxSteps:=1000000) only [so_mbSt,d2,w1,w2,h1,h2,k1,k2,h3,hEl,j1,j2,j3,j4,natV,cE_ment,cE_kill,cE_len,hasK_nil,Nat.mul_one,List.length_set,frC_len,frC_ment,frC_kill,↓hold_pre,awayP,runOps,regK,step1,newK,genR,appR,obl,buildR,Value.cells,closeK,keepH,outV,retK,ret1,retC,RetV,Option.getD,runD,stepD,afterK,undef,simprocAttr,sxB,↓sxD,sxE,sxTab]))
 exact ⟨Q.length,so_mbSt M1 ul nr R N ((A++P)++q :: ([]++x :: (Q++Y2++B))) i (a+P.length+1),by simp,le_sub ⟨rfl,rfl,rfl,trivial⟩ ⟨by first|rfl|simp[lkH],by first|rfl|simp[lkH],by first|rfl|simp[lkH],by first|rfl|simp[lkH],trivial⟩ rfl rfl rfl (by simp[keepLt,so_mbSt,lkH]),P++[q],Q,(A++P)++q :: ([]++x :: (Q++Y2++B)),rfl,by rw[hPQ];simp,by rw[hXx];simp,by rw[List.length_append];rfl⟩
end
section
variable {M:Mem}{K:AV→Hp→Mem→Prop}(ul:Value)(nr:Nat)(R:List FR){c:Nat→Nat→Int}
def so_mcSt(M:Mem)(ul:Value)(nr:Nat)(R:List FR)(N:Nat)(D:List Nat)(m i j:Nat):St:={env:=[(14,.ext (.int .i64 (i:Int))),(15,.ext (.int .i64 (j:Int))),(4,.fn 38 [.own 1 0,.own 4 0]),(2,.ext (.int .i64 (m:Int))),(0,.slo 114 0 N 1)],hp:=[(114,3,cE natV (D)),(1,26,[.ext ul]),(4,66,[.slo 12 0 nr 2]),(12,34,frC R)],M:=M,kb:=200,fx:=[114,1,4,12]}
def so_mdSt(M:Mem)(ul:Value)(nr:Nat)(R:List FR)(N:Nat)(D:List Nat)(i k:Nat):St:={env:=[(17,.ext (.int .i64 (k:Int))),(14,.ext (.int .i64 (i:Int))),(0,.slo 114 0 N 1)],hp:=[(114,3,cE natV (D)),(1,26,[.ext ul]),(4,66,[.slo 12 0 nr 2]),(12,34,frC R)],M:=M,kb:=200,fx:=[114,1,4,12]}
theorem mrgB_ok(ho:CmpO c)(NN:Nat)(hc:CmpK M ul nr R c NN)(A X Y B D:List Nat)(a m b N:Nat)(hD:D=A++X++Y++B)(ha:a=A.length)(hm:m=A.length+X.length)(hb:b=A.length+X.length+Y.length)(hX:1<X.length)(hY:Y.length=1)(hx:X.Pairwise (ltS c))(hy:Y.Pairwise (ltS c))(hxy:∀x∈X,∀y∈Y,x<y)(hNN:∀x∈X++Y,x<NN)(hN:D.length=N)(hN2:N<1000000)
  (hK:∀Z M',Mem.le M M'→Z.Perm (X++Y)→Z.Pairwise (ltS c)→K (.ext (.tuple #[])) [(114,3,cE natV (A++Z++B)),(1,26,[.ext ul]),(4,66,[.slo 12 0 nr 2]),(12,34,frC R)] M') :
  CallS Try.prog 100 [.slo 114 0 N 1,.ext (.int .i64 (a:Int)),.ext (.int .i64 (m:Int)),.ext (.int .i64 (b:Int)),.fn 38 [.own 1 0,.own 4 0]] [(114,3,cE natV (D)),(1,26,[.ext ul]),(4,66,[.slo 12 0 nr 2]),(12,34,frC R)] M [] K:=by
 refine inlS (cs:=[]) Try.mixed Try.func100 rfl (by kernel_rfl) 200 rfl rfl ?_
 simp only[Try.f100]
 have hL:=congrArg List.length hD
 simp only[List.length_append]at hL
 have w0:IntKind.i64.wrap ((m:Int)-(a:Int))=(X.length:Int):=by rw[wrap_id (by omega) (by omega)];omega
 have w1:IntKind.i64.wrap ((b:Int)-(m:Int))=1:=by rw[wrap_id (by omega) (by omega)];omega
 have d0:decide ((X.length:Int)=1)=false:=by rw[decide_eq_false_iff_not];omega
 refine Go1.mk ?_;repeat' ((first|(with_reducible refine Go1.go ?_)|(refine And.intro ?_ ?_;(try simp only[sxO]at *);omega)|fail)<;>(try simp (maxSteps:=1000000) only [w0,w1,d0,natV,cE_ment,cE_kill,cE_len,hasK_nil,Nat.mul_one,List.length_set,frC_len,frC_ment,frC_kill,↓hold_pre,awayP,runOps,regK,step1,newK,genR,appR,obl,buildR,Value.cells,closeK,keepH,outV,retK,ret1,retC,RetV,Option.getD,runD,stepD,afterK,undef,simprocAttr,sxB,↓sxD,sxE,sxTab]))
 refine ⟨fun d z=>∃M' i j,d=j-i∧Mem.le M M'∧a≤i∧i≤j∧j≤m∧(i=a∨¬c (nt D m) (nt D (i-1))<0)∧(j=m∨c (nt D m) (nt D j)<0)∧z=so_mcSt M' ul nr R N D m i j,
  ⟨m-a,so_mcSt M ul nr R N D m a m,le_sub ⟨rfl,rfl,rfl,rfl,rfl,trivial⟩ ⟨by first|rfl|simp[lkH],by first|rfl|simp[lkH],by first|rfl|simp[lkH],by first|rfl|simp[lkH],trivial⟩ rfl rfl rfl (by simp[keepLt,so_mcSt,lkH]),⟨M,a,m,rfl,Mem.le.refl _,Nat.le_refl _,by omega,Nat.le_refl _,.inl rfl,.inl rfl,rfl⟩⟩,?_⟩
 clear w1
 have hy0:nt D m=nt Y 0:=nt_mid (A++X) Y B hD (by omega) (by rw[List.length_append];omega)
 have hY0:Y=[nt Y 0]:=by
  rcases Y with _|⟨x,_|⟨y,Y⟩⟩
  ·simp at hY
  ·rfl
  ·simp at hY
 rintro d z ⟨M1,i,j,rfl,hM1,hmi,hij,hjb,hI,hJ,rfl⟩
 by_cases hlt:i<j
 ·have d1:decide ((i:Int)<(j:Int))=true:=by rw[decide_eq_true_eq];omega
  have w2:IntKind.i64.wrap ((i:Int)+(j:Int))=((i+j:Nat):Int):=by rw[wrap_id (by omega) (by omega)];omega
  have w3:IntKind.u64.wrap ((i+j:Nat):Int)=((i+j:Nat):Int):=wrap64_id (by omega)
  have w4:=sh_one (i+j)
  have h1:=Nat.div_add_mod (i+j) 2
  have h2:=Nat.mod_lt (i+j) (show 0<2 by decide)
  obtain ⟨h,hh⟩:∃h,h=(i+j) / 2:=⟨_,rfl⟩
  rw[←hh]at w4 h1
  have w5:IntKind.i64.wrap (h:Int)=(h:Int):=wrap_id (by omega) (by omega)
  have w6:IntKind.u64.wrap (h:Int)=(h:Int):=wrap64_id (by omega)
  have w7:IntKind.i64.wrap ((h:Int)+1)=((h+1:Nat):Int):=succ_i (by omega)
  have j1:(0:Int)≤(h:Int):=by omega
  have j2:(h:Int)<(N:Int):=by omega
  have j3:(0:Int)≤(m:Int):=by omega
  have j4:(m:Int)<(N:Int):=by omega
  have n1:=nt_at (D:=D) (i:=h) (by omega)
  have n2:=nt_at (D:=D) (i:=m) (by omega)
  have hxh:nt D h=nt X (h-a):=nt_mid A X (Y++B) (by rw[hD];simp) (by omega) (by omega)
  have b1:nt D h<NN:=hNN _ (by rw[hxh];exact List.mem_append_left _ (nt_in (by omega)))
  have b2:nt D m<NN:=hNN _ (by rw[hy0];exact List.mem_append_right _ (nt_in (by omega)))
  refine Go1.mk ?_;repeat' ((first|(with_reducible refine Go1.go ?_)|((with_reducible refine isCall0 (f:=38) ?_);refine callA0 ?_)|((with_reducible refine isCallS (f:=38) ?_);refine (hc (nt D m) (nt D h) _ _ b2 b1 hM1 (fun M2 m2=>Stop.mk ?_)))|((with_reducible refine isDraw [some 40,some 41,some 42,some 43,some 44,some 45,some 46,some 47,some 48,some 49,some 50] (by decide) ?_);refine draw_rule [(0,[]),(1,[]),(2,[]),(3,[]),(4,[]),(5,[4]),(6,[4]),(7,[4]),(8,[4]),(9,[]),(10,[])] [[],[],[],[1,2],[1,2,3],[],[],[5,6],[5,6,7],[0,1,2,3,4,5,6,7,8],[0,1,2,3,4,5,6,7,8,9]] [40,41,42,43,44,45,46,47,48] [] (by kernel_rfl) (by kernel_rfl) (by kernel_rfl) (by kernel_rfl) (by exact trivial) ?_)|((with_reducible refine isDraw [some 61,some 62,some 63,some 64,some 65,some 66,some 67,some 68,some 69,some 70,some 71,some 72,some 73,some 74,some 75,none,some 76,none] (by decide) ?_);refine draw_rule [(0,[]),(1,[]),(2,[]),(3,[]),(4,[]),(5,[]),(6,[]),(7,[]),(8,[]),(9,[]),(10,[9]),(11,[9]),(12,[9]),(13,[9]),(14,[]),(15,[]),(16,[]),(17,[])] [[],[],[],[],[3],[],[],[6],[5,6,7],[5,6,7,8],[],[],[10,11],[10,11,12],[0,1,5,6,7,8,9,10,11,12,13],[0,1,5,6,7,8,9,10,11,12,13,14],[0,1,2,3,4,5,6,7,8,9,10,11,12,13,14,15],[0,1,2,3,4,5,6,7,8,9,10,11,12,13,14,15,16]] [61,62,63,64,65,66,67,68,69,70,71,72,73,74,75] [] (by kernel_rfl) (by kernel_rfl) (by kernel_rfl) (by kernel_rfl) (by exact trivial) ?_)|((with_reducible refine isDraw [some 92,some 93,some 94,some 95,some 96,some 97,some 98,some 99,some 100,some 101,some 102,some 103] (by decide) ?_);refine draw_rule [(0,[]),(1,[]),(2,[]),(3,[]),(4,[]),(5,[4]),(6,[4]),(7,[4]),(8,[4]),(9,[]),(10,[]),(11,[])] [[],[],[],[1,2],[1,2,3],[],[],[5,6],[5,6,7],[0,1,2,3,4,5,6,7,8],[0,1,2,3,4,5,6,7,8,9],[0,1,2,3,4,5,6,7,8,9,10]] [92,93,94,95,96,97,98,99,100] [] (by kernel_rfl) (by kernel_rfl) (by kernel_rfl) (by kernel_rfl) (by exact trivial) ?_)|((with_reducible refine isDraw [some 113,some 114,some 115,some 116,some 117,some 118,some 119,some 120,some 121,some 122,some 123,some 124,some 125,some 126,some 127,none,some 128,none] (by decide) ?_);refine draw_rule [(0,[]),(1,[]),(2,[]),(3,[]),(4,[]),(5,[]),(6,[]),(7,[]),(8,[]),(9,[]),(10,[9]),(11,[9]),(12,[9]),(13,[9]),(14,[]),(15,[]),(16,[]),(17,[])] [[],[],[],[],[3],[],[],[6],[5,6,7],[5,6,7,8],[],[],[10,11],[10,11,12],[0,1,5,6,7,8,9,10,11,12,13],[0,1,5,6,7,8,9,10,11,12,13,14],[0,1,2,3,4,5,6,7,8,9,10,11,12,13,14,15],[0,1,2,3,4,5,6,7,8,9,10,11,12,13,14,15,16]] [113,114,115,116,117,118,119,120,121,122,123,124,125,126,127] [] (by kernel_rfl) (by kernel_rfl) (by kernel_rfl) (by kernel_rfl) (by exact trivial) ?_)|((with_reducible refine isDraw [some 158,some 159,some 160,some 161,some 162,some 163,some 164,some 165,some 166,some 167,some 168,some 169,some 170,some 171] (by decide) ?_);refine draw_rule [(0,[]),(1,[]),(2,[]),(3,[]),(4,[]),(5,[]),(6,[]),(7,[6]),(8,[6]),(9,[6]),(10,[6]),(11,[]),(12,[]),(13,[])] [[],[],[],[],[2,3],[1,2,3,4],[1,2,3,4,5],[],[],[7,8],[7,8,9],[0,1,2,3,4,5,6,7,8,9,10],[0,1,2,3,4,5,6,7,8,9,10,11],[0,1,2,3,4,5,6,7,8,9,10,11,12]] [158,159,160,161,162,163,164,165,166,167,168] [] (by kernel_rfl) (by kernel_rfl) (by kernel_rfl) (by kernel_rfl) (by exact trivial) ?_)|(refine And.intro ?_ ?_;(try simp only[sxO]at *);omega)|fail)<;>(try simp (maxSteps:=1000000) only [so_mcSt,d1,w2,w3,w4,w5,w6,w7,n1,n2,j1,j2,j3,j4,natV,cE_ment,cE_kill,cE_len,hasK_nil,Nat.mul_one,List.length_set,frC_len,frC_ment,frC_kill,↓hold_pre,awayP,runOps,regK,step1,newK,genR,appR,obl,buildR,Value.cells,closeK,keepH,outV,retK,ret1,retC,RetV,Option.getD,runD,stepD,afterK,undef,simprocAttr,sxB,↓sxD,sxE,sxTab]))
  have m2:Mem.le M1 M2:=m2
  have hM2:=hM1.trans m2
  by_cases hcc:c (nt D m) (nt D h)<0
  ·have d3:decide (c (nt D m) (nt D h)<0)=true:=decide_eq_true hcc
   refine Stop.go ?_
   refine Go1.mk ?_;repeat' ((first|(with_reducible refine Go1.go ?_)|((with_reducible refine isDraw [some 40,some 41,some 42,some 43,some 44,some 45,some 46,some 47,some 48,some 49,some 50] (by decide) ?_);refine draw_rule [(0,[]),(1,[]),(2,[]),(3,[]),(4,[]),(5,[4]),(6,[4]),(7,[4]),(8,[4]),(9,[]),(10,[])] [[],[],[],[1,2],[1,2,3],[],[],[5,6],[5,6,7],[0,1,2,3,4,5,6,7,8],[0,1,2,3,4,5,6,7,8,9]] [40,41,42,43,44,45,46,47,48] [] (by kernel_rfl) (by kernel_rfl) (by kernel_rfl) (by kernel_rfl) (by exact trivial) ?_)|((with_reducible refine isDraw [some 61,some 62,some 63,some 64,some 65,some 66,some 67,some 68,some 69,some 70,some 71,some 72,some 73,some 74,some 75,none,some 76,none] (by decide) ?_);refine draw_rule [(0,[]),(1,[]),(2,[]),(3,[]),(4,[]),(5,[]),(6,[]),(7,[]),(8,[]),(9,[]),(10,[9]),(11,[9]),(12,[9]),(13,[9]),(14,[]),(15,[]),(16,[]),(17,[])] [[],[],[],[],[3],[],[],[6],[5,6,7],[5,6,7,8],[],[],[10,11],[10,11,12],[0,1,5,6,7,8,9,10,11,12,13],[0,1,5,6,7,8,9,10,11,12,13,14],[0,1,2,3,4,5,6,7,8,9,10,11,12,13,14,15],[0,1,2,3,4,5,6,7,8,9,10,11,12,13,14,15,16]] [61,62,63,64,65,66,67,68,69,70,71,72,73,74,75] [] (by kernel_rfl) (by kernel_rfl) (by kernel_rfl) (by kernel_rfl) (by exact trivial) ?_)|((with_reducible refine isDraw [some 92,some 93,some 94,some 95,some 96,some 97,some 98,some 99,some 100,some 101,some 102,some 103] (by decide) ?_);refine draw_rule [(0,[]),(1,[]),(2,[]),(3,[]),(4,[]),(5,[4]),(6,[4]),(7,[4]),(8,[4]),(9,[]),(10,[]),(11,[])] [[],[],[],[1,2],[1,2,3],[],[],[5,6],[5,6,7],[0,1,2,3,4,5,6,7,8],[0,1,2,3,4,5,6,7,8,9],[0,1,2,3,4,5,6,7,8,9,10]] [92,93,94,95,96,97,98,99,100] [] (by kernel_rfl) (by kernel_rfl) (by kernel_rfl) (by kernel_rfl) (by exact trivial) ?_)|((with_reducible refine isDraw [some 113,some 114,some 115,some 116,some 117,some 118,some 119,some 120,some 121,some 122,some 123,some 124,some 125,some 126,some 127,none,some 128,none] (by decide) ?_);refine draw_rule [(0,[]),(1,[]),(2,[]),(3,[]),(4,[]),(5,[]),(6,[]),(7,[]),(8,[]),(9,[]),(10,[9]),(11,[9]),(12,[9]),(13,[9]),(14,[]),(15,[]),(16,[]),(17,[])] [[],[],[],[],[3],[],[],[6],[5,6,7],[5,6,7,8],[],[],[10,11],[10,11,12],[0,1,5,6,7,8,9,10,11,12,13],[0,1,5,6,7,8,9,10,11,12,13,14],[0,1,2,3,4,5,6,7,8,9,10,11,12,13,14,15],[0,1,2,3,4,5,6,7,8,9,10,11,12,13,14,15,16]] [113,114,115,116,117,118,119,120,121,122,123,124,125,126,127] [] (by kernel_rfl) (by kernel_rfl) (by kernel_rfl) (by kernel_rfl) (by exact trivial) ?_)|((with_reducible refine isDraw [some 158,some 159,some 160,some 161,some 162,some 163,some 164,some 165,some 166,some 167,some 168,some 169,some 170,some 171] (by decide) ?_);refine draw_rule [(0,[]),(1,[]),(2,[]),(3,[]),(4,[]),(5,[]),(6,[]),(7,[6]),(8,[6]),(9,[6]),(10,[6]),(11,[]),(12,[]),(13,[])] [[],[],[],[],[2,3],[1,2,3,4],[1,2,3,4,5],[],[],[7,8],[7,8,9],[0,1,2,3,4,5,6,7,8,9,10],[0,1,2,3,4,5,6,7,8,9,10,11],[0,1,2,3,4,5,6,7,8,9,10,11,12]] [158,159,160,161,162,163,164,165,166,167,168] [] (by kernel_rfl) (by kernel_rfl) (by kernel_rfl) (by kernel_rfl) (by exact trivial) ?_)|(refine And.intro ?_ ?_;(try simp only[sxO]at *);omega)|fail)<;>(try simp (maxSteps:=1000000) only [d3,w7,natV,cE_ment,cE_kill,cE_len,hasK_nil,Nat.mul_one,List.length_set,frC_len,frC_ment,frC_kill,↓hold_pre,awayP,runOps,regK,step1,newK,genR,appR,obl,buildR,Value.cells,closeK,keepH,outV,retK,ret1,retC,RetV,Option.getD,runD,stepD,afterK,undef,simprocAttr,sxB,↓sxD,sxE,sxTab]))
   exact ⟨h-i,so_mcSt M2 ul nr R N D m i h,by omega,le_sub ⟨rfl,rfl,rfl,rfl,rfl,trivial⟩ ⟨by first|rfl|simp[lkH],by first|rfl|simp[lkH],by first|rfl|simp[lkH],by first|rfl|simp[lkH],trivial⟩ rfl rfl rfl (by simp[keepLt,so_mcSt,lkH]),M2,i,h,rfl,hM2,hmi,by omega,by omega,hI,.inr hcc,rfl⟩
  ·have d3:decide (c (nt D m) (nt D h)<0)=false:=decide_eq_false hcc
   refine Stop.go ?_
   refine Go1.mk ?_;repeat' ((first|(with_reducible refine Go1.go ?_)|((with_reducible refine isDraw [some 40,some 41,some 42,some 43,some 44,some 45,some 46,some 47,some 48,some 49,some 50] (by decide) ?_);refine draw_rule [(0,[]),(1,[]),(2,[]),(3,[]),(4,[]),(5,[4]),(6,[4]),(7,[4]),(8,[4]),(9,[]),(10,[])] [[],[],[],[1,2],[1,2,3],[],[],[5,6],[5,6,7],[0,1,2,3,4,5,6,7,8],[0,1,2,3,4,5,6,7,8,9]] [40,41,42,43,44,45,46,47,48] [] (by kernel_rfl) (by kernel_rfl) (by kernel_rfl) (by kernel_rfl) (by exact trivial) ?_)|((with_reducible refine isDraw [some 61,some 62,some 63,some 64,some 65,some 66,some 67,some 68,some 69,some 70,some 71,some 72,some 73,some 74,some 75,none,some 76,none] (by decide) ?_);refine draw_rule [(0,[]),(1,[]),(2,[]),(3,[]),(4,[]),(5,[]),(6,[]),(7,[]),(8,[]),(9,[]),(10,[9]),(11,[9]),(12,[9]),(13,[9]),(14,[]),(15,[]),(16,[]),(17,[])] [[],[],[],[],[3],[],[],[6],[5,6,7],[5,6,7,8],[],[],[10,11],[10,11,12],[0,1,5,6,7,8,9,10,11,12,13],[0,1,5,6,7,8,9,10,11,12,13,14],[0,1,2,3,4,5,6,7,8,9,10,11,12,13,14,15],[0,1,2,3,4,5,6,7,8,9,10,11,12,13,14,15,16]] [61,62,63,64,65,66,67,68,69,70,71,72,73,74,75] [] (by kernel_rfl) (by kernel_rfl) (by kernel_rfl) (by kernel_rfl) (by exact trivial) ?_)|((with_reducible refine isDraw [some 92,some 93,some 94,some 95,some 96,some 97,some 98,some 99,some 100,some 101,some 102,some 103] (by decide) ?_);refine draw_rule [(0,[]),(1,[]),(2,[]),(3,[]),(4,[]),(5,[4]),(6,[4]),(7,[4]),(8,[4]),(9,[]),(10,[]),(11,[])] [[],[],[],[1,2],[1,2,3],[],[],[5,6],[5,6,7],[0,1,2,3,4,5,6,7,8],[0,1,2,3,4,5,6,7,8,9],[0,1,2,3,4,5,6,7,8,9,10]] [92,93,94,95,96,97,98,99,100] [] (by kernel_rfl) (by kernel_rfl) (by kernel_rfl) (by kernel_rfl) (by exact trivial) ?_)|((with_reducible refine isDraw [some 113,some 114,some 115,some 116,some 117,some 118,some 119,some 120,some 121,some 122,some 123,some 124,some 125,some 126,some 127,none,some 128,none] (by decide) ?_);refine draw_rule [(0,[]),(1,[]),(2,[]),(3,[]),(4,[]),(5,[]),(6,[]),(7,[]),(8,[]),(9,[]),(10,[9]),(11,[9]),(12,[9]),(13,[9]),(14,[]),(15,[]),(16,[]),(17,[])] [[],[],[],[],[3],[],[],[6],[5,6,7],[5,6,7,8],[],[],[10,11],[10,11,12],[0,1,5,6,7,8,9,10,11,12,13],[0,1,5,6,7,8,9,10,11,12,13,14],[0,1,2,3,4,5,6,7,8,9,10,11,12,13,14,15],[0,1,2,3,4,5,6,7,8,9,10,11,12,13,14,15,16]] [113,114,115,116,117,118,119,120,121,122,123,124,125,126,127] [] (by kernel_rfl) (by kernel_rfl) (by kernel_rfl) (by kernel_rfl) (by exact trivial) ?_)|((with_reducible refine isDraw [some 158,some 159,some 160,some 161,some 162,some 163,some 164,some 165,some 166,some 167,some 168,some 169,some 170,some 171] (by decide) ?_);refine draw_rule [(0,[]),(1,[]),(2,[]),(3,[]),(4,[]),(5,[]),(6,[]),(7,[6]),(8,[6]),(9,[6]),(10,[6]),(11,[]),(12,[]),(13,[])] [[],[],[],[],[2,3],[1,2,3,4],[1,2,3,4,5],[],[],[7,8],[7,8,9],[0,1,2,3,4,5,6,7,8,9,10],[0,1,2,3,4,5,6,7,8,9,10,11],[0,1,2,3,4,5,6,7,8,9,10,11,12]] [158,159,160,161,162,163,164,165,166,167,168] [] (by kernel_rfl) (by kernel_rfl) (by kernel_rfl) (by kernel_rfl) (by exact trivial) ?_)|(refine And.intro ?_ ?_;(try simp only[sxO]at *);omega)|fail)<;>(try simp (maxSteps:=1000000) only [d3,w7,natV,cE_ment,cE_kill,cE_len,hasK_nil,Nat.mul_one,List.length_set,frC_len,frC_ment,frC_kill,↓hold_pre,awayP,runOps,regK,step1,newK,genR,appR,obl,buildR,Value.cells,closeK,keepH,outV,retK,ret1,retC,RetV,Option.getD,runD,stepD,afterK,undef,simprocAttr,sxB,↓sxD,sxE,sxTab]))
   exact ⟨j-(h+1),so_mcSt M2 ul nr R N D m (h+1) j,by omega,le_sub ⟨rfl,rfl,rfl,rfl,rfl,trivial⟩ ⟨by first|rfl|simp[lkH],by first|rfl|simp[lkH],by first|rfl|simp[lkH],by first|rfl|simp[lkH],trivial⟩ rfl rfl rfl (by simp[keepLt,so_mcSt,lkH]),M2,h+1,j,rfl,hM2,by omega,by omega,hjb,.inr hcc,hJ,rfl⟩
 obtain rfl:i=j:=by omega
 have d1:decide ((i:Int)<(i:Int))=false:=by simp
 obtain ⟨X1,X2,hXX,hX1⟩:∃X1 X2,X=X1++X2∧X1.length=i-a:=⟨X.take (i-a),X.drop (i-a),(List.take_append_drop _ _).symm,by rw[List.length_take];omega⟩
 have hXl:X.length=X1.length+X2.length:=by rw[hXX,List.length_append]
 have hxx:=hx
 rw[hXX]at hxx
 obtain ⟨x1,x2,x3⟩:=pw_app.1 hxx
 have g1:ahead c X1 Y:=ahead_nt ho x1 hy fun p1 _=>by
  rcases hI with hI|hI
  ·omega
  rw[nt_mid A X1 (X2++Y++B) (i:=X1.length-1) (j:=i-1) (by rw[hD,hXX];simp) (by omega) (by omega),hy0]at hI
  exact ltS_not ho (hxy _ (by rw[hXX];exact List.mem_append_left _ (nt_in (by omega))) _ (nt_in (by omega))) hI
 have g2:ahead c Y X2:=ahead_nt ho hy x2 fun _ p2=>by
  rcases hJ with hJ|hJ
  ·omega
  have e1:=nt_mid (D:=D) (A++X1) X2 (Y++B) (i:=0) (j:=i) (by rw[hD,hXX];simp) p2 (by simp only[List.length_append];omega)
  rw[hy0,e1]at hJ
  rw[hY]
  exact .inl hJ
 have hKz:=hK (X1++Y++X2) M1 hM1 (by rw[hXX,List.append_assoc,List.append_assoc];exact List.Perm.append_left _ List.perm_append_comm) (pw_app.2 ⟨pw_app.2 ⟨x1,hy,g1⟩,x2,fun u hu v hv=>by
  rcases List.mem_append.1 hu with hu|hu
  ·exact x3 u hu v hv
  ·exact g2 u hu v hv⟩)
 clear hK
 refine Go1.mk ?_;repeat' ((first|(with_reducible refine Go1.go ?_)|(refine And.intro ?_ ?_;(try simp only[sxO]at *);omega)|fail)<;>(try simp (maxSteps:=1000000) only [so_mcSt,d1,natV,cE_ment,cE_kill,cE_len,hasK_nil,Nat.mul_one,List.length_set,frC_len,frC_ment,frC_kill,↓hold_pre,awayP,runOps,regK,step1,newK,genR,appR,obl,buildR,Value.cells,closeK,keepH,outV,retK,ret1,retC,RetV,Option.getD,runD,stepD,afterK,undef,simprocAttr,sxB,↓sxD,sxE,sxTab]))
 refine ⟨fun d z=>∃P Q E,d=P.length∧X2=P++Q∧E=A++X1++P++Y++Q++B∧z=so_mdSt M1 ul nr R N E i (i+P.length),
  ⟨X2.length,so_mdSt M1 ul nr R N D i m,le_sub ⟨rfl,rfl,rfl,trivial⟩ ⟨by first|rfl|simp[lkH],by first|rfl|simp[lkH],by first|rfl|simp[lkH],by first|rfl|simp[lkH],trivial⟩ rfl rfl rfl (by simp[keepLt,so_mdSt,lkH]),⟨X2,[],D,rfl,by simp,by rw[hD,hXX];simp,by rw[show m=i+X2.length by omega]⟩⟩,?_⟩
 rintro d z ⟨P,Q,E,rfl,hPQ,hE,rfl⟩
 have hPl:=congrArg List.length hPQ
 rw[List.length_append]at hPl
 have hEl:E.length=N:=by rw[hE];simp only[List.length_append];omega
 rcases List.eq_nil_or_concat P with rfl|⟨P1,p,hp⟩
 ·have d2:decide ((i:Int)<(i:Int))=false:=by simp
  refine Go1.mk ?_;repeat' ((first|(with_reducible refine Go1.go ?_)|(refine And.intro ?_ ?_;(try simp only[sxO]at *);omega)|fail)<;>(try simp (maxSteps:=1000000) only [so_mdSt,d2,natV,cE_ment,cE_kill,cE_len,hasK_nil,Nat.mul_one,List.length_set,frC_len,frC_ment,frC_kill,↓hold_pre,awayP,runOps,regK,step1,newK,genR,appR,obl,buildR,Value.cells,closeK,keepH,outV,retK,ret1,retC,RetV,Option.getD,runD,stepD,afterK,undef,simprocAttr,sxB,↓sxD,sxE,sxTab]))
  rw[List.nil_append]at hPQ
  rw[hE,←hPQ]
  rw[show A++(X1++Y++X2)++B=A++X1++[]++Y++X2++B by simp]at hKz
  exact hKz
 rw[List.concat_eq_append]at hp
 subst hp
 have hl1:i+(P1++[p]).length=i+P1.length+1:=by rw[List.length_append];rfl
 rw[hl1]
 rw[List.length_append,List.length_singleton]at hPl
 have d2:decide ((i:Int)<((i+P1.length+1:Nat):Int))=true:=by rw[decide_eq_true_eq];omega
 obtain ⟨y,hYy⟩:∃y,Y=[y]:=⟨_,hY0⟩
 have e1:E=(A++X1++P1)++p :: ([]++y :: (Q++B)):=by rw[hE,hYy];simp
 have e2:E=(A++X1++P1++[p])++y :: (Q++B):=by rw[e1];simp
 have ai:i+P1.length=(A++X1++P1).length:=by simp only[List.length_append];omega
 have h1:=at_mid (A++X1++P1) p ([]++y :: (Q++B)) ai
 rw[←e1]at h1
 have h2:=at_mid (A++X1++P1++[p]) y (Q++B) (i:=i+P1.length+1) (by rw[List.length_append,←ai];rfl)
 rw[←e2]at h2
 have h3:=set_owt (A++X1++P1) [] (Q++B) p y (i:=i+P1.length) (j:=i+P1.length+1) ai (by rw[←ai];simp)
 rw[←e1]at h3
 have w2:IntKind.i64.wrap (((i+P1.length+1:Nat):Int)-1)=((i+P1.length:Nat):Int):=by rw[wrap_id (by omega) (by omega)];omega
 have j1:(0:Int)≤((i+P1.length:Nat):Int):=by omega
 have j2:((i+P1.length:Nat):Int)<(N:Int):=by omega
 have j3:(0:Int)≤((i+P1.length+1:Nat):Int):=by omega
 have j4:((i+P1.length+1:Nat):Int)<(N:Int):=by omega
 have k1:=nat_set E (i+P1.length+1) p
 have k2:=nat_set (E.set (i+P1.length+1) p) (i+P1.length) y
 refine Go1.mk ?_;repeat' ((first|(with_reducible refine Go1.go ?_)|((with_reducible refine isDraw [some 40,some 41,some 42,some 43,some 44,some 45,some 46,some 47,some 48,some 49,some 50] (by decide) ?_);refine draw_rule [(0,[]),(1,[]),(2,[]),(3,[]),(4,[]),(5,[4]),(6,[4]),(7,[4]),(8,[4]),(9,[]),(10,[])] [[],[],[],[1,2],[1,2,3],[],[],[5,6],[5,6,7],[0,1,2,3,4,5,6,7,8],[0,1,2,3,4,5,6,7,8,9]] [40,41,42,43,44,45,46,47,48] [] (by kernel_rfl) (by kernel_rfl) (by kernel_rfl) (by kernel_rfl) (by exact trivial) ?_)|((with_reducible refine isDraw [some 61,some 62,some 63,some 64,some 65,some 66,some 67,some 68,some 69,some 70,some 71,some 72,some 73,some 74,some 75,none,some 76,none] (by decide) ?_);refine draw_rule [(0,[]),(1,[]),(2,[]),(3,[]),(4,[]),(5,[]),(6,[]),(7,[]),(8,[]),(9,[]),(10,[9]),(11,[9]),(12,[9]),(13,[9]),(14,[]),(15,[]),(16,[]),(17,[])] [[],[],[],[],[3],[],[],[6],[5,6,7],[5,6,7,8],[],[],[10,11],[10,11,12],[0,1,5,6,7,8,9,10,11,12,13],[0,1,5,6,7,8,9,10,11,12,13,14],[0,1,2,3,4,5,6,7,8,9,10,11,12,13,14,15],[0,1,2,3,4,5,6,7,8,9,10,11,12,13,14,15,16]] [61,62,63,64,65,66,67,68,69,70,71,72,73,74,75] [] (by kernel_rfl) (by kernel_rfl) (by kernel_rfl) (by kernel_rfl) (by exact trivial) ?_)|((with_reducible refine isDraw [some 92,some 93,some 94,some 95,some 96,some 97,some 98,some 99,some 100,some 101,some 102,some 103] (by decide) ?_);refine draw_rule [(0,[]),(1,[]),(2,[]),(3,[]),(4,[]),(5,[4]),(6,[4]),(7,[4]),(8,[4]),(9,[]),(10,[]),(11,[])] [[],[],[],[1,2],[1,2,3],[],[],[5,6],[5,6,7],[0,1,2,3,4,5,6,7,8],[0,1,2,3,4,5,6,7,8,9],[0,1,2,3,4,5,6,7,8,9,10]] [92,93,94,95,96,97,98,99,100] [] (by kernel_rfl) (by kernel_rfl) (by kernel_rfl) (by kernel_rfl) (by exact trivial) ?_)|((with_reducible refine isDraw [some 113,some 114,some 115,some 116,some 117,some 118,some 119,some 120,some 121,some 122,some 123,some 124,some 125,some 126,some 127,none,some 128,none] (by decide) ?_);refine draw_rule [(0,[]),(1,[]),(2,[]),(3,[]),(4,[]),(5,[]),(6,[]),(7,[]),(8,[]),(9,[]),(10,[9]),(11,[9]),(12,[9]),(13,[9]),(14,[]),(15,[]),(16,[]),(17,[])] [[],[],[],[],[3],[],[],[6],[5,6,7],[5,6,7,8],[],[],[10,11],[10,11,12],[0,1,5,6,7,8,9,10,11,12,13],[0,1,5,6,7,8,9,10,11,12,13,14],[0,1,2,3,4,5,6,7,8,9,10,11,12,13,14,15],[0,1,2,3,4,5,6,7,8,9,10,11,12,13,14,15,16]] [113,114,115,116,117,118,119,120,121,122,123,124,125,126,127] [] (by kernel_rfl) (by kernel_rfl) (by kernel_rfl) (by kernel_rfl) (by exact trivial) ?_)|((with_reducible refine isDraw [some 158,some 159,some 160,some 161,some 162,some 163,some 164,some 165,some 166,some 167,some 168,some 169,some 170,some 171] (by decide) ?_);refine draw_rule [(0,[]),(1,[]),(2,[]),(3,[]),(4,[]),(5,[]),(6,[]),(7,[6]),(8,[6]),(9,[6]),(10,[6]),(11,[]),(12,[]),(13,[])] [[],[],[],[],[2,3],[1,2,3,4],[1,2,3,4,5],[],[],[7,8],[7,8,9],[0,1,2,3,4,5,6,7,8,9,10],[0,1,2,3,4,5,6,7,8,9,10,11],[0,1,2,3,4,5,6,7,8,9,10,11,12]] [158,159,160,161,162,163,164,165,166,167,168] [] (by kernel_rfl) (by kernel_rfl) (by kernel_rfl) (by kernel_rfl) (by exact trivial) ?_)|(refine And.intro ?_ ?_;(try simp only[sxO]at *);omega)|fail)<;>(try simp (maxSteps:=1000000) only [so_mdSt,d2,w2,h1,h2,k1,k2,h3,hEl,j1,j2,j3,j4,natV,cE_ment,cE_kill,cE_len,hasK_nil,Nat.mul_one,List.length_set,frC_len,frC_ment,frC_kill,↓hold_pre,awayP,runOps,regK,step1,newK,genR,appR,obl,buildR,Value.cells,closeK,keepH,outV,retK,ret1,retC,RetV,Option.getD,runD,stepD,afterK,undef,simprocAttr,sxB,↓sxD,sxE,sxTab]))
 exact ⟨P1.length,so_mdSt M1 ul nr R N ((A++X1++P1)++y :: ([]++p :: (Q++B))) i (i+P1.length),by simp,le_sub ⟨rfl,rfl,rfl,trivial⟩ ⟨by first|rfl|simp[lkH],by first|rfl|simp[lkH],by first|rfl|simp[lkH],by first|rfl|simp[lkH],trivial⟩ rfl rfl rfl (by simp[keepLt,so_mdSt,lkH]),P1,p :: Q,(A++X1++P1)++y :: ([]++p :: (Q++B)),rfl,by rw[hPQ];simp,by rw[hYy];simp,rfl⟩
end
theorem CmpK.le{M M':Mem}{ul:Value}{nr:Nat}{R:List FR}{c:Nat→Nat→Int}{NN:Nat}(h:CmpK M ul nr R c NN)(hm:Mem.le M M'):CmpK M' ul nr R c NN:=fun x y M1 K a b d e=>h x y M1 K a b (hm.trans d) e
def MrgK(M:Mem)(ul:Value)(nr:Nat)(R:List FR)(c:Nat→Nat→Int)(NN N nn:Nat):Prop:=∀(A X Y B D:List Nat) (a m b:Nat) (M1:Mem) (K:AV→Hp→Mem→Prop),Mem.le M M1→X.length+Y.length≤nn→D=A++X++Y++B→a=A.length→m=A.length+X.length→b=A.length+X.length+Y.length→0<X.length→0<Y.length→X.Pairwise (ltS c)→Y.Pairwise (ltS c)→(∀x∈X,∀y∈Y,x<y)→(∀x∈X++Y,x<NN)→D.length=N→
  (∀Z M',Mem.le M1 M'→Z.Perm (X++Y)→Z.Pairwise (ltS c)→K (.ext (.tuple #[])) [(114,3,cE natV (A++Z++B)),(1,26,[.ext ul]),(4,66,[.slo 12 0 nr 2]),(12,34,frC R)] M')→CallS Try.prog 100 [.slo 114 0 N 1,.ext (.int .i64 (a:Int)),.ext (.int .i64 (m:Int)),.ext (.int .i64 (b:Int)),.fn 38 [.own 1 0,.own 4 0]] [(114,3,cE natV (D)),(1,26,[.ext ul]),(4,66,[.slo 12 0 nr 2]),(12,34,frC R)] M1 [] K
section
variable {M:Mem}{K:AV→Hp→Mem→Prop}(ul:Value)(nr:Nat)(R:List FR){c:Nat→Nat→Int}
def so_gaSt(M:Mem)(ul:Value)(nr:Nat)(R:List FR)(N:Nat)(D:List Nat)(a m b h n lo hi:Nat):St:={env:=[(18,.ext (.int .i64 (h:Int))),(19,.ext (.int .i64 (n:Int))),(20,.ext (.int .i64 (lo:Int))),(21,.ext (.int .i64 (hi:Int))),(4,.fn 38 [.own 1 0,.own 4 0]),(3,.ext (.int .i64 (b:Int))),(2,.ext (.int .i64 (m:Int))),(1,.ext (.int .i64 (a:Int))),(0,.slo 114 0 N 1)],hp:=[(114,3,cE natV (D)),(1,26,[.ext ul]),(4,66,[.slo 12 0 nr 2]),(12,34,frC R)],M:=M,kb:=200,fx:=[114,1,4,12]}
def so_gbSt(M:Mem)(ul:Value)(nr:Nat)(R:List FR)(N:Nat)(D:List Nat)(a m b h n lo hi p:Nat):St:={env:=[(22,.ext (.int .i64 (p:Int))),(18,.ext (.int .i64 (h:Int))),(19,.ext (.int .i64 (n:Int))),(20,.ext (.int .i64 (lo:Int))),(21,.ext (.int .i64 (hi:Int))),(4,.fn 38 [.own 1 0,.own 4 0]),(3,.ext (.int .i64 (b:Int))),(2,.ext (.int .i64 (m:Int))),(1,.ext (.int .i64 (a:Int))),(0,.slo 114 0 N 1)],hp:=[(114,3,cE natV (D)),(1,26,[.ext ul]),(4,66,[.slo 12 0 nr 2]),(12,34,frC R)],M:=M,kb:=200,fx:=[114,1,4,12]}
def so_gcSt(M:Mem)(ul:Value)(nr:Nat)(R:List FR)(N:Nat)(D:List Nat)(a b h s e:Nat):St:={env:=[(18,.ext (.int .i64 (h:Int))),(24,.ext (.int .i64 (e:Int))),(20,.ext (.int .i64 (s:Int))),(4,.fn 38 [.own 1 0,.own 4 0]),(3,.ext (.int .i64 (b:Int))),(1,.ext (.int .i64 (a:Int))),(0,.slo 114 0 N 1)],hp:=[(114,3,cE natV (D)),(1,26,[.ext ul]),(4,66,[.slo 12 0 nr 2]),(12,34,frC R)],M:=M,kb:=200,fx:=[114,1,4,12]}
def so_gdSt(M:Mem)(ul:Value)(nr:Nat)(R:List FR)(N:Nat)(D:List Nat)(b h e:Nat):St:={env:=[(18,.ext (.int .i64 (h:Int))),(24,.ext (.int .i64 (e:Int))),(4,.fn 38 [.own 1 0,.own 4 0]),(3,.ext (.int .i64 (b:Int))),(0,.slo 114 0 N 1)],hp:=[(114,3,cE natV (D)),(1,26,[.ext ul]),(4,66,[.slo 12 0 nr 2]),(12,34,frC R)],M:=M,kb:=200,fx:=[114,1,4,12]}
theorem mrgG_ok(ho:CmpO c)(NN N nn:Nat)(ih:MrgK M ul nr R c NN N nn)(hc:CmpK M ul nr R c NN)(A X Y B D:List Nat)(a m b:Nat)(hD:D=A++X++Y++B)(ha:a=A.length)(hm:m=A.length+X.length)(hb:b=A.length+X.length+Y.length)(hX:1<X.length)(hY:1<Y.length)(hnn:X.length+Y.length≤nn+1)(hx:X.Pairwise (ltS c))(hy:Y.Pairwise (ltS c))(hxy:∀x∈X,∀y∈Y,x<y)(hNN:∀x∈X++Y,x<NN)(hN:D.length=N)(hN2:N<1000000)
  (hK:∀Z M',Mem.le M M'→Z.Perm (X++Y)→Z.Pairwise (ltS c)→K (.ext (.tuple #[])) [(114,3,cE natV (A++Z++B)),(1,26,[.ext ul]),(4,66,[.slo 12 0 nr 2]),(12,34,frC R)] M') :
  CallS Try.prog 100 [.slo 114 0 N 1,.ext (.int .i64 (a:Int)),.ext (.int .i64 (m:Int)),.ext (.int .i64 (b:Int)),.fn 38 [.own 1 0,.own 4 0]] [(114,3,cE natV (D)),(1,26,[.ext ul]),(4,66,[.slo 12 0 nr 2]),(12,34,frC R)] M [] K:=by
 refine inlS (cs:=[32,41,43]) Try.mixed Try.func100 rfl (by kernel_rfl) 200 rfl rfl ?_
 simp only[Try.f100]
 have hL:=congrArg List.length hD
 simp only[List.length_append]at hL
 have w0:IntKind.i64.wrap ((m:Int)-(a:Int))=(X.length:Int):=by rw[wrap_id (by omega) (by omega)];omega
 have w1:IntKind.i64.wrap ((b:Int)-(m:Int))=(Y.length:Int):=by rw[wrap_id (by omega) (by omega)];omega
 have d0:decide ((X.length:Int)=1)=false:=by rw[decide_eq_false_iff_not];omega
 have d1:decide ((Y.length:Int)=1)=false:=by rw[decide_eq_false_iff_not];omega
 have w2:IntKind.i64.wrap ((a:Int)+(b:Int))=((a+b:Nat):Int):=by rw[wrap_id (by omega) (by omega)];omega
 have w3:IntKind.u64.wrap ((a+b:Nat):Int)=((a+b:Nat):Int):=wrap64_id (by omega)
 have w4:=sh_one (a+b)
 have h1:=Nat.div_add_mod (a+b) 2
 have h2:=Nat.mod_lt (a+b) (show 0<2 by decide)
 obtain ⟨h,hh⟩:∃h,h=(a+b) / 2:=⟨_,rfl⟩
 rw[←hh]at w4 h1
 have w5:IntKind.i64.wrap (h:Int)=(h:Int):=wrap_id (by omega) (by omega)
 have w6:IntKind.u64.wrap (h:Int)=(h:Int):=wrap64_id (by omega)
 obtain ⟨n,hn⟩:∃n,n=h+m:=⟨_,rfl⟩
 have w7:IntKind.i64.wrap ((h:Int)+(m:Int))=(n:Int):=by rw[wrap_id (by omega) (by omega)];omega
 (try with_reducible refine Fz.of ?_);refine Go1.mk ?_;repeat' ((first|(with_reducible refine Go1.go ?_)|(refine And.intro ?_ ?_;(try simp only[sxO]at *);omega)|fail)<;>(try simp (maxSteps:=1000000) only [w0,w1,w2,w3,w4,w5,w6,w7,d0,d1,natV,cE_ment,cE_kill,cE_len,hasK_nil,Nat.mul_one,List.length_set,frC_len,frC_ment,frC_kill,↓hold_pre,awayP,runOps,regK,step1,newK,genR,appR,obl,buildR,Value.cells,closeK,keepH,outV,retK,ret1,retC,RetV,Option.getD,runD,stepD,afterK,undef,simprocAttr,sxB,↓sxD,sxE,sxTab]))
 clear w0 w1 w2 w3 w4 d0 d1
 refine ⟨fun z=>∃lo hi,(lo=a∨lo+b=n)∧(hi=h∨hi=m)∧a≤lo∧n≤lo+b∧hi≤h∧hi≤m∧lo≤hi∧z=so_gaSt M ul nr R N D a m b h n lo hi,?_,?_⟩
 ·by_cases hmm:h<m
  ·have d2:decide ((h:Int)<(m:Int))=true:=by rw[decide_eq_true_eq];omega
   obtain ⟨lo,hlo⟩:∃lo,lo=n-b:=⟨_,rfl⟩
   have w8:IntKind.i64.wrap ((n:Int)-(b:Int))=(lo:Int):=by rw[wrap_id (by omega) (by omega)];omega
   (try with_reducible refine Fz.of ?_);refine Go1.mk ?_;repeat' ((first|(with_reducible refine Go1.go ?_)|(refine And.intro ?_ ?_;(try simp only[sxO]at *);omega)|fail)<;>(try simp (maxSteps:=1000000) only [d2,w8,natV,cE_ment,cE_kill,cE_len,hasK_nil,Nat.mul_one,List.length_set,frC_len,frC_ment,frC_kill,↓hold_pre,awayP,runOps,regK,step1,newK,genR,appR,obl,buildR,Value.cells,closeK,keepH,outV,retK,ret1,retC,RetV,Option.getD,runD,stepD,afterK,undef,simprocAttr,sxB,↓sxD,sxE,sxTab]))
   exact ⟨so_gaSt M ul nr R N D a m b h n lo h,le_sub ⟨rfl,rfl,rfl,rfl,rfl,rfl,rfl,rfl,rfl,trivial⟩ ⟨by first|rfl|simp[lkH],by first|rfl|simp[lkH],by first|rfl|simp[lkH],by first|rfl|simp[lkH],trivial⟩ rfl rfl rfl (by simp[keepLt,so_gaSt,lkH]),lo,h,.inr (by omega),.inl rfl,by omega,by omega,by omega,by omega,by omega,rfl⟩
  ·have d2:decide ((h:Int)<(m:Int))=false:=by rw[decide_eq_false_iff_not];omega
   (try with_reducible refine Fz.of ?_);refine Go1.mk ?_;repeat' ((first|(with_reducible refine Go1.go ?_)|(refine And.intro ?_ ?_;(try simp only[sxO]at *);omega)|fail)<;>(try simp (maxSteps:=1000000) only [d2,natV,cE_ment,cE_kill,cE_len,hasK_nil,Nat.mul_one,List.length_set,frC_len,frC_ment,frC_kill,↓hold_pre,awayP,runOps,regK,step1,newK,genR,appR,obl,buildR,Value.cells,closeK,keepH,outV,retK,ret1,retC,RetV,Option.getD,runD,stepD,afterK,undef,simprocAttr,sxB,↓sxD,sxE,sxTab]))
   exact ⟨so_gaSt M ul nr R N D a m b h n a m,le_sub ⟨rfl,rfl,rfl,rfl,rfl,rfl,rfl,rfl,rfl,trivial⟩ ⟨by first|rfl|simp[lkH],by first|rfl|simp[lkH],by first|rfl|simp[lkH],by first|rfl|simp[lkH],trivial⟩ rfl rfl rfl (by simp[keepLt,so_gaSt,lkH]),a,m,.inl rfl,.inr rfl,by omega,by omega,by omega,by omega,by omega,rfl⟩
 rintro z ⟨lo,hi,hlo,hhi,q1,q2,q3,q4,q5,rfl⟩
 obtain ⟨p,hp⟩:∃p,p+1=n:=⟨n-1,by omega⟩
 have w8:IntKind.i64.wrap ((n:Int)-1)=(p:Int):=by rw[wrap_id (by omega) (by omega)];omega
 (try with_reducible refine Fz.of ?_);refine Go1.mk ?_;repeat' ((first|(with_reducible refine Go1.go ?_)|(refine And.intro ?_ ?_;(try simp only[sxO]at *);omega)|fail)<;>(try simp (maxSteps:=1000000) only [so_gaSt,w8,natV,cE_ment,cE_kill,cE_len,hasK_nil,Nat.mul_one,List.length_set,frC_len,frC_ment,frC_kill,↓hold_pre,awayP,runOps,regK,step1,newK,genR,appR,obl,buildR,Value.cells,closeK,keepH,outV,retK,ret1,retC,RetV,Option.getD,runD,stepD,afterK,undef,simprocAttr,sxB,↓sxD,sxE,sxTab]))
 refine ⟨fun d z=>∃M' i j,d=j-i∧Mem.le M M'∧lo≤i∧i≤j∧j≤hi∧(i=lo∨¬c (nt D (n-i)) (nt D (i-1))<0)∧(j=hi∨c (nt D (p-j)) (nt D j)<0)∧z=so_gbSt M' ul nr R N D a m b h n i j p,
  ⟨hi-lo,so_gbSt M ul nr R N D a m b h n lo hi p,le_sub ⟨rfl,rfl,rfl,rfl,rfl,rfl,rfl,rfl,rfl,rfl,trivial⟩ ⟨by first|rfl|simp[lkH],by first|rfl|simp[lkH],by first|rfl|simp[lkH],by first|rfl|simp[lkH],trivial⟩ rfl rfl rfl (by simp[keepLt,so_gbSt,lkH]),⟨M,lo,hi,rfl,Mem.le.refl _,Nat.le_refl _,q5,Nat.le_refl _,.inl rfl,.inl rfl,rfl⟩⟩,?_⟩
 clear w8
 rintro d z ⟨M1,i,j,rfl,hM1,hmi,hij,hjb,hI,hJ,rfl⟩
 by_cases hlt:i<j
 ·have d1:decide ((i:Int)<(j:Int))=true:=by rw[decide_eq_true_eq];omega
  have w2:IntKind.i64.wrap ((i:Int)+(j:Int))=((i+j:Nat):Int):=by rw[wrap_id (by omega) (by omega)];omega
  have w3:IntKind.u64.wrap ((i+j:Nat):Int)=((i+j:Nat):Int):=wrap64_id (by omega)
  have w4:=sh_one (i+j)
  have h3:=Nat.div_add_mod (i+j) 2
  have h4:=Nat.mod_lt (i+j) (show 0<2 by decide)
  obtain ⟨g,hg⟩:∃g,g=(i+j) / 2:=⟨_,rfl⟩
  rw[←hg]at w4 h3
  obtain ⟨q,hq⟩:∃q,q=p-g:=⟨_,rfl⟩
  have w5:IntKind.i64.wrap (g:Int)=(g:Int):=wrap_id (by omega) (by omega)
  have w6:IntKind.u64.wrap (g:Int)=(g:Int):=wrap64_id (by omega)
  have w7:IntKind.i64.wrap ((g:Int)+1)=((g+1:Nat):Int):=succ_i (by omega)
  have w8:IntKind.i64.wrap ((p:Int)-(g:Int))=(q:Int):=by rw[wrap_id (by omega) (by omega)];omega
  have j1:(0:Int)≤(g:Int):=by omega
  have j2:(g:Int)<(N:Int):=by omega
  have j3:(0:Int)≤(q:Int):=by omega
  have j4:(q:Int)<(N:Int):=by omega
  have n1:=nt_at (D:=D) (i:=g) (by omega)
  have n2:=nt_at (D:=D) (i:=q) (by omega)
  have hyq:nt D q=nt Y (q-m):=nt_mid (A++X) Y B hD (by omega) (by rw[List.length_append];omega)
  have hxg:nt D g=nt X (g-a):=nt_mid A X (Y++B) (by rw[hD];simp) (by omega) (by omega)
  have b1:nt D g<NN:=hNN _ (by rw[hxg];exact List.mem_append_left _ (nt_in (by omega)))
  have b2:nt D q<NN:=hNN _ (by rw[hyq];exact List.mem_append_right _ (nt_in (by omega)))
  (try with_reducible refine Fz.of ?_);refine Go1.mk ?_;repeat' ((first|(with_reducible refine Go1.go ?_)|((with_reducible refine isCall0 (f:=38) ?_);refine callA0 ?_)|((with_reducible refine isCallS (f:=38) ?_);refine (hc (nt D q) (nt D g) _ _ b2 b1 hM1 (fun M2 m2=>Stop.mk ?_)))|((with_reducible refine isDraw [some 40,some 41,some 42,some 43,some 44,some 45,some 46,some 47,some 48,some 49,some 50] (by decide) ?_);refine draw_rule [(0,[]),(1,[]),(2,[]),(3,[]),(4,[]),(5,[4]),(6,[4]),(7,[4]),(8,[4]),(9,[]),(10,[])] [[],[],[],[1,2],[1,2,3],[],[],[5,6],[5,6,7],[0,1,2,3,4,5,6,7,8],[0,1,2,3,4,5,6,7,8,9]] [40,41,42,43,44,45,46,47,48] [] (by kernel_rfl) (by kernel_rfl) (by kernel_rfl) (by kernel_rfl) (by exact trivial) ?_)|((with_reducible refine isDraw [some 61,some 62,some 63,some 64,some 65,some 66,some 67,some 68,some 69,some 70,some 71,some 72,some 73,some 74,some 75,none,some 76,none] (by decide) ?_);refine draw_rule [(0,[]),(1,[]),(2,[]),(3,[]),(4,[]),(5,[]),(6,[]),(7,[]),(8,[]),(9,[]),(10,[9]),(11,[9]),(12,[9]),(13,[9]),(14,[]),(15,[]),(16,[]),(17,[])] [[],[],[],[],[3],[],[],[6],[5,6,7],[5,6,7,8],[],[],[10,11],[10,11,12],[0,1,5,6,7,8,9,10,11,12,13],[0,1,5,6,7,8,9,10,11,12,13,14],[0,1,2,3,4,5,6,7,8,9,10,11,12,13,14,15],[0,1,2,3,4,5,6,7,8,9,10,11,12,13,14,15,16]] [61,62,63,64,65,66,67,68,69,70,71,72,73,74,75] [] (by kernel_rfl) (by kernel_rfl) (by kernel_rfl) (by kernel_rfl) (by exact trivial) ?_)|((with_reducible refine isDraw [some 92,some 93,some 94,some 95,some 96,some 97,some 98,some 99,some 100,some 101,some 102,some 103] (by decide) ?_);refine draw_rule [(0,[]),(1,[]),(2,[]),(3,[]),(4,[]),(5,[4]),(6,[4]),(7,[4]),(8,[4]),(9,[]),(10,[]),(11,[])] [[],[],[],[1,2],[1,2,3],[],[],[5,6],[5,6,7],[0,1,2,3,4,5,6,7,8],[0,1,2,3,4,5,6,7,8,9],[0,1,2,3,4,5,6,7,8,9,10]] [92,93,94,95,96,97,98,99,100] [] (by kernel_rfl) (by kernel_rfl) (by kernel_rfl) (by kernel_rfl) (by exact trivial) ?_)|((with_reducible refine isDraw [some 113,some 114,some 115,some 116,some 117,some 118,some 119,some 120,some 121,some 122,some 123,some 124,some 125,some 126,some 127,none,some 128,none] (by decide) ?_);refine draw_rule [(0,[]),(1,[]),(2,[]),(3,[]),(4,[]),(5,[]),(6,[]),(7,[]),(8,[]),(9,[]),(10,[9]),(11,[9]),(12,[9]),(13,[9]),(14,[]),(15,[]),(16,[]),(17,[])] [[],[],[],[],[3],[],[],[6],[5,6,7],[5,6,7,8],[],[],[10,11],[10,11,12],[0,1,5,6,7,8,9,10,11,12,13],[0,1,5,6,7,8,9,10,11,12,13,14],[0,1,2,3,4,5,6,7,8,9,10,11,12,13,14,15],[0,1,2,3,4,5,6,7,8,9,10,11,12,13,14,15,16]] [113,114,115,116,117,118,119,120,121,122,123,124,125,126,127] [] (by kernel_rfl) (by kernel_rfl) (by kernel_rfl) (by kernel_rfl) (by exact trivial) ?_)|((with_reducible refine isDraw [some 158,some 159,some 160,some 161,some 162,some 163,some 164,some 165,some 166,some 167,some 168,some 169,some 170,some 171] (by decide) ?_);refine draw_rule [(0,[]),(1,[]),(2,[]),(3,[]),(4,[]),(5,[]),(6,[]),(7,[6]),(8,[6]),(9,[6]),(10,[6]),(11,[]),(12,[]),(13,[])] [[],[],[],[],[2,3],[1,2,3,4],[1,2,3,4,5],[],[],[7,8],[7,8,9],[0,1,2,3,4,5,6,7,8,9,10],[0,1,2,3,4,5,6,7,8,9,10,11],[0,1,2,3,4,5,6,7,8,9,10,11,12]] [158,159,160,161,162,163,164,165,166,167,168] [] (by kernel_rfl) (by kernel_rfl) (by kernel_rfl) (by kernel_rfl) (by exact trivial) ?_)|(refine And.intro ?_ ?_;(try simp only[sxO]at *);omega)|fail)<;>(try simp (maxSteps:=1000000) only [so_gbSt,d1,w2,w3,w4,w5,w6,w7,w8,n1,n2,j1,j2,j3,j4,natV,cE_ment,cE_kill,cE_len,hasK_nil,Nat.mul_one,List.length_set,frC_len,frC_ment,frC_kill,↓hold_pre,awayP,runOps,regK,step1,newK,genR,appR,obl,buildR,Value.cells,closeK,keepH,outV,retK,ret1,retC,RetV,Option.getD,runD,stepD,afterK,undef,simprocAttr,sxB,↓sxD,sxE,sxTab]))
  have m2:Mem.le M1 M2:=m2
  have hM2:=hM1.trans m2
  by_cases hcc:c (nt D q) (nt D g)<0
  ·have d3:decide (c (nt D q) (nt D g)<0)=true:=decide_eq_true hcc
   refine Stop.go ?_
   (try with_reducible refine Fz.of ?_);refine Go1.mk ?_;repeat' ((first|(with_reducible refine Go1.go ?_)|((with_reducible refine isDraw [some 40,some 41,some 42,some 43,some 44,some 45,some 46,some 47,some 48,some 49,some 50] (by decide) ?_);refine draw_rule [(0,[]),(1,[]),(2,[]),(3,[]),(4,[]),(5,[4]),(6,[4]),(7,[4]),(8,[4]),(9,[]),(10,[])] [[],[],[],[1,2],[1,2,3],[],[],[5,6],[5,6,7],[0,1,2,3,4,5,6,7,8],[0,1,2,3,4,5,6,7,8,9]] [40,41,42,43,44,45,46,47,48] [] (by kernel_rfl) (by kernel_rfl) (by kernel_rfl) (by kernel_rfl) (by exact trivial) ?_)|((with_reducible refine isDraw [some 61,some 62,some 63,some 64,some 65,some 66,some 67,some 68,some 69,some 70,some 71,some 72,some 73,some 74,some 75,none,some 76,none] (by decide) ?_);refine draw_rule [(0,[]),(1,[]),(2,[]),(3,[]),(4,[]),(5,[]),(6,[]),(7,[]),(8,[]),(9,[]),(10,[9]),(11,[9]),(12,[9]),(13,[9]),(14,[]),(15,[]),(16,[]),(17,[])] [[],[],[],[],[3],[],[],[6],[5,6,7],[5,6,7,8],[],[],[10,11],[10,11,12],[0,1,5,6,7,8,9,10,11,12,13],[0,1,5,6,7,8,9,10,11,12,13,14],[0,1,2,3,4,5,6,7,8,9,10,11,12,13,14,15],[0,1,2,3,4,5,6,7,8,9,10,11,12,13,14,15,16]] [61,62,63,64,65,66,67,68,69,70,71,72,73,74,75] [] (by kernel_rfl) (by kernel_rfl) (by kernel_rfl) (by kernel_rfl) (by exact trivial) ?_)|((with_reducible refine isDraw [some 92,some 93,some 94,some 95,some 96,some 97,some 98,some 99,some 100,some 101,some 102,some 103] (by decide) ?_);refine draw_rule [(0,[]),(1,[]),(2,[]),(3,[]),(4,[]),(5,[4]),(6,[4]),(7,[4]),(8,[4]),(9,[]),(10,[]),(11,[])] [[],[],[],[1,2],[1,2,3],[],[],[5,6],[5,6,7],[0,1,2,3,4,5,6,7,8],[0,1,2,3,4,5,6,7,8,9],[0,1,2,3,4,5,6,7,8,9,10]] [92,93,94,95,96,97,98,99,100] [] (by kernel_rfl) (by kernel_rfl) (by kernel_rfl) (by kernel_rfl) (by exact trivial) ?_)|((with_reducible refine isDraw [some 113,some 114,some 115,some 116,some 117,some 118,some 119,some 120,some 121,some 122,some 123,some 124,some 125,some 126,some 127,none,some 128,none] (by decide) ?_);refine draw_rule [(0,[]),(1,[]),(2,[]),(3,[]),(4,[]),(5,[]),(6,[]),(7,[]),(8,[]),(9,[]),(10,[9]),(11,[9]),(12,[9]),(13,[9]),(14,[]),(15,[]),(16,[]),(17,[])] [[],[],[],[],[3],[],[],[6],[5,6,7],[5,6,7,8],[],[],[10,11],[10,11,12],[0,1,5,6,7,8,9,10,11,12,13],[0,1,5,6,7,8,9,10,11,12,13,14],[0,1,2,3,4,5,6,7,8,9,10,11,12,13,14,15],[0,1,2,3,4,5,6,7,8,9,10,11,12,13,14,15,16]] [113,114,115,116,117,118,119,120,121,122,123,124,125,126,127] [] (by kernel_rfl) (by kernel_rfl) (by kernel_rfl) (by kernel_rfl) (by exact trivial) ?_)|((with_reducible refine isDraw [some 158,some 159,some 160,some 161,some 162,some 163,some 164,some 165,some 166,some 167,some 168,some 169,some 170,some 171] (by decide) ?_);refine draw_rule [(0,[]),(1,[]),(2,[]),(3,[]),(4,[]),(5,[]),(6,[]),(7,[6]),(8,[6]),(9,[6]),(10,[6]),(11,[]),(12,[]),(13,[])] [[],[],[],[],[2,3],[1,2,3,4],[1,2,3,4,5],[],[],[7,8],[7,8,9],[0,1,2,3,4,5,6,7,8,9,10],[0,1,2,3,4,5,6,7,8,9,10,11],[0,1,2,3,4,5,6,7,8,9,10,11,12]] [158,159,160,161,162,163,164,165,166,167,168] [] (by kernel_rfl) (by kernel_rfl) (by kernel_rfl) (by kernel_rfl) (by exact trivial) ?_)|(refine And.intro ?_ ?_;(try simp only[sxO]at *);omega)|fail)<;>(try simp (maxSteps:=1000000) only [d3,w7,natV,cE_ment,cE_kill,cE_len,hasK_nil,Nat.mul_one,List.length_set,frC_len,frC_ment,frC_kill,↓hold_pre,awayP,runOps,regK,step1,newK,genR,appR,obl,buildR,Value.cells,closeK,keepH,outV,retK,ret1,retC,RetV,Option.getD,runD,stepD,afterK,undef,simprocAttr,sxB,↓sxD,sxE,sxTab]))
   exact ⟨g-i,so_gbSt M2 ul nr R N D a m b h n i g p,by omega,le_sub ⟨rfl,rfl,rfl,rfl,rfl,rfl,rfl,rfl,rfl,rfl,trivial⟩ ⟨by first|rfl|simp[lkH],by first|rfl|simp[lkH],by first|rfl|simp[lkH],by first|rfl|simp[lkH],trivial⟩ rfl rfl rfl (by simp[keepLt,so_gbSt,lkH]),M2,i,g,rfl,hM2,hmi,by omega,by omega,hI,.inr (by rw[←hq];exact hcc),rfl⟩
  ·have d3:decide (c (nt D q) (nt D g)<0)=false:=decide_eq_false hcc
   refine Stop.go ?_
   (try with_reducible refine Fz.of ?_);refine Go1.mk ?_;repeat' ((first|(with_reducible refine Go1.go ?_)|((with_reducible refine isDraw [some 40,some 41,some 42,some 43,some 44,some 45,some 46,some 47,some 48,some 49,some 50] (by decide) ?_);refine draw_rule [(0,[]),(1,[]),(2,[]),(3,[]),(4,[]),(5,[4]),(6,[4]),(7,[4]),(8,[4]),(9,[]),(10,[])] [[],[],[],[1,2],[1,2,3],[],[],[5,6],[5,6,7],[0,1,2,3,4,5,6,7,8],[0,1,2,3,4,5,6,7,8,9]] [40,41,42,43,44,45,46,47,48] [] (by kernel_rfl) (by kernel_rfl) (by kernel_rfl) (by kernel_rfl) (by exact trivial) ?_)|((with_reducible refine isDraw [some 61,some 62,some 63,some 64,some 65,some 66,some 67,some 68,some 69,some 70,some 71,some 72,some 73,some 74,some 75,none,some 76,none] (by decide) ?_);refine draw_rule [(0,[]),(1,[]),(2,[]),(3,[]),(4,[]),(5,[]),(6,[]),(7,[]),(8,[]),(9,[]),(10,[9]),(11,[9]),(12,[9]),(13,[9]),(14,[]),(15,[]),(16,[]),(17,[])] [[],[],[],[],[3],[],[],[6],[5,6,7],[5,6,7,8],[],[],[10,11],[10,11,12],[0,1,5,6,7,8,9,10,11,12,13],[0,1,5,6,7,8,9,10,11,12,13,14],[0,1,2,3,4,5,6,7,8,9,10,11,12,13,14,15],[0,1,2,3,4,5,6,7,8,9,10,11,12,13,14,15,16]] [61,62,63,64,65,66,67,68,69,70,71,72,73,74,75] [] (by kernel_rfl) (by kernel_rfl) (by kernel_rfl) (by kernel_rfl) (by exact trivial) ?_)|((with_reducible refine isDraw [some 92,some 93,some 94,some 95,some 96,some 97,some 98,some 99,some 100,some 101,some 102,some 103] (by decide) ?_);refine draw_rule [(0,[]),(1,[]),(2,[]),(3,[]),(4,[]),(5,[4]),(6,[4]),(7,[4]),(8,[4]),(9,[]),(10,[]),(11,[])] [[],[],[],[1,2],[1,2,3],[],[],[5,6],[5,6,7],[0,1,2,3,4,5,6,7,8],[0,1,2,3,4,5,6,7,8,9],[0,1,2,3,4,5,6,7,8,9,10]] [92,93,94,95,96,97,98,99,100] [] (by kernel_rfl) (by kernel_rfl) (by kernel_rfl) (by kernel_rfl) (by exact trivial) ?_)|((with_reducible refine isDraw [some 113,some 114,some 115,some 116,some 117,some 118,some 119,some 120,some 121,some 122,some 123,some 124,some 125,some 126,some 127,none,some 128,none] (by decide) ?_);refine draw_rule [(0,[]),(1,[]),(2,[]),(3,[]),(4,[]),(5,[]),(6,[]),(7,[]),(8,[]),(9,[]),(10,[9]),(11,[9]),(12,[9]),(13,[9]),(14,[]),(15,[]),(16,[]),(17,[])] [[],[],[],[],[3],[],[],[6],[5,6,7],[5,6,7,8],[],[],[10,11],[10,11,12],[0,1,5,6,7,8,9,10,11,12,13],[0,1,5,6,7,8,9,10,11,12,13,14],[0,1,2,3,4,5,6,7,8,9,10,11,12,13,14,15],[0,1,2,3,4,5,6,7,8,9,10,11,12,13,14,15,16]] [113,114,115,116,117,118,119,120,121,122,123,124,125,126,127] [] (by kernel_rfl) (by kernel_rfl) (by kernel_rfl) (by kernel_rfl) (by exact trivial) ?_)|((with_reducible refine isDraw [some 158,some 159,some 160,some 161,some 162,some 163,some 164,some 165,some 166,some 167,some 168,some 169,some 170,some 171] (by decide) ?_);refine draw_rule [(0,[]),(1,[]),(2,[]),(3,[]),(4,[]),(5,[]),(6,[]),(7,[6]),(8,[6]),(9,[6]),(10,[6]),(11,[]),(12,[]),(13,[])] [[],[],[],[],[2,3],[1,2,3,4],[1,2,3,4,5],[],[],[7,8],[7,8,9],[0,1,2,3,4,5,6,7,8,9,10],[0,1,2,3,4,5,6,7,8,9,10,11],[0,1,2,3,4,5,6,7,8,9,10,11,12]] [158,159,160,161,162,163,164,165,166,167,168] [] (by kernel_rfl) (by kernel_rfl) (by kernel_rfl) (by kernel_rfl) (by exact trivial) ?_)|(refine And.intro ?_ ?_;(try simp only[sxO]at *);omega)|fail)<;>(try simp (maxSteps:=1000000) only [d3,w7,natV,cE_ment,cE_kill,cE_len,hasK_nil,Nat.mul_one,List.length_set,frC_len,frC_ment,frC_kill,↓hold_pre,awayP,runOps,regK,step1,newK,genR,appR,obl,buildR,Value.cells,closeK,keepH,outV,retK,ret1,retC,RetV,Option.getD,runD,stepD,afterK,undef,simprocAttr,sxB,↓sxD,sxE,sxTab]))
   exact ⟨j-(g+1),so_gbSt M2 ul nr R N D a m b h n (g+1) j p,by omega,le_sub ⟨rfl,rfl,rfl,rfl,rfl,rfl,rfl,rfl,rfl,rfl,trivial⟩ ⟨by first|rfl|simp[lkH],by first|rfl|simp[lkH],by first|rfl|simp[lkH],by first|rfl|simp[lkH],trivial⟩ rfl rfl rfl (by simp[keepLt,so_gbSt,lkH]),M2,g+1,j,rfl,hM2,by omega,by omega,hjb,.inr (by rw[show n-(g+1)=q by omega];exact hcc),hJ,rfl⟩
 obtain rfl:i=j:=by omega
 have d1:decide ((i:Int)<(i:Int))=false:=by simp
 obtain ⟨X1,X2,hXX,hX1⟩:∃X1 X2,X=X1++X2∧X1.length=i-a:=⟨X.take (i-a),X.drop (i-a),(List.take_append_drop _ _).symm,by rw[List.length_take];omega⟩
 obtain ⟨Y1,Y2,hYY,hY1⟩:∃Y1 Y2,Y=Y1++Y2∧Y1.length=h-i:=⟨Y.take (h-i),Y.drop (h-i),(List.take_append_drop _ _).symm,by rw[List.length_take];omega⟩
 have hXl:X.length=X1.length+X2.length:=by rw[hXX,List.length_append]
 have hYl:Y.length=Y1.length+Y2.length:=by rw[hYY,List.length_append]
 have hxx:=hx
 rw[hXX]at hxx
 obtain ⟨x1,x2,x3⟩:=pw_app.1 hxx
 have hyy:=hy
 rw[hYY]at hyy
 obtain ⟨y1,y2,y3⟩:=pw_app.1 hyy
 have inX:∀z,z∈X1∨z∈X2→z∈X:=fun z hz=>by rw[hXX];exact List.mem_append.2 hz
 have inY:∀z,z∈Y1∨z∈Y2→z∈Y:=fun z hz=>by rw[hYY];exact List.mem_append.2 hz
 have g1:ahead c X1 Y2:=ahead_nt ho x1 y2 fun p1 p2=>by
  rcases hI with hI|hI
  ·omega
  rw[nt_mid A X1 (X2++Y++B) (i:=X1.length-1) (j:=i-1) (by rw[hD,hXX];simp) (by omega) (by omega),nt_mid (A++X++Y1) Y2 B (i:=0) (j:=n-i) (by rw[hD,hYY];simp) p2 (by simp only[List.length_append];omega)]at hI
  exact ltS_not ho (hxy _ (inX _ (.inl (nt_in (by omega)))) _ (inY _ (.inr (nt_in p2)))) hI
 have g2:ahead c Y1 X2:=ahead_nt ho y1 x2 fun p1 p2=>by
  rcases hJ with hJ|hJ
  ·omega
  rw[nt_mid (A++X) Y1 (Y2++B) (i:=Y1.length-1) (j:=p-i) (by rw[hD,hYY];simp) (by omega) (by simp only[List.length_append];omega),nt_mid (A++X1) X2 (Y++B) (i:=0) (j:=i) (by rw[hD,hXX];simp) p2 (by simp only[List.length_append];omega)]at hJ
  exact .inl hJ
 obtain ⟨e,he⟩:∃e,e=n-i:=⟨_,rfl⟩
 have w9:IntKind.i64.wrap ((n:Int)-(i:Int))=(e:Int):=by rw[wrap_id (by omega) (by omega)];omega
 clear hI hJ hlo hhi
 (try with_reducible refine Fz.of ?_);refine Go1.mk ?_;repeat' ((first|(with_reducible refine Go1.go ?_)|(refine And.intro ?_ ?_;(try simp only[sxO]at *);omega)|fail)<;>(try simp (maxSteps:=1000000) only [so_gbSt,d1,w9,natV,cE_ment,cE_kill,cE_len,hasK_nil,Nat.mul_one,List.length_set,frC_len,frC_ment,frC_kill,↓hold_pre,awayP,runOps,regK,step1,newK,genR,appR,obl,buildR,Value.cells,closeK,keepH,outV,retK,ret1,retC,RetV,Option.getD,runD,stepD,afterK,undef,simprocAttr,sxB,↓sxD,sxE,sxTab]))
 refine ⟨fun z=>z=so_gcSt M1 ul nr R N (A++X1++Y1++X2++Y2++B) a b h i e,?_,?_⟩
 ·by_cases c1:i<m
  ·have d2:decide ((i:Int)<(m:Int))=true:=by rw[decide_eq_true_eq];omega
   by_cases c2:m<e
   ·have d3:decide ((m:Int)<(e:Int))=true:=by rw[decide_eq_true_eq];omega
    (try with_reducible refine Fz.of ?_);refine Go1.mk ?_;repeat' ((first|(with_reducible refine Go1.go ?_)|((with_reducible refine isCall (f:=107) ?_);refine callA ?_)|((with_reducible refine isCall0 (f:=107) ?_);refine callA0 ?_)|((with_reducible refine isCallS (f:=107) ?_);refine (rot_ok ul nr R (A++X1) X2 Y1 (Y2++B) D (A++X1++Y1++X2++Y2++B) _ _ _ N (by rw[hD,hXX,hYY];simp) (by simp) (by rw[List.length_append];omega) (by rw[List.length_append];omega) (by rw[List.length_append];omega) (by omega) (by omega) hN hN2 ?_))|(refine And.intro ?_ ?_;(try simp only[sxO]at *);omega)|fail)<;>(try simp (maxSteps:=1000000) only [d2,d3,natV,cE_ment,cE_kill,cE_len,hasK_nil,Nat.mul_one,List.length_set,frC_len,frC_ment,frC_kill,↓hold_pre,awayP,runOps,regK,step1,newK,genR,appR,obl,buildR,Value.cells,closeK,keepH,outV,retK,ret1,retC,RetV,Option.getD,runD,stepD,afterK,undef,simprocAttr,sxB,↓sxD,sxE,sxTab]))
    exact ⟨so_gcSt M1 ul nr R N (A++X1++Y1++X2++Y2++B) a b h i e,le_sub ⟨rfl,rfl,rfl,rfl,rfl,rfl,rfl,trivial⟩ ⟨by first|rfl|simp[lkH],by first|rfl|simp[lkH],by first|rfl|simp[lkH],by first|rfl|simp[lkH],trivial⟩ rfl rfl rfl (by simp[keepLt,so_gcSt,lkH]),rfl⟩
   ·have d3:decide ((m:Int)<(e:Int))=false:=by rw[decide_eq_false_iff_not];omega
    have hY0:Y1=[]:=List.length_eq_zero_iff.1 (by omega)
    have hDD:D=A++X1++Y1++X2++Y2++B:=by rw[hD,hXX,hYY,hY0];simp
    (try with_reducible refine Fz.of ?_);refine Go1.mk ?_;repeat' ((first|(with_reducible refine Go1.go ?_)|(refine And.intro ?_ ?_;(try simp only[sxO]at *);omega)|fail)<;>(try simp (maxSteps:=1000000) only [d2,d3,natV,cE_ment,cE_kill,cE_len,hasK_nil,Nat.mul_one,List.length_set,frC_len,frC_ment,frC_kill,↓hold_pre,awayP,runOps,regK,step1,newK,genR,appR,obl,buildR,Value.cells,closeK,keepH,outV,retK,ret1,retC,RetV,Option.getD,runD,stepD,afterK,undef,simprocAttr,sxB,↓sxD,sxE,sxTab]))
    rw[←hDD]
    exact ⟨so_gcSt M1 ul nr R N D a b h i e,le_sub ⟨rfl,rfl,rfl,rfl,rfl,rfl,rfl,trivial⟩ ⟨by first|rfl|simp[lkH],by first|rfl|simp[lkH],by first|rfl|simp[lkH],by first|rfl|simp[lkH],trivial⟩ rfl rfl rfl (by simp[keepLt,so_gcSt,lkH]),rfl⟩
  ·have d2:decide ((i:Int)<(m:Int))=false:=by rw[decide_eq_false_iff_not];omega
   have hX0:X2=[]:=List.length_eq_zero_iff.1 (by omega)
   have hDD:D=A++X1++Y1++X2++Y2++B:=by rw[hD,hXX,hYY,hX0];simp
   (try with_reducible refine Fz.of ?_);refine Go1.mk ?_;repeat' ((first|(with_reducible refine Go1.go ?_)|(refine And.intro ?_ ?_;(try simp only[sxO]at *);omega)|fail)<;>(try simp (maxSteps:=1000000) only [d2,natV,cE_ment,cE_kill,cE_len,hasK_nil,Nat.mul_one,List.length_set,frC_len,frC_ment,frC_kill,↓hold_pre,awayP,runOps,regK,step1,newK,genR,appR,obl,buildR,Value.cells,closeK,keepH,outV,retK,ret1,retC,RetV,Option.getD,runD,stepD,afterK,undef,simprocAttr,sxB,↓sxD,sxE,sxTab]))
   rw[←hDD]
   exact ⟨so_gcSt M1 ul nr R N D a b h i e,le_sub ⟨rfl,rfl,rfl,rfl,rfl,rfl,rfl,trivial⟩ ⟨by first|rfl|simp[lkH],by first|rfl|simp[lkH],by first|rfl|simp[lkH],by first|rfl|simp[lkH],trivial⟩ rfl rfl rfl (by simp[keepLt,so_gcSt,lkH]),rfl⟩
 rintro z rfl
 have hDl:(A++X1++Y1++X2++Y2++B).length=N:=by simp only[List.length_append];omega
 (try with_reducible refine Fz.of ?_);refine Go1.mk ?_;repeat' ((first|(with_reducible refine Go1.go ?_)|(refine And.intro ?_ ?_;(try simp only[sxO]at *);omega)|fail)<;>(try simp (maxSteps:=1000000) only [so_gcSt,natV,cE_ment,cE_kill,cE_len,hasK_nil,Nat.mul_one,List.length_set,frC_len,frC_ment,frC_kill,↓hold_pre,awayP,runOps,regK,step1,newK,genR,appR,obl,buildR,Value.cells,closeK,keepH,outV,retK,ret1,retC,RetV,Option.getD,runD,stepD,afterK,undef,simprocAttr,sxB,↓sxD,sxE,sxTab]))
 refine ⟨fun z=>∃M2 Z1,Mem.le M M2∧Z1.Perm (X1++Y1)∧Z1.Pairwise (ltS c)∧z=so_gdSt M2 ul nr R N (A++Z1++X2++Y2++B) b h e,?_,?_⟩
 ·by_cases c1:a<i
  ·have d2:decide ((a:Int)<(i:Int))=true:=by rw[decide_eq_true_eq];omega
   by_cases c2:i<h
   ·have d3:decide ((i:Int)<(h:Int))=true:=by rw[decide_eq_true_eq];omega
    (try with_reducible refine Fz.of ?_);refine Go1.mk ?_;repeat' ((first|(with_reducible refine Go1.go ?_)|((with_reducible refine isCall (f:=100) ?_);refine callA ?_)|((with_reducible refine isCall0 (f:=100) ?_);refine callA0 ?_)|((with_reducible refine isCallS (f:=100) ?_);refine (ih A X1 Y1 (X2++Y2++B) (A++X1++Y1++X2++Y2++B) _ _ _ _ _ hM1 (by omega) (by simp) ha (by omega) (by omega) (by omega) (by omega) x1 y1 (fun x hx y hy=>hxy x (inX x (.inl hx)) y (inY y (.inl hy))) (fun x hx=>hNN x (by rcases List.mem_append.1 hx with hx|hx;exact List.mem_append_left _ (inX x (.inl hx));exact List.mem_append_right _ (inY x (.inl hx)))) hDl (fun Z M2 z1 z2 z3=>Stop.mk ?_)))|(refine And.intro ?_ ?_;(try simp only[sxO]at *);omega)|fail)<;>(try simp (maxSteps:=1000000) only [d2,d3,natV,cE_ment,cE_kill,cE_len,hasK_nil,Nat.mul_one,List.length_set,frC_len,frC_ment,frC_kill,↓hold_pre,awayP,runOps,regK,step1,newK,genR,appR,obl,buildR,Value.cells,closeK,keepH,outV,retK,ret1,retC,RetV,Option.getD,runD,stepD,afterK,undef,simprocAttr,sxB,↓sxD,sxE,sxTab]))
    refine Stop.go ?_
    (try with_reducible refine Fz.of ?_);refine Go1.mk ?_;repeat' ((first|(with_reducible refine Go1.go ?_)|(refine And.intro ?_ ?_;(try simp only[sxO]at *);omega)|fail)<;>(try simp (maxSteps:=1000000) only [natV,cE_ment,cE_kill,cE_len,hasK_nil,Nat.mul_one,List.length_set,frC_len,frC_ment,frC_kill,↓hold_pre,awayP,runOps,regK,step1,newK,genR,appR,obl,buildR,Value.cells,closeK,keepH,outV,retK,ret1,retC,RetV,Option.getD,runD,stepD,afterK,undef,simprocAttr,sxB,↓sxD,sxE,sxTab]))
    exact ⟨so_gdSt M2 ul nr R N (A++Z++X2++Y2++B) b h e,le_sub ⟨rfl,rfl,rfl,rfl,rfl,trivial⟩ ⟨by simp[lkH,so_gdSt],by simp[lkH,so_gdSt],by simp[lkH,so_gdSt],by simp[lkH,so_gdSt],trivial⟩ rfl rfl rfl (by simp[keepLt,so_gdSt,lkH]),M2,Z,hM1.trans z1,z2,z3,rfl⟩
   ·have d3:decide ((i:Int)<(h:Int))=false:=by rw[decide_eq_false_iff_not];omega
    have hY0:Y1=[]:=List.length_eq_zero_iff.1 (by omega)
    (try with_reducible refine Fz.of ?_);refine Go1.mk ?_;repeat' ((first|(with_reducible refine Go1.go ?_)|(refine And.intro ?_ ?_;(try simp only[sxO]at *);omega)|fail)<;>(try simp (maxSteps:=1000000) only [d2,d3,natV,cE_ment,cE_kill,cE_len,hasK_nil,Nat.mul_one,List.length_set,frC_len,frC_ment,frC_kill,↓hold_pre,awayP,runOps,regK,step1,newK,genR,appR,obl,buildR,Value.cells,closeK,keepH,outV,retK,ret1,retC,RetV,Option.getD,runD,stepD,afterK,undef,simprocAttr,sxB,↓sxD,sxE,sxTab]))
    exact ⟨so_gdSt M1 ul nr R N (A++(X1++Y1)++X2++Y2++B) b h e,le_sub ⟨rfl,rfl,rfl,rfl,rfl,trivial⟩ ⟨by simp[lkH,so_gdSt],by simp[lkH,so_gdSt],by simp[lkH,so_gdSt],by simp[lkH,so_gdSt],trivial⟩ rfl rfl rfl (by simp[keepLt,so_gdSt,lkH]),M1,X1++Y1,hM1,List.Perm.refl _,by rw[hY0,List.append_nil];exact x1,rfl⟩
  ·have d2:decide ((a:Int)<(i:Int))=false:=by rw[decide_eq_false_iff_not];omega
   have hX0:X1=[]:=List.length_eq_zero_iff.1 (by omega)
   (try with_reducible refine Fz.of ?_);refine Go1.mk ?_;repeat' ((first|(with_reducible refine Go1.go ?_)|(refine And.intro ?_ ?_;(try simp only[sxO]at *);omega)|fail)<;>(try simp (maxSteps:=1000000) only [d2,natV,cE_ment,cE_kill,cE_len,hasK_nil,Nat.mul_one,List.length_set,frC_len,frC_ment,frC_kill,↓hold_pre,awayP,runOps,regK,step1,newK,genR,appR,obl,buildR,Value.cells,closeK,keepH,outV,retK,ret1,retC,RetV,Option.getD,runD,stepD,afterK,undef,simprocAttr,sxB,↓sxD,sxE,sxTab]))
   exact ⟨so_gdSt M1 ul nr R N (A++(X1++Y1)++X2++Y2++B) b h e,le_sub ⟨rfl,rfl,rfl,rfl,rfl,trivial⟩ ⟨by simp[lkH,so_gdSt],by simp[lkH,so_gdSt],by simp[lkH,so_gdSt],by simp[lkH,so_gdSt],trivial⟩ rfl rfl rfl (by simp[keepLt,so_gdSt,lkH]),M1,X1++Y1,hM1,List.Perm.refl _,by rw[hX0,List.nil_append];exact y1,rfl⟩
 rintro z ⟨M2,Z1,hM2,zp,zs,rfl⟩
 have hZl:=zp.length_eq
 rw[List.length_append]at hZl
 have fin:∀Z2 M3,Mem.le M M3→Z2.Perm (X2++Y2)→Z2.Pairwise (ltS c)→K (.ext (.tuple #[])) [(114,3,cE natV (A++(Z1++Z2)++B)),(1,26,[.ext ul]),(4,66,[.slo 12 0 nr 2]),(12,34,frC R)] M3:=fun Z2 M3 m3 p2 s2=>hK (Z1++Z2) M3 m3 (by
   rw[hXX,hYY]
   refine (zp.append p2).trans ?_
   rw[List.append_assoc,List.append_assoc]
   refine List.Perm.append_left _ ?_
   rw[←List.append_assoc,←List.append_assoc]
   exact List.Perm.append_right _ List.perm_append_comm) (pw_app.2 ⟨zs,s2,fun u hu v hv=>by
   rcases List.mem_append.1 (zp.subset hu) with hu|hu
   ·rcases List.mem_append.1 (p2.subset hv) with hv|hv
    ·exact x3 u hu v hv
    ·exact g1 u hu v hv
   ·rcases List.mem_append.1 (p2.subset hv) with hv|hv
    ·exact g2 u hu v hv
    ·exact y3 u hu v hv⟩)
 by_cases c1:h<e
 ·have d2:decide ((h:Int)<(e:Int))=true:=by rw[decide_eq_true_eq];omega
  by_cases c2:e<b
  ·have d3:decide ((e:Int)<(b:Int))=true:=by rw[decide_eq_true_eq];omega
   (try with_reducible refine Fz.of ?_);refine Go1.mk ?_;repeat' ((first|(with_reducible refine Go1.go ?_)|((with_reducible refine isCall (f:=100) ?_);refine callA ?_)|((with_reducible refine isCall0 (f:=100) ?_);refine callA0 ?_)|((with_reducible refine isCallS (f:=100) ?_);refine (ih (A++Z1) X2 Y2 B (A++Z1++X2++Y2++B) _ _ _ _ _ hM2 (by omega) (by simp) (by rw[List.length_append];omega) (by rw[List.length_append];omega) (by rw[List.length_append];omega) (by omega) (by omega) x2 y2 (fun x hx y hy=>hxy x (inX x (.inr hx)) y (inY y (.inr hy))) (fun x hx=>hNN x (by rcases List.mem_append.1 hx with hx|hx;exact List.mem_append_left _ (inX x (.inr hx));exact List.mem_append_right _ (inY x (.inr hx)))) (by simp only[List.length_append];omega) (fun Z M3 z1 z2 z3=>Stop.mk ?_)))|(refine And.intro ?_ ?_;(try simp only[sxO]at *);omega)|fail)<;>(try simp (maxSteps:=1000000) only [so_gdSt,d2,d3,natV,cE_ment,cE_kill,cE_len,hasK_nil,Nat.mul_one,List.length_set,frC_len,frC_ment,frC_kill,↓hold_pre,awayP,runOps,regK,step1,newK,genR,appR,obl,buildR,Value.cells,closeK,keepH,outV,retK,ret1,retC,RetV,Option.getD,runD,stepD,afterK,undef,simprocAttr,sxB,↓sxD,sxE,sxTab]))
   have hf:=fin Z M3 (hM2.trans z1) z2 z3
   refine Stop.go ?_
   (try with_reducible refine Fz.of ?_);refine Go1.mk ?_;repeat' ((first|(with_reducible refine Go1.go ?_)|(refine And.intro ?_ ?_;(try simp only[sxO]at *);omega)|fail)<;>(try simp (maxSteps:=1000000) only [natV,cE_ment,cE_kill,cE_len,hasK_nil,Nat.mul_one,List.length_set,frC_len,frC_ment,frC_kill,↓hold_pre,awayP,runOps,regK,step1,newK,genR,appR,obl,buildR,Value.cells,closeK,keepH,outV,retK,ret1,retC,RetV,Option.getD,runD,stepD,afterK,undef,simprocAttr,sxB,↓sxD,sxE,sxTab]))
   rw[←List.append_assoc]at hf
   exact hf
  ·have d3:decide ((e:Int)<(b:Int))=false:=by rw[decide_eq_false_iff_not];omega
   have hY0:Y2=[]:=List.length_eq_zero_iff.1 (by omega)
   have hf:=fin (X2++Y2) M2 hM2 (List.Perm.refl _) (by rw[hY0,List.append_nil];exact x2)
   (try with_reducible refine Fz.of ?_);refine Go1.mk ?_;repeat' ((first|(with_reducible refine Go1.go ?_)|(refine And.intro ?_ ?_;(try simp only[sxO]at *);omega)|fail)<;>(try simp (maxSteps:=1000000) only [so_gdSt,d2,d3,natV,cE_ment,cE_kill,cE_len,hasK_nil,Nat.mul_one,List.length_set,frC_len,frC_ment,frC_kill,↓hold_pre,awayP,runOps,regK,step1,newK,genR,appR,obl,buildR,Value.cells,closeK,keepH,outV,retK,ret1,retC,RetV,Option.getD,runD,stepD,afterK,undef,simprocAttr,sxB,↓sxD,sxE,sxTab]))
   rw[show A++(Z1++(X2++Y2))++B=A++Z1++X2++Y2++B by simp]at hf
   exact hf
 ·have d2:decide ((h:Int)<(e:Int))=false:=by rw[decide_eq_false_iff_not];omega
  have hX0:X2=[]:=List.length_eq_zero_iff.1 (by omega)
  have hf:=fin (X2++Y2) M2 hM2 (List.Perm.refl _) (by rw[hX0,List.nil_append];exact y2)
  (try with_reducible refine Fz.of ?_);refine Go1.mk ?_;repeat' ((first|(with_reducible refine Go1.go ?_)|(refine And.intro ?_ ?_;(try simp only[sxO]at *);omega)|fail)<;>(try simp (maxSteps:=1000000) only [so_gdSt,d2,natV,cE_ment,cE_kill,cE_len,hasK_nil,Nat.mul_one,List.length_set,frC_len,frC_ment,frC_kill,↓hold_pre,awayP,runOps,regK,step1,newK,genR,appR,obl,buildR,Value.cells,closeK,keepH,outV,retK,ret1,retC,RetV,Option.getD,runD,stepD,afterK,undef,simprocAttr,sxB,↓sxD,sxE,sxTab]))
  rw[show A++(Z1++(X2++Y2))++B=A++Z1++X2++Y2++B by simp]at hf
  exact hf
theorem mrg_all(ho:CmpO c)(NN N:Nat)(hN2:N<1000000):∀nn M,CmpK M ul nr R c NN→MrgK M ul nr R c NN N nn:=by
 intro nn
 induction nn with
 | zero=>intro M hc A X Y B D a m b M1 K hM hn hD ha hm hb hX hY;omega
 | succ nn ih=>
  intro M hc A X Y B D a m b M1 K hM hn hD ha hm hb hX hY hx hy hxy hNN hN hK
  have hc1:=hc.le hM
  by_cases h1:X.length=1
  ·exact mrgA_ok ul nr R ho NN hc1 A X Y B D a m b N hD ha hm hb h1 hY hx hy hxy hNN hN hN2 hK
  by_cases h2:Y.length=1
  ·exact mrgB_ok ul nr R ho NN hc1 A X Y B D a m b N hD ha hm hb (by omega) h2 hx hy hxy hNN hN hN2 hK
  ·exact mrgG_ok ul nr R ho NN N nn (ih M1 hc1) hc1 A X Y B D a m b hD ha hm hb (by omega) (by omega) hn hx hy hxy hNN hN hN2 hK
end
inductive InBlk (c:Nat→Nat→Int) (k:Nat):List Nat→Prop
 | last (X:List Nat):X.length≤k→X.Pairwise (ltS c)→InBlk c k X
 | cons (X R:List Nat):X.length=k→X.Pairwise (ltS c)→(∀x∈X,∀y∈R,x<y)→InBlk c k R→InBlk c k (X++R)
theorem blk_small{c:Nat→Nat→Int}{k:Nat}{R:List Nat}(h:InBlk c k R)(hl:R.length≤k):R.Pairwise (ltS c):=by
 cases h with
 | last _ _ h=>exact h
 | cons X R h1 h2 h3 h4=>
  rw[List.length_append]at hl
  have:R=[]:=List.length_eq_zero_iff.1 (by omega)
  rw[this,List.append_nil];exact h2
theorem blk_one{c:Nat→Nat→Int}{k:Nat}{R:List Nat}(h:InBlk c k R)(hl:k<R.length):∃X Y,R=X++Y∧X.length=k∧X.Pairwise (ltS c)∧(∀x∈X,∀y∈Y,x<y)∧InBlk c k Y:=by
 cases h with
 | last _ h _=>omega
 | cons X R h1 h2 h3 h4=>exact ⟨X,R,rfl,h1,h2,h3,h4⟩
theorem blk_two{c:Nat→Nat→Int}{k:Nat}{R:List Nat}(hk:0<k)(h:InBlk c k R)(hl:2*k≤R.length):∃X Y R',R=X++Y++R'∧X.length=k∧Y.length=k∧X.Pairwise (ltS c)∧Y.Pairwise (ltS c)∧(∀x∈X,∀y∈Y,x<y)∧(∀x∈X++Y,∀y∈R',x<y)∧InBlk c k R':=by
 obtain ⟨X,R1,rfl,h1,h2,h3,h4⟩:=blk_one h (by omega)
 rw[List.length_append]at hl
 by_cases h5:R1.length=k
 ·exact ⟨X,R1,[],by simp,h1,h5,h2,blk_small h4 (by omega),h3,by simp,InBlk.last [] (by simp) List.Pairwise.nil⟩
 ·obtain ⟨Y,R2,rfl,h6,h7,h8,h9⟩:=blk_one h4 (by omega)
  exact ⟨X,Y,R2,by simp,h1,h6,h2,h7,fun x hx y hy=>h3 x hx y (List.mem_append_left _ hy),fun x hx y hy=>by
   rcases List.mem_append.1 hx with hx|hx
   ·exact h3 x hx y (List.mem_append_right _ hy)
   ·exact h8 x hx y hy,h9⟩
section
variable {M:Mem}{K:AV→Hp→Mem→Prop}(ul:Value)(nr:Nat)(R:List FR){c:Nat→Nat→Int}
def so_s1St(M:Mem)(ul:Value)(nr:Nat)(R:List FR)(N:Nat)(D:List Nat)(k a b:Nat):St:={env:=[(6,.ext (.int .i64 (k:Int))),(7,.ext (.int .i64 (a:Int))),(8,.ext (.int .i64 (b:Int))),(2,.fn 38 [.own 1 0,.own 4 0]),(1,.ext (.int .i64 (N:Int))),(0,.slo 114 0 N 1)],hp:=[(114,3,cE natV (D)),(1,26,[.ext ul]),(4,66,[.slo 12 0 nr 2]),(12,34,frC R)],M:=M,kb:=200,fx:=[114,1,4,12]}
def so_s2St(M:Mem)(ul:Value)(nr:Nat)(R:List FR)(N:Nat)(D:List Nat)(k:Nat):St:={env:=[(6,.ext (.int .i64 (k:Int))),(2,.fn 38 [.own 1 0,.own 4 0]),(1,.ext (.int .i64 (N:Int))),(0,.slo 114 0 N 1)],hp:=[(114,3,cE natV (D)),(1,26,[.ext ul]),(4,66,[.slo 12 0 nr 2]),(12,34,frC R)],M:=M,kb:=200,fx:=[114,1,4,12]}
theorem stab_ok(ho:CmpO c)(NN:Nat)(hc:CmpK M ul nr R c NN)(D:List Nat)(N:Nat)(hS:D.Pairwise (· < ·))(hSN:∀x∈D,x<NN)(hN:D.length=N)(hN2:N<1000000)
  (hK:∀Z M',Mem.le M M'→Z.Perm D→Z.Pairwise (ltS c)→K (.ext (.tuple #[])) [(114,3,cE natV (Z)),(1,26,[.ext ul]),(4,66,[.slo 12 0 nr 2]),(12,34,frC R)] M') :
  CallS Try.prog 80 [.slo 114 0 N 1,.ext (.int .i64 (N:Int)),.fn 38 [.own 1 0,.own 4 0]] [(114,3,cE natV (D)),(1,26,[.ext ul]),(4,66,[.slo 12 0 nr 2]),(12,34,frC R)] M [] K:=by
 refine inlS (cs:=[]) Try.mixed Try.func80 rfl (by kernel_rfl) 200 rfl rfl ?_
 simp only[Try.f80]
 refine Go1.mk ?_;repeat' ((first|(with_reducible refine Go1.go ?_)|(refine And.intro ?_ ?_;(try simp only[sxO]at *);omega)|fail)<;>(try simp (maxSteps:=1000000) only [natV,cE_ment,cE_kill,cE_len,hasK_nil,Nat.mul_one,List.length_set,frC_len,frC_ment,frC_kill,↓hold_pre,awayP,runOps,regK,step1,newK,genR,appR,obl,buildR,Value.cells,closeK,keepH,outV,retK,ret1,retC,RetV,Option.getD,runD,stepD,afterK,undef,simprocAttr,sxB,↓sxD,sxE,sxTab]))
 refine ⟨fun d z=>∃M' P R9 a,d=R9.length∧a=P.length∧Mem.le M M'∧(P++R9).Perm D∧(∀x∈P,∀y∈R9,x<y)∧R9.Pairwise (· < ·)∧(∀R',R'.Perm R9→InBlk c 20 R'→InBlk c 20 (P++R'))∧z=so_s1St M' ul nr R N (P++R9) 20 a (a+20),
  ⟨N,so_s1St M ul nr R N D 20 0 20,le_sub ⟨rfl,rfl,rfl,rfl,rfl,rfl,trivial⟩ ⟨by first|rfl|simp[lkH],by first|rfl|simp[lkH],by first|rfl|simp[lkH],by first|rfl|simp[lkH],trivial⟩ rfl rfl rfl (by simp[keepLt,so_s1St,lkH]),⟨M,[],D,0,hN.symm,rfl,Mem.le.refl _,List.Perm.refl _,by simp,hS,fun R' _ h=>h,rfl⟩⟩,?_⟩
 rintro d z ⟨M1,P,R0,a,rfl,ha,hM1,hp,hlt,hR,hdone,rfl⟩
 have hpl:=hp.length_eq
 rw[List.length_append]at hpl
 have hRN:∀x∈R0,x<NN:=fun x hx=>hSN x (hp.subset (List.mem_append_right _ hx))
 by_cases c1:a+20≤N
 ·have d1:decide (((a+20:Nat):Int)≤(N:Int))=true:=by rw[decide_eq_true_eq];omega
  have w1:IntKind.i64.wrap (((a+20:Nat):Int)+20)=((a+20+20:Nat):Int):=by rw[wrap_id (by omega) (by omega)];omega
  obtain ⟨S1,R1,hSR,hS1⟩:∃S1 R1,R0=S1++R1∧S1.length=20:=⟨R0.take 20,R0.drop 20,(List.take_append_drop _ _).symm,by rw[List.length_take];omega⟩
  subst hSR
  obtain ⟨r1,r2,r3⟩:=List.pairwise_append.1 hR
  refine Go1.mk ?_;repeat' ((first|(with_reducible refine Go1.go ?_)|((with_reducible refine isCall (f:=99) ?_);refine callA ?_)|((with_reducible refine isCallS (f:=99) ?_);refine (ins_ok ul nr R ho NN (hc.le hM1) P S1 R1 (P++(S1++R1)) _ _ N (by simp) ha (by omega) r1 (fun x hx=>hRN x (List.mem_append_left _ hx)) (by rw[List.length_append];omega) hN2 (fun S2 M2 m2 p2 q2=>Stop.mk ?_)))|(refine And.intro ?_ ?_;(try simp only[sxO]at *);omega)|fail)<;>(try simp (maxSteps:=1000000) only [so_s1St,d1,w1,natV,cE_ment,cE_kill,cE_len,hasK_nil,Nat.mul_one,List.length_set,frC_len,frC_ment,frC_kill,↓hold_pre,awayP,runOps,regK,step1,newK,genR,appR,obl,buildR,Value.cells,closeK,keepH,outV,retK,ret1,retC,RetV,Option.getD,runD,stepD,afterK,undef,simprocAttr,sxB,↓sxD,sxE,sxTab]))
  have m2:Mem.le M1 M2:=m2
  have l2:=p2.length_eq
  refine Stop.go ?_
  refine Go1.mk ?_;repeat' ((first|(with_reducible refine Go1.go ?_)|(refine And.intro ?_ ?_;(try simp only[sxO]at *);omega)|fail)<;>(try simp (maxSteps:=1000000) only [w1,natV,cE_ment,cE_kill,cE_len,hasK_nil,Nat.mul_one,List.length_set,frC_len,frC_ment,frC_kill,↓hold_pre,awayP,runOps,regK,step1,newK,genR,appR,obl,buildR,Value.cells,closeK,keepH,outV,retK,ret1,retC,RetV,Option.getD,runD,stepD,afterK,undef,simprocAttr,sxB,↓sxD,sxE,sxTab]))
  rw[List.length_append]at hpl
  exact ⟨R1.length,so_s1St M2 ul nr R N (P++S2++R1) 20 (a+20) (a+20+20),by rw[List.length_append];omega,le_sub ⟨rfl,rfl,rfl,rfl,rfl,rfl,trivial⟩ ⟨by first|rfl|simp[lkH],by first|rfl|simp[lkH],by first|rfl|simp[lkH],by first|rfl|simp[lkH],trivial⟩ rfl rfl rfl (by simp[keepLt,so_s1St,lkH]),M2,P++S2,R1,a+20,rfl,by rw[List.length_append];omega,hM1.trans m2,by
   refine List.Perm.trans ?_ hp
   rw[List.append_assoc]
   exact List.Perm.append_left _ (List.Perm.append_right _ p2),fun x hx y hy=>by
   rcases List.mem_append.1 hx with hx|hx
   ·exact hlt x hx y (List.mem_append_right _ hy)
   ·exact r3 x (p2.subset hx) y hy,r2,fun R' h1 h2=>by
   rw[List.append_assoc]
   exact hdone _ (p2.append h1) (InBlk.cons S2 R' (by omega) q2 (fun x hx y hy=>r3 x (p2.subset hx) y (h1.subset hy)) h2),rfl⟩
 have d1:decide (((a+20:Nat):Int)≤(N:Int))=false:=by rw[decide_eq_false_iff_not];omega
 refine Go1.mk ?_;repeat' ((first|(with_reducible refine Go1.go ?_)|((with_reducible refine isCall (f:=99) ?_);refine callA ?_)|((with_reducible refine isCallS (f:=99) ?_);refine (ins_ok ul nr R ho NN (hc.le hM1) P R0 [] (P++R0) _ _ N (by simp) ha (by omega) hR hRN (by rw[List.length_append];omega) hN2 (fun S2 M2 m2 p2 q2=>Stop.mk ?_)))|(refine And.intro ?_ ?_;(try simp only[sxO]at *);omega)|fail)<;>(try simp (maxSteps:=1000000) only [so_s1St,d1,natV,cE_ment,cE_kill,cE_len,hasK_nil,Nat.mul_one,List.length_set,frC_len,frC_ment,frC_kill,↓hold_pre,awayP,runOps,regK,step1,newK,genR,appR,obl,buildR,Value.cells,closeK,keepH,outV,retK,ret1,retC,RetV,Option.getD,runD,stepD,afterK,undef,simprocAttr,sxB,↓sxD,sxE,sxTab]))
 have m2:Mem.le M1 M2:=m2
 have l2:=p2.length_eq
 have hbk:InBlk c 20 (P++S2):=hdone S2 p2 (InBlk.last S2 (by omega) q2)
 have hM2:=hM1.trans m2
 have hpp:(P++S2).Perm D:=(List.Perm.append_left _ p2).trans hp
 refine Stop.go ?_
 refine Go1.mk ?_;repeat' ((first|(with_reducible refine Go1.go ?_)|(refine And.intro ?_ ?_;(try simp only[sxO]at *);omega)|fail)<;>(try simp (maxSteps:=1000000) only [natV,cE_ment,cE_kill,cE_len,hasK_nil,Nat.mul_one,List.length_set,frC_len,frC_ment,frC_kill,↓hold_pre,awayP,runOps,regK,step1,newK,genR,appR,obl,buildR,Value.cells,closeK,keepH,outV,retK,ret1,retC,RetV,Option.getD,runD,stepD,afterK,undef,simprocAttr,sxB,↓sxD,sxE,sxTab]))
 refine ⟨fun d z=>∃M' E k,d=N-k∧0<k∧Mem.le M M'∧E.Perm D∧InBlk c k E∧z=so_s2St M' ul nr R N E k,
  ⟨N-20,so_s2St M2 ul nr R N (P++S2) 20,le_sub ⟨rfl,rfl,rfl,rfl,trivial⟩ ⟨by simp[lkH,so_s2St],by simp[lkH,so_s2St],by simp[lkH,so_s2St],by simp[lkH,so_s2St],trivial⟩ rfl rfl rfl (by simp[keepLt,so_s2St,lkH]),⟨M2,_,20,rfl,by omega,hM2,hpp,hbk,rfl⟩⟩,?_⟩
 clear hp hlt hR hdone hRN hpp hbk hM2 d1
 rintro d z ⟨M3,E,k,rfl,hk,hM3,hE,hB,rfl⟩
 have hEl:=hE.length_eq
 have hEN:∀x∈E,x<NN:=fun x hx=>hSN x (hE.subset hx)
 by_cases c2:k<N
 ·have d2:decide ((k:Int)<(N:Int))=true:=by rw[decide_eq_true_eq];omega
  have w2:IntKind.i64.wrap (2*(k:Int))=((2*k:Nat):Int):=by rw[wrap_id (by omega) (by omega)];omega
  have w3:IntKind.i64.wrap ((k:Int)*2)=((2*k:Nat):Int):=by rw[wrap_id (by omega) (by omega)];omega
  refine Go1.mk ?_;repeat' ((first|(with_reducible refine Go1.go ?_)|(refine And.intro ?_ ?_;(try simp only[sxO]at *);omega)|fail)<;>(try simp (maxSteps:=1000000) only [so_s2St,d2,w2,natV,cE_ment,cE_kill,cE_len,hasK_nil,Nat.mul_one,List.length_set,frC_len,frC_ment,frC_kill,↓hold_pre,awayP,runOps,regK,step1,newK,genR,appR,obl,buildR,Value.cells,closeK,keepH,outV,retK,ret1,retC,RetV,Option.getD,runD,stepD,afterK,undef,simprocAttr,sxB,↓sxD,sxE,sxTab]))
  refine ⟨fun d z=>∃M' P R9 a,d=R9.length∧a=P.length∧Mem.le M M'∧(P++R9).Perm D∧(∀x∈P,∀y∈R9,x<y)∧InBlk c k R9∧(∀R',R'.Perm R9→InBlk c (2*k) R'→InBlk c (2*k) (P++R'))∧z=so_s1St M' ul nr R N (P++R9) k a (a+2*k),
   ⟨N,so_s1St M3 ul nr R N E k 0 (0+2*k),le_sub ⟨rfl,rfl,by rw[Nat.zero_add];rfl,rfl,rfl,rfl,trivial⟩ ⟨by first|rfl|simp[lkH],by first|rfl|simp[lkH],by first|rfl|simp[lkH],by first|rfl|simp[lkH],trivial⟩ rfl rfl rfl (by simp[keepLt,so_s1St,lkH]),⟨M3,[],E,0,by omega,rfl,hM3,hE,by simp,hB,fun R' _ h=>h,rfl⟩⟩,?_⟩
  clear hE hB hEl hEN hM3 d2
  rintro d z ⟨M4,P,R0,a,rfl,ha,hM4,hp,hlt,hR,hdone,rfl⟩
  have hpl:=hp.length_eq
  rw[List.length_append]at hpl
  have hRN:∀x∈R0,x<NN:=fun x hx=>hSN x (hp.subset (List.mem_append_right _ hx))
  have w4:IntKind.i64.wrap ((a:Int)+(k:Int))=((a+k:Nat):Int):=by rw[wrap_id (by omega) (by omega)];omega
  by_cases c3:a+2*k≤N
  ·have d3:decide (((a+2*k:Nat):Int)≤(N:Int))=true:=by rw[decide_eq_true_eq];omega
   have w5:IntKind.i64.wrap (((a+2*k:Nat):Int)+((2*k:Nat):Int))=((a+2*k+2*k:Nat):Int):=by rw[wrap_id (by omega) (by omega)];omega
   obtain ⟨X,Y,R1,hXY,x1,y1,x2,y2,h3,h4,h5⟩:=blk_two hk hR (by omega)
   subst hXY
   simp only[List.length_append]at hpl
   refine Go1.mk ?_;repeat' ((first|(with_reducible refine Go1.go ?_)|((with_reducible refine isCall (f:=100) ?_);refine callA ?_)|((with_reducible refine isCallS (f:=100) ?_);refine (mrg_all ul nr R ho NN N hN2 (2*k) M4 (hc.le hM4) P X Y R1 (P++(X++Y++R1)) _ _ _ _ _ (Mem.le.refl _) (by omega) (by simp) ha (by omega) (by omega) (by omega) (by omega) x2 y2 h3 (fun x hx=>hRN x (List.mem_append_left _ hx)) (by simp only[List.length_append];omega) (fun Z M5 m5 p5 q5=>Stop.mk ?_)))|(refine And.intro ?_ ?_;(try simp only[sxO]at *);omega)|fail)<;>(try simp (maxSteps:=1000000) only [so_s1St,d3,w2,w4,w5,natV,cE_ment,cE_kill,cE_len,hasK_nil,Nat.mul_one,List.length_set,frC_len,frC_ment,frC_kill,↓hold_pre,awayP,runOps,regK,step1,newK,genR,appR,obl,buildR,Value.cells,closeK,keepH,outV,retK,ret1,retC,RetV,Option.getD,runD,stepD,afterK,undef,simprocAttr,sxB,↓sxD,sxE,sxTab]))
   have m5:Mem.le M4 M5:=m5
   have l5:=p5.length_eq
   rw[List.length_append]at l5
   refine Stop.go ?_
   refine Go1.mk ?_;repeat' ((first|(with_reducible refine Go1.go ?_)|(refine And.intro ?_ ?_;(try simp only[sxO]at *);omega)|fail)<;>(try simp (maxSteps:=1000000) only [w2,w5,natV,cE_ment,cE_kill,cE_len,hasK_nil,Nat.mul_one,List.length_set,frC_len,frC_ment,frC_kill,↓hold_pre,awayP,runOps,regK,step1,newK,genR,appR,obl,buildR,Value.cells,closeK,keepH,outV,retK,ret1,retC,RetV,Option.getD,runD,stepD,afterK,undef,simprocAttr,sxB,↓sxD,sxE,sxTab]))
   exact ⟨R1.length,so_s1St M5 ul nr R N (P++Z++R1) k (a+2*k) (a+2*k+2*k),by simp only[List.length_append];omega,le_sub ⟨rfl,rfl,rfl,rfl,rfl,rfl,trivial⟩ ⟨by first|rfl|simp[lkH],by first|rfl|simp[lkH],by first|rfl|simp[lkH],by first|rfl|simp[lkH],trivial⟩ rfl rfl rfl (by simp[keepLt,so_s1St,lkH]),M5,P++Z,R1,a+2*k,rfl,by rw[List.length_append];omega,hM4.trans m5,by
    refine List.Perm.trans ?_ hp
    rw[List.append_assoc]
    exact List.Perm.append_left _ (List.Perm.append_right _ p5),fun x hx y hy=>by
    rcases List.mem_append.1 hx with hx|hx
    ·exact hlt x hx y (List.mem_append_right _ hy)
    ·exact h4 x (p5.subset hx) y hy,h5,fun R' h1 h2=>by
    rw[List.append_assoc]
    exact hdone _ (p5.append h1) (InBlk.cons Z R' (by omega) q5 (fun x hx y hy=>h4 x (p5.subset hx) y (h1.subset hy)) h2),rfl⟩
  have d3:decide (((a+2*k:Nat):Int)≤(N:Int))=false:=by rw[decide_eq_false_iff_not];omega
  by_cases c4:a+k<N
  ·have d4:decide (((a+k:Nat):Int)<(N:Int))=true:=by rw[decide_eq_true_eq];omega
   obtain ⟨X,Y,hXY,x1,x2,h3,h5⟩:=blk_one hR (by omega)
   subst hXY
   rw[List.length_append]at hpl
   have y2:=blk_small h5 (by omega)
   refine Go1.mk ?_;repeat' ((first|(with_reducible refine Go1.go ?_)|((with_reducible refine isCall (f:=100) ?_);refine callA ?_)|((with_reducible refine isCallS (f:=100) ?_);refine (mrg_all ul nr R ho NN N hN2 (2*k) M4 (hc.le hM4) P X Y [] (P++(X++Y)) _ _ _ _ _ (Mem.le.refl _) (by omega) (by simp) ha (by omega) (by omega) (by omega) (by omega) x2 y2 h3 hRN (by simp only[List.length_append];omega) (fun Z M5 m5 p5 q5=>Stop.mk ?_)))|(refine And.intro ?_ ?_;(try simp only[sxO]at *);omega)|fail)<;>(try simp (maxSteps:=1000000) only [so_s1St,d3,d4,w4,natV,cE_ment,cE_kill,cE_len,hasK_nil,Nat.mul_one,List.length_set,frC_len,frC_ment,frC_kill,↓hold_pre,awayP,runOps,regK,step1,newK,genR,appR,obl,buildR,Value.cells,closeK,keepH,outV,retK,ret1,retC,RetV,Option.getD,runD,stepD,afterK,undef,simprocAttr,sxB,↓sxD,sxE,sxTab]))
   have m5:Mem.le M4 M5:=m5
   have l5:=p5.length_eq
   rw[List.length_append]at l5
   refine Stop.go ?_
   refine Go1.mk ?_;repeat' ((first|(with_reducible refine Go1.go ?_)|(refine And.intro ?_ ?_;(try simp only[sxO]at *);omega)|fail)<;>(try simp (maxSteps:=1000000) only [w3,natV,cE_ment,cE_kill,cE_len,hasK_nil,Nat.mul_one,List.length_set,frC_len,frC_ment,frC_kill,↓hold_pre,awayP,runOps,regK,step1,newK,genR,appR,obl,buildR,Value.cells,closeK,keepH,outV,retK,ret1,retC,RetV,Option.getD,runD,stepD,afterK,undef,simprocAttr,sxB,↓sxD,sxE,sxTab]))
   exact ⟨N-2*k,so_s2St M5 ul nr R N (P++Z) (2*k),by omega,le_sub ⟨rfl,rfl,rfl,rfl,trivial⟩ ⟨by simp[lkH,so_s2St],by simp[lkH,so_s2St],by simp[lkH,so_s2St],by simp[lkH,so_s2St],trivial⟩ rfl rfl rfl (by simp[keepLt,so_s2St,lkH]),M5,P++Z,2*k,rfl,by omega,hM4.trans m5,(List.Perm.append_left _ p5).trans hp,hdone Z p5 (InBlk.last Z (by omega) q5),rfl⟩
  ·have d4:decide (((a+k:Nat):Int)<(N:Int))=false:=by rw[decide_eq_false_iff_not];omega
   refine Go1.mk ?_;repeat' ((first|(with_reducible refine Go1.go ?_)|(refine And.intro ?_ ?_;(try simp only[sxO]at *);omega)|fail)<;>(try simp (maxSteps:=1000000) only [so_s1St,d3,d4,w4,w3,natV,cE_ment,cE_kill,cE_len,hasK_nil,Nat.mul_one,List.length_set,frC_len,frC_ment,frC_kill,↓hold_pre,awayP,runOps,regK,step1,newK,genR,appR,obl,buildR,Value.cells,closeK,keepH,outV,retK,ret1,retC,RetV,Option.getD,runD,stepD,afterK,undef,simprocAttr,sxB,↓sxD,sxE,sxTab]))
   exact ⟨N-2*k,so_s2St M4 ul nr R N (P++R0) (2*k),by omega,le_sub ⟨rfl,rfl,rfl,rfl,trivial⟩ ⟨by simp[lkH,so_s2St],by simp[lkH,so_s2St],by simp[lkH,so_s2St],by simp[lkH,so_s2St],trivial⟩ rfl rfl rfl (by simp[keepLt,so_s2St,lkH]),M4,P++R0,2*k,rfl,by omega,hM4,hp,hdone R0 (List.Perm.refl _) (InBlk.last R0 (by omega) (blk_small hR (by omega))),rfl⟩
 ·have d2:decide ((k:Int)<(N:Int))=false:=by rw[decide_eq_false_iff_not];omega
  refine Go1.mk ?_;repeat' ((first|(with_reducible refine Go1.go ?_)|(refine And.intro ?_ ?_;(try simp only[sxO]at *);omega)|fail)<;>(try simp (maxSteps:=1000000) only [so_s2St,d2,natV,cE_ment,cE_kill,cE_len,hasK_nil,Nat.mul_one,List.length_set,frC_len,frC_ment,frC_kill,↓hold_pre,awayP,runOps,regK,step1,newK,genR,appR,obl,buildR,Value.cells,closeK,keepH,outV,retK,ret1,retC,RetV,Option.getD,runD,stepD,afterK,undef,simprocAttr,sxB,↓sxD,sxE,sxTab]))
  exact hK E M3 hM3 hE (blk_small hB (by omega))
theorem sort_ok(ho:CmpO c)(NN:Nat)(hc:CmpK M ul nr R c NN)(D:List Nat)(N:Nat)(hS:D.Pairwise (· < ·))(hSN:∀x∈D,x<NN)(hN:D.length=N)(hN2:N<1000000)
  (hK:∀Z M',Mem.le M M'→Z.Perm D→Z.Pairwise (ltS c)→K (.ext (.tuple #[])) [(114,3,cE natV (Z)),(1,26,[.ext ul]),(4,66,[.slo 12 0 nr 2]),(12,34,frC R)] M') :
  CallS Try.prog 59 [.slo 114 0 N 1,.fn 38 [.own 1 0,.own 4 0]] [(114,3,cE natV (D)),(1,26,[.ext ul]),(4,66,[.slo 12 0 nr 2]),(12,34,frC R)] M [] K:=by
 refine inlS (cs:=[]) Try.mixed Try.func59 rfl (by kernel_rfl) 200 rfl rfl ?_
 simp only[Try.f59]
 refine Go1.mk ?_;repeat' ((first|(with_reducible refine Go1.go ?_)|((with_reducible refine isCall (f:=80) ?_);refine callA ?_)|((with_reducible refine isCallS (f:=80) ?_);refine (stab_ok ul nr R ho NN hc D N hS hSN hN hN2 (fun Z M2 m2 p2 q2=>Stop.mk ?_)))|(refine And.intro ?_ ?_;(try simp only[sxO]at *);omega)|fail)<;>(try simp (maxSteps:=1000000) only [natV,cE_ment,cE_kill,cE_len,hasK_nil,Nat.mul_one,List.length_set,frC_len,frC_ment,frC_kill,↓hold_pre,awayP,runOps,regK,step1,newK,genR,appR,obl,buildR,Value.cells,closeK,keepH,outV,retK,ret1,retC,RetV,Option.getD,runD,stepD,afterK,undef,simprocAttr,sxB,↓sxD,sxE,sxTab]))
 have hk:=hK Z M2 m2 p2 q2
 refine Stop.go ?_
 refine Go1.mk ?_;repeat' ((first|(with_reducible refine Go1.go ?_)|(refine And.intro ?_ ?_;(try simp only[sxO]at *);omega)|fail)<;>(try simp (maxSteps:=1000000) only [natV,cE_ment,cE_kill,cE_len,hasK_nil,Nat.mul_one,List.length_set,frC_len,frC_ment,frC_kill,↓hold_pre,awayP,runOps,regK,step1,newK,genR,appR,obl,buildR,Value.cells,closeK,keepH,outV,retK,ret1,retC,RetV,Option.getD,runD,stepD,afterK,undef,simprocAttr,sxB,↓sxD,sxE,sxTab]))
 exact hk
end
def okFL(M:Mem)(L:List FR):Prop:=∀x∈L,IsF M x.u1 x.u2 x.l1 x.l2
theorem okFL.le{M M':Mem}{L:List FR}(h:okFL M L)(hM:Mem.le M M'):okFL M' L:=fun x hx=>(h x hx).le hM
theorem exF_len'(n d:Nat):(ofN (exF n d).2.1).length≤128∧(ofN (exF n d).2.2).length≤128:=by
 unfold exF
 split
 ·assumption
 ·simp only[ofN_zero];simp
section
variable {M:Mem}{K:AV→Hp→Mem→Prop}{u u1 u2 v1 v2:Value}{l1 l2 k1 k2:List Nat}{L:List FR}
end
theorem frC_at{R:List FR}{i:Nat}(h:i<R.length):((frC R).drop (i*2)).take 2=[.ext R[i].u1,.ext R[i].u2]:=by
 unfold frC
 rw[←List.map_drop,←List.map_take,flat_part (z:=2) (fun _=>rfl) R i h];rfl
theorem IsR.part{α:Type}{P:Program}{M:Mem}{z:Nat}{f:α→List Value}{u:Value}{l:List α}(h:IsR M z f u l)(hf:∀x,(f x).length=z){T:TypeId}(hk:kindT P T=some true){zz:Nat}(hz:szO P T=some zz){i o:Nat}(hi:i<l.length)(ho:o+zz≤z):lookM P T M (addP (elemP u z i) o)=some (.agg (((f l[i]).drop o).take zz).toArray):=by
 rw[SlM.atFS h hk hz hi ho,←flat_part hf l i hi,List.drop_take,List.drop_drop,List.take_take,Nat.min_eq_left (by omega)]
structure PreO (c:Nat→Nat→Int):Prop where
 anti:∀x y,c x y=- c y x
 tr:∀x y z,c x y≤0→c y z≤0→c x z≤0
theorem PreO.cmp{c:Nat→Nat→Int}(h:PreO c):CmpO c:=⟨fun x y=>by have:=h.anti x y;omega,h.tr⟩
theorem PreO.lex{c d:Nat→Nat→Int}(h:PreO c)(k:PreO d):PreO (fun x y=>if c x y=0 then d x y else c x y) where
 anti:=fun x y=>by
  have h1:=h.anti x y
  have h2:=k.anti x y
  by_cases e:c x y=0
  ·rw[if_pos e,if_pos (by omega),h2]
  ·rw[if_neg e,if_neg (by omega),h1]
 tr:=fun x y z=>by
  have h1:=h.anti x y
  have h2:=h.anti y z
  have h3:=h.anti x z
  have t1:=h.tr x y z
  have t2:=h.tr y z x
  have t3:=h.tr z x y
  have k1:=k.tr x y z
  intro g1 g2
  by_cases e1:c x y=0<;>by_cases e2:c y z=0<;>by_cases e3:c x z=0<;>simp only[e1,e2,e3,if_true,if_false]at g1 g2 ⊢<;>omega
theorem PreO.of{α:Type}{c:α→α→Int}(f:Nat→α)(h1:∀a b,c a b=- c b a)(h2:∀x y z,c (f x) (f y)≤0→c (f y) (f z)≤0→c (f x) (f z)≤0):PreO (fun x y=>c (f x) (f y)):=⟨fun x y=>h1 _ _,h2⟩
theorem Cmp.pre{α:Type}{c:α→α→Int}(h:Cmp c)(f:Nat→α):PreO (fun x y=>c (f x) (f y)):=PreO.of f h.anti fun x y z h1 h2=>by
 by_cases e1:c (f x) (f y)=0
 ·rw[(h.zero _ _).1 e1];exact h2
 ·by_cases e2:c (f y) (f z)=0
  ·rw[←(h.zero _ _).1 e2];exact h1
  ·have:=h.trans (f x) (f y) (f z) (by omega) (by omega);omega
def itD:IR:=⟨[],[],.slice none 0 0,.slice none 0 0,[],[1],1⟩
def frD:FR:=⟨.slice none 0 0,.slice none 0 0,[],[1]⟩
def itA(L:List IR)(x:Nat):IR:=L[x]?.getD itD
def frA(R:List FR)(x:Nat):FR:=R[x]?.getD frD
theorem itA_in{L:List IR}{x:Nat}(h:x<L.length):itA L x=L[x]:=by unfold itA;rw[List.getElem?_eq_getElem h];rfl
theorem frA_in{R:List FR}{x:Nat}(h:x<R.length):frA R x=R[x]:=by unfold frA;rw[List.getElem?_eq_getElem h];rfl
def ordC(L:List IR)(R:List FR)(x y:Nat):Int:=or3 (cmpF (frA R y).l1 (frA R y).l2 (frA R x).l1 (frA R x).l2) (cmpS (itA L x).pk (itA L y).pk) (cmpS (itA L x).ts (itA L y).ts)
section
variable {M:Mem}{ul:Value}{L:List IR}{R:List FR}
theorem ocmp_ok(hu:IsR M 5 IR.c ul L)(hL:okIL M L)(hb:L.length<1000000)(hR:okFL M R)(hl:R.length=L.length):CmpK M ul L.length R (ordC L R) L.length:=by
 intro x y M1 K hx hy hM hK
 refine inlS (cs:=[]) Try.mixed Try.func38 rfl (by kernel_rfl) 100 rfl rfl ?_
 simp only[Try.f38]
 have hu1:=hu.le hM
 have hR1:=hR.le hM
 have p1:=hu1.pt hx
 have p2:=hu1.pt hy
 have hnn:=hu1.nn hx
 have a1:=hu1.part (P:=Try.prog) (fun _=>rfl) tk44 tz44 (o:=0) hx (by decide)
 have a2:=hu1.part (P:=Try.prog) (fun _=>rfl) tk44 tz44 (o:=0) hy (by decide)
 have b1:(0:Int)≤(x:Int):=by omega
 have b2:(x:Int)<(L.length:Int):=by omega
 have b3:(0:Int)≤(y:Int):=by omega
 have b4:(y:Int)<(L.length:Int):=by omega
 have r1:=frC_at (R:=R) (i:=x) (by omega)
 have r2:=frC_at (R:=R) (i:=y) (by omega)
 have f1:=hR1 _ (List.getElem_mem (show x<R.length by omega))
 have f2:=hR1 _ (List.getElem_mem (show y<R.length by omega))
 have hc:ordC L R x y=or3 (cmpF R[y].l1 R[y].l2 R[x].l1 R[x].l2) (cmpS L[x].pk L[y].pk) (cmpS L[x].ts L[y].ts):=by
  unfold ordC
  rw[itA_in hx,itA_in hy,frA_in (by omega),frA_in (by omega)]
 rw[hc]at hK
 clear hc hu hL hR
 generalize L[x]=lx at *
 generalize L[y]=ly at *
 generalize R[x]=rx at *
 generalize R[y]=ry at *
 obtain ⟨pk1,ts1,x1,x2,k1,k2,co1⟩:=lx
 obtain ⟨pk2,ts2,y1,y2,m1,m2,co2⟩:=ly
 obtain ⟨q1,q2,n1,n2⟩:=rx
 obtain ⟨s1,s2,o1,o2⟩:=ry
 have a1:lookM Try.prog 44 M1 (addP (elemP ul 5 x) 0)=some (.agg #[.string (bs pk1),.string (bs ts1)]):=a1
 have a2:lookM Try.prog 44 M1 (addP (elemP ul 5 y) 0)=some (.agg #[.string (bs pk2),.string (bs ts2)]):=a2
 simp only at r1 r2 f1 f2 hK
 have hfl:=frC_len R
 have j1:x*2+2≤R.length*2:=by omega
 have j2:y*2+2≤R.length*2:=by omega
 refine Go1.mk ?_;repeat' ((first|(with_reducible refine Go1.go ?_)|(((with_reducible refine isCall0 (f:=14) ?_);refine callA0_nil (by kernel_rfl) ?_;refine (fcmp_ok f2 f1 (fun M2 m2=>Stop.mk ?_))))|((with_reducible refine isDraw [some 9,some 10,some 11,some 12,some 13,some 14,some 15,some 16,some 17,some 18,some 7,some 8,none,none] (by decide) ?_);refine draw_rule [(0,[]),(1,[0]),(2,[]),(3,[]),(4,[]),(5,[0,4]),(6,[0,4,5]),(7,[0,4]),(8,[0,4]),(9,[0,4]),(10,[0,4,5,9]),(11,[0,4,5,9]),(12,[5,9]),(13,[])] [[],[],[0,1],[0,1,2],[0,1,2,3],[],[],[5,6],[5,6,7],[5,6,7,8],[],[],[0,1,2,3,4,10,11],[0,1,2,3,4,5,6,7,8,9,10,11,12]] [9,10,11,12,13,14,15,16,17,18,7,8] [] (by kernel_rfl) (by kernel_rfl) (by kernel_rfl) (by kernel_rfl) (by exact trivial) ?_)|((with_reducible refine isDraw [some 19,some 20,some 21,some 22,some 23,some 24,some 25,some 26,some 27,some 28,some 29,some 30,some 31,some 32,some 33,some 34,some 35,some 36,some 37,some 38,some 39,some 6] (by decide) ?_);refine draw_rule [(0,[]),(1,[0]),(2,[]),(3,[]),(4,[0,3]),(5,[0,3,4]),(6,[0,3]),(7,[0,3]),(9,[0,3,4,7]),(10,[0,3,4,7]),(11,[0,3,4,7,10]),(12,[0,3,4,7,10]),(14,[0,3,4,7,10,12]),(15,[0,3,4,7,10,12]),(16,[0,3,4,7,10,12,15]),(17,[0,3,4,7,10,12,15]),(8,[10,12,15,17]),(13,[15,17]),(18,[]),(19,[]),(20,[]),(21,[])] [[],[],[0,1],[0,1,2],[],[],[4,5],[4,5,6],[0,1,2,3,4,5,6,7],[],[9],[],[11],[0,1,2,3,4,5,6,7,8,9,10,11,12],[],[14],[],[16],[0,1,2,3,4,5,6,7,8,9,10,11,12,13,14,15,16,17],[0,1,2,3,4,5,6,7,8,9,10,11,12,13,14,15,16,17,18],[0,1,2,3,4,5,6,7,8,9,10,11,12,13,14,15,16,17,18,19],[0,1,2,3,4,5,6,7,8,9,10,11,12,13,14,15,16,17,18,19,20]] [19,20,21,22,23,24,25,26,27,28,29,30,31,32,33,34,35,36] [] (by kernel_rfl) (by kernel_rfl) (by kernel_rfl) (by kernel_rfl) (by exact trivial) ?_)|(refine And.intro ?_ ?_;(try simp only[sxO]at *);omega)|fail)<;>(try simp (maxSteps:=1000000) only [hu1.one,hu1.len,hu1.sl,hnn,p1,p2,a1,a2,b1,b2,b3,b4,r1,r2,hfl,j1,j2,frC_ment,frC_kill,hasK_nil,f1.n.one,f1.d.one,f2.n.one,f2.d.one,bs_mk,bs_app,bs_ext,bs_size,bs_toList,bs_at,bs_cells,List.take_length,imp_ga,guard_pk,guard_pk2,↓hold_pre,awayP,runOps,regK,step1,newK,genR,appR,obl,buildR,Value.cells,closeK,keepH,outV,retK,ret1,retC,RetV,Option.getD,runD,stepD,afterK,undef,simprocAttr,sxB,↓sxD,sxE,sxTab]))
 have m2:Mem.le M1 M2:=m2
 have hk:=hK M2 m2
 refine Stop.go ?_
 refine Go1.mk ?_;repeat' ((first|(with_reducible refine Go1.go ?_)|(((with_reducible refine isCall0 (f:=40) ?_);refine callA0_nil (by kernel_rfl) ?_;refine (cmpS_ok pk1 pk2 ?_)))|(((with_reducible refine isCall0 (f:=40) ?_);refine callA0_nil (by kernel_rfl) ?_;refine (cmpS_ok ts1 ts2 ?_)))|((with_reducible refine isCall0 (f:=39) ?_);refine callA0 ?_)|((with_reducible refine isCallS (f:=39) ?_);refine (or3_ok 138 _ _ _ _ ?_))|((with_reducible refine isDraw [some 9,some 10,some 11,some 12,some 13,some 14,some 15,some 16,some 17,some 18,some 7,some 8,none,none] (by decide) ?_);refine draw_rule [(0,[]),(1,[0]),(2,[]),(3,[]),(4,[]),(5,[0,4]),(6,[0,4,5]),(7,[0,4]),(8,[0,4]),(9,[0,4]),(10,[0,4,5,9]),(11,[0,4,5,9]),(12,[5,9]),(13,[])] [[],[],[0,1],[0,1,2],[0,1,2,3],[],[],[5,6],[5,6,7],[5,6,7,8],[],[],[0,1,2,3,4,10,11],[0,1,2,3,4,5,6,7,8,9,10,11,12]] [9,10,11,12,13,14,15,16,17,18,7,8] [] (by kernel_rfl) (by kernel_rfl) (by kernel_rfl) (by kernel_rfl) (by exact trivial) ?_)|((with_reducible refine isDraw [some 19,some 20,some 21,some 22,some 23,some 24,some 25,some 26,some 27,some 28,some 29,some 30,some 31,some 32,some 33,some 34,some 35,some 36,some 37,some 38,some 39,some 6] (by decide) ?_);refine draw_rule [(0,[]),(1,[0]),(2,[]),(3,[]),(4,[0,3]),(5,[0,3,4]),(6,[0,3]),(7,[0,3]),(9,[0,3,4,7]),(10,[0,3,4,7]),(11,[0,3,4,7,10]),(12,[0,3,4,7,10]),(14,[0,3,4,7,10,12]),(15,[0,3,4,7,10,12]),(16,[0,3,4,7,10,12,15]),(17,[0,3,4,7,10,12,15]),(8,[10,12,15,17]),(13,[15,17]),(18,[]),(19,[]),(20,[]),(21,[])] [[],[],[0,1],[0,1,2],[],[],[4,5],[4,5,6],[0,1,2,3,4,5,6,7],[],[9],[],[11],[0,1,2,3,4,5,6,7,8,9,10,11,12],[],[14],[],[16],[0,1,2,3,4,5,6,7,8,9,10,11,12,13,14,15,16,17],[0,1,2,3,4,5,6,7,8,9,10,11,12,13,14,15,16,17,18],[0,1,2,3,4,5,6,7,8,9,10,11,12,13,14,15,16,17,18,19],[0,1,2,3,4,5,6,7,8,9,10,11,12,13,14,15,16,17,18,19,20]] [19,20,21,22,23,24,25,26,27,28,29,30,31,32,33,34,35,36] [] (by kernel_rfl) (by kernel_rfl) (by kernel_rfl) (by kernel_rfl) (by exact trivial) ?_)|(refine And.intro ?_ ?_;(try simp only[sxO]at *);omega)|fail)<;>(try simp (maxSteps:=1000000) only [frC_ment,frC_kill,hasK_nil,bs_mk,bs_app,bs_ext,bs_size,bs_toList,bs_at,bs_cells,List.take_length,imp_ga,guard_pk,guard_pk2,↓hold_pre,awayP,runOps,regK,step1,newK,genR,appR,obl,buildR,Value.cells,closeK,keepH,outV,retK,ret1,retC,RetV,Option.getD,runD,stepD,afterK,undef,simprocAttr,sxB,↓sxD,sxE,sxTab]))
 exact hk
end
end Go.Proofs.Ytjapnklocibgaaa.Sx
