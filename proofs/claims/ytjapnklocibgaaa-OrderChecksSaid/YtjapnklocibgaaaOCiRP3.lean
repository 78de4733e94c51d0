/- Part 36 of the texts of this claim: a symbolic executor and contracts of functions. -/
import Derived.Test.YtjapnklocibgaaaOCiRP2
import Derived.Test.YtjapnklocibgaaaOCiRCBor
namespace Go.Proofs.Ytjapnklocibgaaa.Sx
open Go Go.RowKit
set_option linter.unusedVariables false
set_option linter.unusedSimpArgs false
set_option maxRecDepth 100000
set_option maxHeartbeats 8000000
attribute [local congr] fin_congr finG_congr stepG_congr step1_congr runOps_congr brv_congr obl_congr condK_congr LoopK_congr seqK_congr CutK_congr vc_congr DrawK_congr regK_congr CallK_congr AskK_congr newK_congr retC_congr ret1_congr retK_congr outV_congr closeK_congr genR_congr appR_congr finD_congr finGD_congr stepGD_congr stepD_congr CallK0_congr runD_congr okR_congr CallS_congr vcX_congr
attribute [local congr] Stop_congr
theorem FrzF.keep{K:AV→Hp→Mem→Prop}{H H2:Hp}{M':Mem}{k n:Nat}{T:TypeId}(cs:List Value)(h1:lkH H k=none)(h2:cs.length=n)(h3:hasK k (mentH H2)=false)(h4:lkH H2 k=none)(h:∀u M'',Mem.le M' M''→SlM M'' 1 u n cs→FreshS M' u→K (.ext u) H2 M''):FrzF K H (.slo k 0 n 1) ((k,T,cs.map .ext) :: H2) M':=
 .inr ⟨none,[],[],k,n,1,T,cs,H2,rfl,rfl,h4,h1,by omega,by simpa [mentL] using h3,h⟩
section
variable {M:Mem}{K:AV→Hp→Mem→Prop}{ul:Value}{nr:Nat}{R:List FR}{c:Nat→Nat→Int}
def osSt(M:Mem)(ul:Value)(nr:Nat)(R:List FR)(n i m:Nat)(D:List Nat):St:={env:=[(8,.ext (.int .i64 (i:Int))),(7,.ext (.int .i64 (n:Int))),(5,.slo 114 0 m 1),(4,.ext (.slice none 0 0)),(1,.fn 38 [.own 1 0,.own 4 0])],hp:=[(114,3,cE natV D),(1,26,[.ext ul]),(4,66,[.slo 12 0 nr 2]),(12,34,frC R)],M:=M,kb:=100,fx:=[1,4,12]}
theorem sorted_ok(ho:CmpO c)(NN:Nat)(hc:CmpK M ul nr R c NN)(N:Nat)(hN:N≤NN)(hN2:N<1000000)(hK:∀v Z M',Mem.le M M'→Z.Perm (List.range N)→Z.Pairwise (ltS c)→IsL M' natV v Z→FreshS M v→K (.ext v) [(1,26,[.ext ul]),(4,66,[.slo 12 0 nr 2]),(12,34,frC R)] M') :
  CallS Try.prog 37 [.ext (.int .i64 (N:Int)),.fn 38 [.own 1 0,.own 4 0]] [(1,26,[.ext ul]),(4,66,[.slo 12 0 nr 2]),(12,34,frC R)] M [] K:=by
 refine CallS.frzF ?_
 refine inlS (cs:=[]) Try.mixed Try.func37 rfl (by kernel_rfl) 100 rfl rfl ?_
 simp only[Try.f37]
 refine Go1.mk ?_;repeat' ((first|(with_reducible refine Go1.go ?_)|(refine And.intro ?_ ?_;(try simp only[sxO]at *);omega)|fail)<;>(try simp (maxSteps:=1000000) only [frC_ment,frC_kill,hasK_nil,↓hold_pre,awayP,runOps,regK,step1,newK,genR,appR,obl,buildR,Value.cells,closeK,keepH,outV,retK,ret1,retC,RetV,Option.getD,runD,stepD,afterK,undef,simprocAttr,sxB,↓sxD,sxE,sxTab]))
 refine ⟨fun d z=>∃i,i≤N∧d=N-i∧z=osSt M ul nr R N i i (List.range i),⟨N,osSt M ul nr R N 0 0 [],(le_nil 5 114 3 1 rfl (.inl (by simp[awayB,frC_ment,mentE,mentH,mentL,AV.ment,hasK]))).trans (le_sub ⟨rfl,rfl,rfl,rfl,rfl,trivial⟩ ⟨by simp[lkH,osSt,cE],by simp[lkH,osSt],by simp[lkH,osSt],by simp[lkH,osSt],trivial⟩ rfl rfl rfl (by simp[keepLt,osSt,lkH])),⟨0,by omega,by omega,rfl⟩⟩,?_⟩
 rintro d z ⟨i,hi,rfl,rfl⟩
 by_cases hlt:i<N
 ·have d1:decide ((i:Int)<(N:Int))=true:=by rw[decide_eq_true_eq];omega
  have hw:IntKind.i64.wrap ((i:Int)+1)=((i+1:Nat):Int):=succ_i (by omega)
  have hlen2:(cE natV (List.range i)).length=i:=by rw[cE_len,List.length_range]
  have hsn:cE natV (List.range i)++[.ext (.int .i64 (i:Int))]=cE natV (List.range (i+1)):=by
   rw[List.range_succ];exact cE_snoc natV _ i
  refine Go1.mk ?_;repeat' ((first|(with_reducible refine Go1.go ?_)|(refine And.intro ?_ ?_;(try simp only[sxO]at *);omega)|fail)<;>(try simp (maxSteps:=1000000) only [osSt,d1,hw,hlen2,hsn,cE_ment,cE_kill,frC_ment,frC_kill,hasK_nil,↓hold_pre,awayP,runOps,regK,step1,newK,genR,appR,obl,buildR,Value.cells,closeK,keepH,outV,retK,ret1,retC,RetV,Option.getD,runD,stepD,afterK,undef,simprocAttr,sxB,↓sxD,sxE,sxTab]))
  exact ⟨N-(i+1),osSt M ul nr R N (i+1) (i+1) (List.range (i+1)),by omega,le_sub ⟨rfl,rfl,rfl,rfl,rfl,trivial⟩ ⟨by simp[lkH,osSt],by simp[lkH,osSt],by simp[lkH,osSt],by simp[lkH,osSt],trivial⟩ rfl rfl rfl (by simp[keepLt,osSt,lkH]),i+1,by omega,rfl,rfl⟩
 ·obtain rfl:i=N:=by omega
  have d1:decide ((i:Int)<(i:Int))=false:=by simp
  refine Go1.mk ?_;repeat' ((first|(with_reducible refine Go1.go ?_)|((with_reducible refine isCall (f:=59) ?_);refine callA ?_)|((with_reducible refine isCallS (f:=59) ?_);refine (sort_ok ul nr R ho NN hc (List.range i) i (List.pairwise_lt_range) (fun x hx=>by rw[List.mem_range]at hx;omega) List.length_range hN2 (fun Z M2 z1 z2 z3=>Stop.mk ?_)))|(refine And.intro ?_ ?_;(try simp only[sxO]at *);omega)|fail)<;>(try simp (maxSteps:=1000000) only [osSt,d1,cE_ment,cE_kill,frC_ment,frC_kill,hasK_nil,↓hold_pre,awayP,runOps,regK,step1,newK,genR,appR,obl,buildR,Value.cells,closeK,keepH,outV,retK,ret1,retC,RetV,Option.getD,runD,stepD,afterK,undef,simprocAttr,sxB,↓sxD,sxE,sxTab]))
  have hk:=fun v M3 h1 h2 h3=>hK v Z M3 h1 z2 z3 h2 h3
  have zl:(Z.map natV).length=i:=by rw[List.length_map,z2.length_eq,List.length_range]
  refine Stop.go ?_
  refine Go1.mk ?_;repeat' ((first|(with_reducible refine Go1.go ?_)|(refine And.intro ?_ ?_;(try simp only[sxO]at *);omega)|fail)<;>(try simp (maxSteps:=1000000) only [cE_ment,cE_kill,frC_ment,frC_kill,hasK_nil,↓hold_pre,awayP,runOps,regK,step1,newK,genR,appR,obl,buildR,Value.cells,closeK,keepH,outV,retK,ret1,retC,RetV,Option.getD,runD,stepD,afterK,undef,simprocAttr,sxB,↓sxD,sxE,sxTab]))
  refine FrzF.keep (Z.map natV) rfl zl (by simp[mentH,mentL,AV.ment,frC_ment,hasK]) rfl fun v M3 h1 h2 h3=>hk v M3 (z1.trans h1) ?_ (h3.le z1)
  rw[←zl,List.length_map]at h2
  exact h2
end
theorem cmpN_anti(a b:Nat):cmpN a b=- cmpN b a:=by
 unfold cmpN
 (repeat' split)<;>omega
theorem cmpN_le0{a b:Nat}:cmpN a b≤0↔a≤b:=by
 unfold cmpN
 (repeat' split)<;>omega
theorem cmpN_mul{a b k:Nat}(hk:0<k):cmpN (a*k) (b*k)=cmpN a b:=by
 unfold cmpN
 have h1:a*k<b*k↔a<b:=Nat.mul_lt_mul_right hk
 have h2:a*k=b*k↔a=b:=Nat.mul_left_inj (by omega)
 simp only[h1,h2]
theorem cmpF_pos{a b c d:List Nat}(h1:chkF a b=true)(h2:chkF c d=true):cmpF a b c d=cmpN (valN a*valN d) (valN c*valN b):=by
 unfold cmpF;rw[h1,h2,Bool.and_self,if_pos rfl]
theorem cmpF_anti(a b c d:List Nat):cmpF a b c d=- cmpF c d a b:=by
 unfold cmpF
 rw[Bool.and_comm (chkF c d)]
 split
 ·exact cmpN_anti _ _
 ·rfl
theorem chkF_pos{a b:List Nat}(h:chkF a b=true):0<valN b:=by
 unfold chkF at h
 simp only[Bool.and_eq_true,Bool.not_eq_true',decide_eq_false_iff_not]at h
 omega
theorem cmpF_tr{a b c d e f:List Nat}(h1:chkF a b=true)(h2:chkF c d=true)(h3:chkF e f=true)(g1:cmpF a b c d≤0)(g2:cmpF c d e f≤0):cmpF a b e f≤0:=by
 rw[cmpF_pos h1 h2,cmpN_le0]at g1
 rw[cmpF_pos h2 h3,cmpN_le0]at g2
 rw[cmpF_pos h1 h3,cmpN_le0]
 have p2:=chkF_pos h2
 have q1:=Nat.mul_le_mul_right (valN f) g1
 have q2:=Nat.mul_le_mul_right (valN b) g2
 refine Nat.le_of_mul_le_mul_right (c:=valN d) ?_ p2
 calc valN a*valN f*valN d=valN a*valN d*valN f:=by rw[Nat.mul_right_comm]
  _≤valN c*valN b*valN f:=q1
  _=valN c*valN f*valN b:=by rw[Nat.mul_right_comm]
  _≤valN e*valN d*valN b:=q2
  _=valN e*valN b*valN d:=by rw[Nat.mul_right_comm]
structure RateOK (r:FR) (x:IR):Prop where
 chk:chkF r.l1 r.l2=true
 eq:valN r.l1*(x.cost.toNat*valN x.l2)=valN x.l1*valN r.l2
def ratC(L:List IR)(x y:Nat):Int:=or3 (cmpN (valN (itA L y).l1*((itA L x).cost.toNat*valN (itA L x).l2)) (valN (itA L x).l1*((itA L y).cost.toNat*valN (itA L y).l2))) (cmpS (itA L x).pk (itA L y).pk) (cmpS (itA L x).ts (itA L y).ts)
theorem chk_frD:chkF frD.l1 frD.l2=true:=by decide +kernel
theorem ordC_pre{L:List IR}{R:List FR}(hR:∀r∈R,chkF r.l1 r.l2=true):PreO (ordC L R):=by
 have h:∀x,chkF (frA R x).l1 (frA R x).l2=true:=fun x=>by
  by_cases hx:x<R.length
  ·rw[frA_in hx];exact hR _ (List.getElem_mem hx)
  ·have:frA R x=frD:=by unfold frA;rw[List.getElem?_eq_none (by omega)];rfl
   rw[this];exact chk_frD
 have h1:PreO (fun x y=>cmpF (frA R y).l1 (frA R y).l2 (frA R x).l1 (frA R x).l2):=⟨fun x y=>cmpF_anti _ _ _ _,fun x y z g1 g2=>cmpF_tr (h z) (h y) (h x) g2 g1⟩
 exact h1.lex ((cmp_S.pre fun x=>(itA L x).pk).lex (cmp_S.pre fun x=>(itA L x).ts))
theorem ordC_rat{L:List IR}{R:List FR}(hl:R.length=L.length)(hR:∀i (h:i<L.length),RateOK (R[i]'(by omega)) L[i])(hc:∀x∈L,chkI x=true){x y:Nat}(hx:x<L.length)(hy:y<L.length):ordC L R x y=ratC L x y:=by
 unfold ordC ratC
 rw[frA_in (by omega),frA_in (by omega)]
 have r1:=hR x hx
 have r2:=hR y hy
 have e1:=r1.eq
 have e2:=r2.eq
 rw[←itA_in hx]at e1
 rw[←itA_in hy]at e2
 rw[cmpF_pos r2.chk r1.chk]
 have c1:=hc _ (List.getElem_mem hx)
 have c2:=hc _ (List.getElem_mem hy)
 rw[←itA_in hx]at c1
 rw[←itA_in hy]at c2
 have pos:∀z:IR,chkI z=true→0<z.cost.toNat*valN z.l2:=fun z hz=>by
  unfold chkI at hz
  simp only[Bool.and_eq_true,decide_eq_true_eq]at hz
  exact Nat.mul_pos (by omega) (chkF_pos hz.1.1.1.1)
 have p1:=pos _ c1
 have p2:=pos _ c2
 generalize (itA L x).cost.toNat*valN (itA L x).l2=kx at *
 generalize (itA L y).cost.toNat*valN (itA L y).l2=ky at *
 congr 1
 rw[←cmpN_mul (a:=valN (R[y]'(by omega)).l1*valN (R[x]'(by omega)).l2) (Nat.mul_pos p1 p2),←cmpN_mul (a:=valN (itA L y).l1*kx) (Nat.mul_pos (chkF_pos r1.chk) (chkF_pos r2.chk))]
 generalize valN (R[x]'(by omega)).l1=n1 at *
 generalize valN (R[y]'(by omega)).l1=n2 at *
 generalize valN (R[x]'(by omega)).l2=d1 at *
 generalize valN (R[y]'(by omega)).l2=d2 at *
 have a1:n2*d1*(kx*ky)=valN (itA L y).l1*kx*(d1*d2):=by
  calc n2*d1*(kx*ky)=(n2*ky)*(d1*kx):=by ac_rfl
   _=(valN (itA L y).l1*d2)*(d1*kx):=by rw[e2]
   _=_:=by ac_rfl
 have a2:n1*d2*(kx*ky)=valN (itA L x).l1*ky*(d1*d2):=by
  calc n1*d2*(kx*ky)=(n1*kx)*(d2*ky):=by ac_rfl
   _=(valN (itA L x).l1*d1)*(d2*ky):=by rw[e1]
   _=_:=by ac_rfl
 rw[a1,a2]
theorem cells_sl{u:Value}(h:isSl u=true):u.cells=#[u]:=by
 cases u<;>first|rfl|(simp[isSl]at h)
def frN:FR:=⟨.slice none 0 0,.slice none 0 0,[],[]⟩
theorem repN_fr:∀n:Nat,(repN [.slice none 0 0,.slice none 0 0] n).map AV.ext=frC (List.replicate n frN)
 | 0=>rfl
 | n+1=>by
  have ih:=repN_fr n
  rw[List.replicate_succ]
  unfold frC at ih ⊢
  rw[List.flatMap_cons,List.map_append,←ih]
  rfl
theorem frC_set{R:List FR}{i:Nat}(h:i<R.length)(x:FR):(frC R).take (i*2)++([.ext x.u1,.ext x.u2]++(frC R).drop (i*2+2))=frC (R.set i x):=by
 have e:R=R.take i++R[i] :: R.drop (i+1):=by rw[←List.drop_eq_getElem_cons h,List.take_append_drop]
 have hl:(R.take i).length=i:=by rw[List.length_take];omega
 have e2:R.set i x=R.take i++x :: R.drop (i+1):=by rw[List.set_eq_take_append_cons_drop,if_pos h]
 have e3:frC R=frC (R.take i)++(.ext R[i].u1 :: .ext R[i].u2 :: frC (R.drop (i+1))):=by
  refine (congrArg frC e).trans ?_
  unfold frC;simp only[List.flatMap_append,List.flatMap_cons,List.map_append,FR.c];rfl
 have e4:(frC (R.take i)).length=i*2:=by rw[frC_len,hl]
 rw[e2,e3,List.take_left' e4,show i*2+2=(frC (R.take i)).length+2 by omega,List.drop_append,List.drop_eq_nil_of_le (by omega),Nat.add_sub_cancel_left]
 unfold frC;simp[FR.c]
def ordE(L:List IR):Int:=if chkIL L then 0 else 1
def ordS(L:List IR)(Z:List Nat):Prop:=if chkIL L then Z.Perm (List.range L.length)∧Z.Pairwise (ltS (ratC L)) else Z=[]
theorem chkI_parts{x:IR}(h:chkI x=true):chkF x.l1 x.l2=true∧x.l1.length≤1∧x.l2.length≤1∧1≤x.cost∧x.cost≤1048576:=by
 unfold chkI at h
 simp only[Bool.and_eq_true,decide_eq_true_eq]at h
 exact ⟨h.1.1.1.1,h.1.1.1.2,h.1.1.2,h.1.2,h.2⟩
theorem rate_is{x:IR}{M:Mem}(hx:x.ok M)(h:chkI x=true):∃n d,divF x.l1 x.l2 (ofN x.cost.toNat) (ofN 1)=(0,n,d)∧(∀r:FR,r.l1=ofN n→r.l2=ofN d→RateOK r x)∧(ofN n).length≤128∧(ofN d).length≤128:=by
 obtain ⟨h1,h2,h3,h4,h5⟩:=chkI_parts h
 obtain ⟨e1,e2,b1,b2,p,hg⟩:=chkF_ok hx.f.on hx.f.od h1
 have hk:(ofN x.cost.toNat).length≤1:=ofN_len_le (by rw[show wN 1=4294967296 from rfl];omega)
 have h1':(ofN 1).length≤1:=by rw[ofN_u32 (by decide) (by decide)];decide
 have hc:chkF (ofN x.cost.toNat) (ofN 1)=true:=by
  unfold chkF
  rw[chkN_ofN (by omega),chkN_ofN (by omega),valN_ofN,valN_ofN,Nat.gcd_one_right];rfl
 have hl:=mul_len x.cost.toNat (valN x.l2)
 rw[←e2]at hl
 have hn1:(ofN (valN x.l1)).length≤2:=by rw[←e1];omega
 obtain ⟨n,d,q1,q2,q3,q4,q5,q6⟩:=exF_low (x:=valN x.l1*1) (y:=x.cost.toNat*valN x.l2) (k:=2) (Nat.mul_pos (by omega) p) (by rw[Nat.mul_one];exact hn1) (by omega) (by decide)
 refine ⟨n,d,?_,fun r r1 r2=>⟨?_,?_⟩,by omega,by omega⟩
 ·unfold divF
  rw[h1,hc,Bool.and_self,if_pos rfl,valN_ofN,valN_ofN,if_neg (by omega),q1]
 ·rw[r1,r2]
  unfold chkF
  rw[chkN_ofN (by omega),chkN_ofN (by omega),valN_ofN,valN_ofN,q3,decide_eq_false (by omega)];rfl
 ·rw[r1,r2,valN_ofN,valN_ofN,q2,Nat.mul_one]
section
variable {M:Mem}{K:AV→Hp→Mem→Prop}{u:Value}{L:List IR}
def orSt(M:Mem)(u:Value)(n i:Nat)(R:List FR):St:={env:=[(15,.ext (.int .i64 (i:Int))),(14,.ext (.int .i64 (n:Int))),(13,.ext u),(4,.own 4 0),(1,.own 1 0)],hp:=[(1,26,[.ext u]),(4,66,[.slo 12 0 n 2]),(12,34,frC R)],M:=M,kb:=0,fx:=[]}
theorem order_ok(hu:IsR M 5 IR.c u L)(hL:okIL M L)(hb:L.length<1000000)(hK:∀v Z M',Mem.le M M'→ordS L Z→IsL M' natV v Z→FreshS M v→K (.ext (.tuple #[v,.int .i64 (ordE L)])) [] M'):CallS Try.prog 11 [.ext u] [] M [] K:=by
 have hce:u.cells=#[u]:=cells_sl hu.sl
 unfold Value.cells at hce
 refine inlS (cs:=[]) Try.mixed Try.func11 rfl (by kernel_rfl) 0 rfl rfl ?_
 simp only[Try.f11]
 refine Go1.mk ?_;repeat' ((first|(with_reducible refine Go1.go ?_)|(((with_reducible refine isCall (f:=28) ?_);refine callA_nil (by kernel_rfl) ?_;refine (ocheck_ok hu hL hb (fun M1 m1=>Stop.mk ?_))))|(refine And.intro ?_ ?_;(try simp only[sxO]at *);omega)|fail)<;>(try simp (maxSteps:=1000000) only [hu.one,hce,↓hold_pre,awayP,runOps,regK,step1,newK,genR,appR,obl,buildR,Value.cells,closeK,keepH,outV,retK,ret1,retC,RetV,Option.getD,runD,stepD,afterK,undef,simprocAttr,sxB,↓sxD,sxE,sxTab]))
 have m1:Mem.le M M1:=m1
 unfold ordE ordS at hK
 cases hc:chkIL L with
 | false=>
  rw[hc]at hK
  have hk:=hK (.slice none 0 0) [] M1 m1 (by simp) (isL_nil _ _ _) (freshS_nil _ _)
  refine Stop.go ?_
  refine Go1.mk ?_;repeat' ((first|(with_reducible refine Go1.go ?_)|(refine And.intro ?_ ?_;(try simp only[sxO]at *);omega)|fail)<;>(try simp (maxSteps:=1000000) only [↓hold_pre,awayP,runOps,regK,step1,newK,genR,appR,obl,buildR,Value.cells,closeK,keepH,outV,retK,ret1,retC,RetV,Option.getD,runD,stepD,afterK,undef,simprocAttr,sxB,↓sxD,sxE,sxTab]))
  exact hk
 | true=>
  rw[hc]at hK
  simp only[if_true]at hK
  have hu1:=hu.le m1
  have hL1:=hL.le m1
  have hcc:=hc
  unfold chkIL at hcc
  simp only[Bool.and_eq_true,decide_eq_true_eq]at hcc
  obtain ⟨h64,hall⟩:=hcc
  have hall:=List.all_eq_true.1 hall
  have t1:=Int.toNat_natCast L.length
  have t2:=repN_fr L.length
  refine Stop.go ?_
  refine Go1.mk ?_;repeat' ((first|(with_reducible refine Go1.go ?_)|(refine And.intro ?_ ?_;(try simp only[sxO]at *);omega)|fail)<;>(try simp (maxSteps:=1000000) only [hu1.one,hu1.len,hu1.sl,t1,t2,frC_ment,frC_kill,hasK_nil,List.nil_append,↓hold_pre,awayP,runOps,regK,step1,newK,genR,appR,obl,buildR,Value.cells,closeK,keepH,outV,retK,ret1,retC,RetV,Option.getD,runD,stepD,afterK,undef,simprocAttr,sxB,↓sxD,sxE,sxTab]))
  refine ⟨fun m z=>∃M' R i,m=L.length-i∧i≤L.length∧Mem.le M M'∧okFL M' R∧R.length=L.length∧(∀j (h:j<L.length) (h2:j<R.length),j<i→RateOK R[j] L[j])∧z=orSt M' u L.length i R,
   ⟨L.length,orSt M1 u L.length 0 (List.replicate L.length frN),le_sub ⟨rfl,rfl,rfl,rfl,rfl,trivial⟩ ⟨rfl,rfl,rfl,trivial⟩ rfl rfl rfl (keepLt0 _),⟨M1,_,0,by omega,by omega,m1,fun x hx=>by
    obtain rfl:=(List.mem_replicate.1 hx).2
    exact ⟨isL_nil _ _ _,isL_nil _ _ _,by simp[okN,frN],by simp[okN,frN],by simp[frN],by simp[frN]⟩,List.length_replicate,fun j _ _ h=>by omega,rfl⟩⟩,?_⟩
  clear t1 t2 hu1 hL1 m1
  rintro m z ⟨M2,R,i,rfl,hi,hM,hR,hRl,hrate,rfl⟩
  have hu2:=hu.le hM
  have hL2:=hL.le hM
  have hfl:=frC_len R
  by_cases hlt:i<L.length
  case neg=>
   obtain rfl:i=L.length:=by omega
   have e1:decide ((L.length:Int)<(L.length:Int))=false:=by simp
   have hr:∀j (h:j<L.length),RateOK (R[j]'(by omega)) L[j]:=fun j h=>hrate j h (by omega) h
   have ho:CmpO (ordC L R):=(ordC_pre fun r hr2=>by
    obtain ⟨j,hj,rfl⟩:=List.getElem_of_mem hr2
    exact (hr j (by omega)).chk).cmp
   refine Go1.mk ?_;repeat' ((first|(with_reducible refine Go1.go ?_)|((with_reducible refine isCall (f:=37) ?_);refine callA ?_)|((with_reducible refine isCallS (f:=37) ?_);refine (sorted_ok ho L.length (ocmp_ok hu2 hL2 hb hR hRl) L.length (Nat.le_refl _) hb (fun v Z M3 z1 z2 z3 z4 z5=>Stop.mk ?_)))|(refine And.intro ?_ ?_;(try simp only[sxO]at *);omega)|fail)<;>(try simp (maxSteps:=1000000) only [orSt,hu2.one,hu2.len,hu2.sl,e1,frC_ment,frC_kill,hasK_nil,↓hold_pre,awayP,runOps,regK,step1,newK,genR,appR,obl,buildR,Value.cells,closeK,keepH,outV,retK,ret1,retC,RetV,Option.getD,runD,stepD,afterK,undef,simprocAttr,sxB,↓sxD,sxE,sxTab]))
   have hk:=hK v Z M3 (hM.trans z1) ⟨z2,z3.imp_of_mem fun {x y} hx hy h=>by
    have hx:=List.mem_range.1 (z2.subset hx)
    have hy:=List.mem_range.1 (z2.subset hy)
    unfold ltS at h ⊢
    rw[←ordC_rat hRl hr hall hx hy];exact h⟩ z4 (z5.le hM)
   refine Stop.go ?_
   refine Go1.mk ?_;repeat' ((first|(with_reducible refine Go1.go ?_)|(refine And.intro ?_ ?_;(try simp only[sxO]at *);omega)|fail)<;>(try simp (maxSteps:=1000000) only [z4.one,frC_ment,frC_kill,hasK_nil,↓hold_pre,awayP,runOps,regK,step1,newK,genR,appR,obl,buildR,Value.cells,closeK,keepH,outV,retK,ret1,retC,RetV,Option.getD,runD,stepD,afterK,undef,simprocAttr,sxB,↓sxD,sxE,sxTab]))
   exact hk
  have e1:decide ((i:Int)<(L.length:Int))=true:=by rw[decide_eq_true_eq];omega
  have b1:(0:Int)≤(i:Int):=by omega
  have b2:(i:Int)<(L.length:Int):=by omega
  have hnn:=hu2.nn hlt
  have hat:=hu2.at (P:=Try.prog) (T:=46) (fun _=>rfl) tk46 tz46 hlt
  have hmem:=List.getElem_mem hlt
  have hF:=hL2 _ hmem
  have hci:=hall _ hmem
  obtain ⟨n,d,q1,q2,q3,q4⟩:=rate_is hF hci
  obtain ⟨_,_,_,p1,p2⟩:=chkI_parts hci
  have hnext:∀r:FR,r.l1=ofN n→r.l2=ofN d→∀j (h:j<L.length) (h2:j<(R.set i r).length),j<i+1→RateOK (R.set i r)[j] L[j]:=fun r r1 r2 j h h2 h3=>by
   rw[List.getElem_set]
   by_cases hj:i=j
   ·subst hj
    rw[if_pos rfl];exact q2 r r1 r2
   ·rw[if_neg hj]
    exact hrate j h (by omega) (by omega)
  have wi:IntKind.i64.wrap ((i:Int)+1)=((i+1:Nat):Int):=succ_i (by omega)
  generalize L[i]=x at *
  obtain ⟨pk,ts,x1,x2,y1,y2,co⟩:=x
  have hat:lookM Try.prog 46 M2 (elemP u 5 i)=some (.agg #[.string (bs pk),.string (bs ts),x1,x2,.int .i64 co]):=hat
  have hF1:IsF M2 x1 x2 y1 y2:=hF.f
  simp only at q1 p1 p2
  obtain ⟨k,rfl⟩:=Int.eq_ofNat_of_zero_le (show 0≤co by omega)
  rw[Int.toNat_natCast]at q1
  have hkl:(ofN k).length≤2:=ofN_len_le (by rw[show wN 2=18446744073709551616 from rfl];omega)
  have h1l:(ofN 1).length≤2:=by rw[ofN_u32 (by decide) (by decide)];decide
  have j1:i*2+2≤R.length*2:=by omega
  clear hK
  refine Go1.mk ?_;repeat' ((first|(with_reducible refine Go1.go ?_)|(((with_reducible refine isCall0 (f:=36) ?_);refine callA0_nil (by kernel_rfl) ?_;refine (whole_ok k (by omega) (fun w1 w2 M3 c1 c2 c3 c4 c5=>Stop.mk ?_))))|((with_reducible refine isDraw [some 21,some 22,some 23,some 24,some 25,some 26,some 27,some 28,some 20,some 29,some 30,some 31,none] (by decide) ?_);refine draw_rule [(0,[]),(1,[0]),(2,[0]),(3,[0]),(4,[0,3]),(5,[0,3]),(6,[0,3]),(7,[0]),(8,[0]),(9,[0]),(10,[0]),(11,[]),(12,[])] [[],[],[],[2],[],[4],[4,5],[2,3,4,5,6],[2,3,4,5,6,7],[2,3,4,5,6,7,8],[2,3,4,5,6,7,8],[0,1,2,3,4,5,6,7,8,9],[0,1,2,3,4,5,6,7,8,9,11]] [21,22,23,24,25,26,27,28,20,29,30,31] [] (by kernel_rfl) (by kernel_rfl) (by kernel_rfl) (by kernel_rfl) (by exact trivial) ?_)|(refine And.intro ?_ ?_;(try simp only[sxO]at *);omega)|fail)<;>(try simp (maxSteps:=1000000) only [orSt,hu2.one,hu2.len,hu2.sl,hnn,e1,b1,b2,hat,hF1.n.one,hF1.d.one,frC_ment,frC_kill,hasK_nil,hfl,hRl,bs_mk,bs_app,bs_ext,bs_size,bs_toList,bs_at,bs_cells,List.take_length,imp_ga,guard_pk,guard_pk2,↓hold_pre,awayP,runOps,regK,step1,newK,genR,appR,obl,buildR,Value.cells,closeK,keepH,outV,retK,ret1,retC,RetV,Option.getD,runD,stepD,afterK,undef,simprocAttr,sxB,↓sxD,sxE,sxTab]))
  have c1:Mem.le M2 M3:=c1
  have hF3:=hF1.le c1
  refine Stop.go ?_
  refine Go1.mk ?_;repeat' ((first|(with_reducible refine Go1.go ?_)|(((with_reducible refine isCall0 (f:=35) ?_);refine callA0_nil (by kernel_rfl) ?_;refine (fdiv_ok hF3 ⟨c2,c3,okN_ofN _,okN_ofN _,by omega,by omega⟩ (fun v1 v2 M4 f1 f2 f3 f4 f5=>Stop.mk ?_))))|((with_reducible refine isDraw [some 21,some 22,some 23,some 24,some 25,some 26,some 27,some 28,some 20,some 29,some 30,some 31,none] (by decide) ?_);refine draw_rule [(0,[]),(1,[0]),(2,[0]),(3,[0]),(4,[0,3]),(5,[0,3]),(6,[0,3]),(7,[0]),(8,[0]),(9,[0]),(10,[0]),(11,[]),(12,[])] [[],[],[],[2],[],[4],[4,5],[2,3,4,5,6],[2,3,4,5,6,7],[2,3,4,5,6,7,8],[2,3,4,5,6,7,8],[0,1,2,3,4,5,6,7,8,9],[0,1,2,3,4,5,6,7,8,9,11]] [21,22,23,24,25,26,27,28,20,29,30,31] [] (by kernel_rfl) (by kernel_rfl) (by kernel_rfl) (by kernel_rfl) (by exact trivial) ?_)|(refine And.intro ?_ ?_;(try simp only[sxO]at *);omega)|fail)<;>(try simp (maxSteps:=1000000) only [hF3.n.one,hF3.d.one,c2.one,c3.one,frC_ment,frC_kill,hasK_nil,hfl,hRl,bs_mk,bs_app,bs_ext,bs_size,bs_toList,bs_at,bs_cells,List.take_length,imp_ga,guard_pk,guard_pk2,↓hold_pre,awayP,runOps,regK,step1,newK,genR,appR,obl,buildR,Value.cells,closeK,keepH,outV,retK,ret1,retC,RetV,Option.getD,runD,stepD,afterK,undef,simprocAttr,sxB,↓sxD,sxE,sxTab]))
  have f1:Mem.le M3 M4:=f1
  rw[q1]at f2 f3
  have hset:(frC R).take (i*2)++(.ext v1 :: .ext v2 :: (frC R).drop (i*2+2))=frC (R.set i ⟨v1,v2,ofN n,ofN d⟩):=frC_set (R:=R) (i:=i) (by omega) ⟨v1,v2,ofN n,ofN d⟩
  refine Stop.go ?_
  refine Go1.mk ?_;repeat' ((first|(with_reducible refine Go1.go ?_)|((with_reducible refine isDraw [some 21,some 22,some 23,some 24,some 25,some 26,some 27,some 28,some 20,some 29,some 30,some 31,none] (by decide) ?_);refine draw_rule [(0,[]),(1,[0]),(2,[0]),(3,[0]),(4,[0,3]),(5,[0,3]),(6,[0,3]),(7,[0]),(8,[0]),(9,[0]),(10,[0]),(11,[]),(12,[])] [[],[],[],[2],[],[4],[4,5],[2,3,4,5,6],[2,3,4,5,6,7],[2,3,4,5,6,7,8],[2,3,4,5,6,7,8],[0,1,2,3,4,5,6,7,8,9],[0,1,2,3,4,5,6,7,8,9,11]] [21,22,23,24,25,26,27,28,20,29,30,31] [] (by kernel_rfl) (by kernel_rfl) (by kernel_rfl) (by kernel_rfl) (by exact trivial) ?_)|(refine And.intro ?_ ?_;(try simp only[sxO]at *);omega)|fail)<;>(try simp (maxSteps:=1000000) only [f2.one,f3.one,wi,hset,frC_ment,frC_kill,hasK_nil,hfl,hRl,j1,b1,b2,bs_mk,bs_app,bs_ext,bs_size,bs_toList,bs_at,bs_cells,List.take_length,imp_ga,guard_pk,guard_pk2,↓hold_pre,awayP,runOps,regK,step1,newK,genR,appR,obl,buildR,Value.cells,closeK,keepH,outV,retK,ret1,retC,RetV,Option.getD,runD,stepD,afterK,undef,simprocAttr,sxB,↓sxD,sxE,sxTab]))
  exact ⟨L.length-(i+1),orSt M4 u L.length (i+1) (R.set i ⟨v1,v2,ofN n,ofN d⟩),by omega,le_sub ⟨rfl,rfl,rfl,rfl,rfl,trivial⟩ ⟨rfl,rfl,rfl,trivial⟩ rfl rfl rfl (keepLt0 _),M4,R.set i ⟨v1,v2,ofN n,ofN d⟩,i+1,rfl,by omega,(hM.trans c1).trans f1,fun r hr=>by
   rcases List.mem_or_eq_of_mem_set hr with h|rfl
   ·exact ((hR _ h).le c1).le f1
   ·exact ⟨f2,f3,okN_ofN _,okN_ofN _,by simp only;omega,by simp only;omega⟩,by rw[List.length_set];exact hRl,hnext _ rfl rfl,rfl⟩
end
theorem nodup_part{α:Type}[DecidableEq α]:∀{A o:List α},A.Nodup→(∀x∈A,x∈o)→∃r,o.Perm (A++r)
 | [],o,_,_=>⟨o,List.Perm.refl _⟩
 | a :: A,o,hn,hs=>by
  have ha:=hs a List.mem_cons_self
  have hn2:=List.nodup_cons.1 hn
  obtain ⟨r,hr⟩:=nodup_part (A:=A) (o:=o.erase a) hn2.2 fun x hx=>by
   have hne:x≠a:=fun e=>hn2.1 (e▸hx)
   exact (List.mem_erase_of_ne hne).2 (hs x (List.mem_cons_of_mem _ hx))
  exact ⟨r,(List.perm_cons_erase ha).trans (hr.cons a)⟩
theorem nodup_full{α:Type}[DecidableEq α]{A o:List α}(hn:A.Nodup)(hs:∀x∈A,x∈o)(hl:o.length≤A.length):o.Perm A:=by
 obtain ⟨r,hr⟩:=nodup_part hn hs
 have h1:=hr.length_eq
 rw[List.length_append]at h1
 have:r=[]:=List.length_eq_zero_iff.1 (by omega)
 rw[this,List.append_nil]at hr
 exact hr
def placesI(n:Nat):List Int:=(List.range n).map Int.ofNat
theorem placesI_nodup(n:Nat):(placesI n).Nodup:=List.Pairwise.map _ (fun a b h e=>h (Int.ofNat.inj e)) List.nodup_range
theorem mem_placesI{n:Nat}{x:Int}:x∈placesI n↔0≤x∧x<n:=by
 unfold placesI
 rw[List.mem_map]
 constructor
 ·rintro ⟨a,h1,rfl⟩
  have:=List.mem_range.1 h1
  exact ⟨Int.natCast_nonneg _,by simpa using this⟩
 ·rintro ⟨h1,h2⟩
  obtain ⟨k,rfl⟩:=Int.eq_ofNat_of_zero_le h1
  exact ⟨k,List.mem_range.2 (by omega),rfl⟩
theorem placesI_len(n:Nat):(placesI n).length=n:=by unfold placesI;simp
def permB(n:Nat)(o:List Int):Bool:=decide (o.length=n)&&(placesI n).all fun i=>o.contains i
theorem permB_iff{n:Nat}{o:List Int}:permB n o=true↔o.Perm (placesI n):=by
 unfold permB
 rw[Bool.and_eq_true,decide_eq_true_eq,List.all_eq_true]
 constructor
 ·rintro ⟨h1,h2⟩
  exact nodup_full (placesI_nodup n) (fun x hx=>by simpa using h2 x hx) (by rw[placesI_len];omega)
 ·intro h
  exact ⟨by rw[h.length_eq,placesI_len],fun x hx=>by simpa using h.symm.subset hx⟩
theorem permB_of{n:Nat}{o:List Int}(h1:o.Nodup)(h2:∀x∈o,0≤x∧x<n)(h3:o.length=n):permB n o=true:=permB_iff.2 (nodup_full h1 (fun x hx=>mem_placesI.2 (h2 x hx)) (by rw[placesI_len];omega)).symm
theorem permB_bad{n:Nat}{o:List Int}(h:¬(o.Nodup∧∀x∈o,0≤x∧x<n)):permB n o=false:=by
 cases hb:permB n o with
 | false=>rfl
 | true=>
  have hp:=permB_iff.1 hb
  exact absurd ⟨hp.symm.nodup (placesI_nodup n),fun x hx=>mem_placesI.1 (hp.subset hx)⟩ h
def errO(L:List IR)(o:List Int):Int:=if chkIL L then (if permB L.length o then 0 else 40) else 1
def boV(b:Bool):Value:=.bool b
def seenL(n i:Nat)(o:List Int):List Bool:=(List.range n).map fun (k:Nat)=>(o.take i).contains (k:Int)
theorem seenL_len(n i:Nat)(o:List Int):(seenL n i o).length=n:=by unfold seenL;simp
theorem seenL_at{n i k:Nat}{o:List Int}(h:k<n):(cE boV (seenL n i o))[k]? = some (.ext (.bool ((o.take i).contains (k:Int)))):=by
 rw[cE_at boV (by rw[seenL_len];exact h)];unfold seenL;simp[boV]
theorem seenL_get{n i j:Nat}{o:List Int}(h:j<(seenL n i o).length):(seenL n i o)[j]=(o.take i).contains (j:Int):=by simp[seenL]
theorem seenL_set{n i k:Nat}{o:List Int}(hi:i<o.length)(hk:o[i]=(k:Int)):(cE boV (seenL n i o)).set k (.ext (.bool true))=cE boV (seenL n (i+1) o):=by
 have h1:=cE_set boV (seenL n i o) k true
 refine h1.trans ?_
 congr 1
 refine List.ext_getElem (by simp[seenL]) fun j h2 h3=>?_
 rw[List.getElem_set,seenL_get h3]
 have e:o.take (i+1)=o.take i++[(k:Int)]:=by rw[List.take_add_one,List.getElem?_eq_getElem hi,hk];rfl
 rw[e]
 by_cases e:k=j
 ·subst e;simp
 ·have:¬((j:Int)=(k:Int)):=by omega
  rw[if_neg e,seenL_get];simp[this]
theorem repN_bool(n:Nat):∀(o:List Int),(repN [.bool false] n).map AV.ext=cE boV (seenL n 0 o):=fun o=>by
 have h:∀m,(repN [.bool false] m).map AV.ext=List.replicate m (.ext (.bool false)):=fun m=>by
  induction m with
  | zero=>rfl
  | succ m ih=>rw[List.replicate_succ,←ih];rfl
 rw[h]
 unfold cE seenL
 refine List.ext_getElem (by simp) fun j h2 h3=>by simp[boV]
section
variable {M:Mem}{K:AV→Hp→Mem→Prop}{u v:Value}{L:List IR}{o:List Int}
def ocSt(M:Mem)(v w:Value)(n i l:Nat)(o:List Int):St:={env:=[(16,.ext (.int .i64 (i:Int))),(15,.ext (.int .i64 (l:Int))),(14,.ext v),(5,.slo 13 0 n 1),(4,.ext (.int .i64 0)),(1,.ext v),(0,.ext w)],hp:=[(13,4,cE boV (seenL n i o))],M:=M,kb:=0,fx:=[]}
theorem ocheckO_ok(hu:IsR M 5 IR.c u L)(hL:okIL M L)(hb:L.length<1000000)(hv:IsL M intV64 v o)(hb2:o.length<1000000)(hK:∀M',Mem.le M M'→K (.ext (.int .i64 (errO L o))) [] M'):CallS Try.prog 41 [.ext u,.ext v] [] M [] K:=by
 refine inlS (cs:=[]) Try.mixed Try.func41 rfl (by kernel_rfl) 0 rfl rfl ?_
 simp only[Try.f41]
 refine Go1.mk ?_;repeat' ((first|(with_reducible refine Go1.go ?_)|(((with_reducible refine isCall (f:=28) ?_);refine callA_nil (by kernel_rfl) ?_;refine (ocheck_ok hu hL hb (fun M1 m1=>Stop.mk ?_))))|(refine And.intro ?_ ?_;(try simp only[sxO]at *);omega)|fail)<;>(try simp (maxSteps:=1000000) only [hu.one,hv.one,↓hold_pre,awayP,runOps,regK,step1,newK,genR,appR,obl,buildR,Value.cells,closeK,keepH,outV,retK,ret1,retC,RetV,Option.getD,runD,stepD,afterK,undef,simprocAttr,sxB,↓sxD,sxE,sxTab]))
 have m1:Mem.le M M1:=m1
 unfold errO at hK
 cases hc:chkIL L with
 | false=>
  rw[hc]at hK
  have hk:=hK M1 m1
  refine Stop.go ?_
  refine Go1.mk ?_;repeat' ((first|(with_reducible refine Go1.go ?_)|(refine And.intro ?_ ?_;(try simp only[sxO]at *);omega)|fail)<;>(try simp (maxSteps:=1000000) only [↓hold_pre,awayP,runOps,regK,step1,newK,genR,appR,obl,buildR,Value.cells,closeK,keepH,outV,retK,ret1,retC,RetV,Option.getD,runD,stepD,afterK,undef,simprocAttr,sxB,↓sxD,sxE,sxTab]))
  exact hk
 | true=>
  rw[hc]at hK
  simp only[if_true]at hK
  have hu1:=hu.le m1
  have hv1:=hv.le m1
  have t1:=Int.toNat_natCast L.length
  have t2:=repN_bool L.length o
  refine Stop.go ?_
  refine Go1.mk ?_;repeat' ((first|(with_reducible refine Go1.go ?_)|(refine And.intro ?_ ?_;(try simp only[sxO]at *);omega)|fail)<;>(try simp (maxSteps:=1000000) only [hu1.one,hu1.len,hu1.sl,hv1.one,hv1.len,hv1.sl,t1,t2,cE_ment,cE_kill,hasK_nil,List.nil_append,↓hold_pre,awayP,runOps,regK,step1,newK,genR,appR,obl,buildR,Value.cells,closeK,keepH,outV,retK,ret1,retC,RetV,Option.getD,runD,stepD,afterK,undef,simprocAttr,sxB,↓sxD,sxE,sxTab]))
  refine ⟨fun m z=>∃i,m=o.length-i∧i≤o.length∧(o.take i).Nodup∧(∀x∈o.take i,0≤x∧x<(L.length:Int))∧z=ocSt M1 v u L.length i o.length o,
   ⟨o.length,ocSt M1 v u L.length 0 o.length o,le_sub ⟨rfl,rfl,rfl,rfl,rfl,rfl,rfl,trivial⟩ ⟨rfl,trivial⟩ rfl rfl rfl (keepLt0 _),⟨0,by omega,by omega,by simp,by simp,rfl⟩⟩,?_⟩
  clear t1 t2
  rintro m z ⟨i,rfl,hi,hnd,hin,rfl⟩
  have hsl:=seenL_len L.length i o
  by_cases hlt:i<o.length
  case neg=>
   obtain rfl:i=o.length:=by omega
   have e1:decide ((o.length:Int)<(o.length:Int))=false:=by simp
   rw[List.take_length]at hnd hin
   have hk:=hK M1 m1
   by_cases hn:o.length=L.length
   ·have e2:decide ((o.length:Int)=(L.length:Int))=true:=by rw[decide_eq_true_eq];omega
    rw[permB_of hnd hin hn]at hk
    refine Go1.mk ?_;repeat' ((first|(with_reducible refine Go1.go ?_)|(refine And.intro ?_ ?_;(try simp only[sxO]at *);omega)|fail)<;>(try simp (maxSteps:=1000000) only [ocSt,hu1.one,hu1.len,hu1.sl,hv1.one,hv1.len,hv1.sl,e1,e2,cE_ment,cE_kill,hasK_nil,↓hold_pre,awayP,runOps,regK,step1,newK,genR,appR,obl,buildR,Value.cells,closeK,keepH,outV,retK,ret1,retC,RetV,Option.getD,runD,stepD,afterK,undef,simprocAttr,sxB,↓sxD,sxE,sxTab]))
    exact hk
   ·have e2:decide ((o.length:Int)=(L.length:Int))=false:=by rw[decide_eq_false_iff_not];omega
    have:permB L.length o=false:=by unfold permB;rw[decide_eq_false hn];rfl
    rw[this]at hk
    refine Go1.mk ?_;repeat' ((first|(with_reducible refine Go1.go ?_)|(refine And.intro ?_ ?_;(try simp only[sxO]at *);omega)|fail)<;>(try simp (maxSteps:=1000000) only [ocSt,hu1.one,hu1.len,hu1.sl,hv1.one,hv1.len,hv1.sl,e1,e2,cE_ment,cE_kill,hasK_nil,↓hold_pre,awayP,runOps,regK,step1,newK,genR,appR,obl,buildR,Value.cells,closeK,keepH,outV,retK,ret1,retC,RetV,Option.getD,runD,stepD,afterK,undef,simprocAttr,sxB,↓sxD,sxE,sxTab]))
    exact hk
  have e1:decide ((i:Int)<(o.length:Int))=true:=by rw[decide_eq_true_eq];omega
  have b1:(0:Int)≤(i:Int):=by omega
  have b2:(i:Int)<(o.length:Int):=by omega
  have hnn:=hv1.nn hlt
  have hat:=hv1.at (P:=Try.prog) (T:=3) tk3 tz3 hlt
  have hmem:=List.getElem_mem hlt
  have wi:IntKind.i64.wrap ((i:Int)+1)=((i+1:Nat):Int):=succ_i (by omega)
  have htk:o.take (i+1)=o.take i++[o[i]]:=by rw[List.take_add_one,List.getElem?_eq_getElem hlt];rfl
  have hset:=fun k=>seenL_set (n:=L.length) (k:=k) hlt
  have hdup:o[i]∈o.take i→¬o.Nodup:=fun h1 h2=>by
   rw[←List.take_append_drop i o]at h2
   refine (List.nodup_append.1 h2).2.2 _ h1 _ ?_ rfl
   rw[List.drop_eq_getElem_cons hlt];exact List.mem_cons_self
  have hat:lookM Try.prog 3 M1 (elemP v 1 i)=some (.int .i64 o[i]):=hat
  generalize o[i]=x at *
  have bad:¬(o.Nodup∧∀x∈o,0≤x∧x<(L.length:Int))→K (.ext (.int .i64 40)) [] M1:=fun h=>by
   have hk:=hK M1 m1
   rw[permB_bad h]at hk;exact hk
  by_cases h0:x<0
  ·have d1:decide (x<0)=true:=decide_eq_true h0
   have hk:=bad fun h=>by have:=h.2 x hmem;omega
   refine Go1.mk ?_;repeat' ((first|(with_reducible refine Go1.go ?_)|(refine And.intro ?_ ?_;(try simp only[sxO]at *);omega)|fail)<;>(try simp (maxSteps:=1000000) only [ocSt,intV64,hu1.one,hu1.len,hu1.sl,hv1.one,hv1.len,hv1.sl,hnn,e1,b1,b2,hat,d1,cE_ment,cE_kill,hasK_nil,↓hold_pre,awayP,runOps,regK,step1,newK,genR,appR,obl,buildR,Value.cells,closeK,keepH,outV,retK,ret1,retC,RetV,Option.getD,runD,stepD,afterK,undef,simprocAttr,sxB,↓sxD,sxE,sxTab]))
   exact hk
  have d1:decide (x<0)=false:=decide_eq_false h0
  obtain ⟨k,rfl⟩:=Int.eq_ofNat_of_zero_le (show 0≤x by omega)
  by_cases h1:L.length≤k
  ·have d2:decide ((L.length:Int)≤(k:Int))=true:=by rw[decide_eq_true_eq];omega
   have hk:=bad fun h=>by have:=h.2 _ hmem;omega
   refine Go1.mk ?_;repeat' ((first|(with_reducible refine Go1.go ?_)|(refine And.intro ?_ ?_;(try simp only[sxO]at *);omega)|fail)<;>(try simp (maxSteps:=1000000) only [ocSt,intV64,hu1.one,hu1.len,hu1.sl,hv1.one,hv1.len,hv1.sl,hnn,e1,b1,b2,hat,d1,d2,cE_ment,cE_kill,hasK_nil,↓hold_pre,awayP,runOps,regK,step1,newK,genR,appR,obl,buildR,Value.cells,closeK,keepH,outV,retK,ret1,retC,RetV,Option.getD,runD,stepD,afterK,undef,simprocAttr,sxB,↓sxD,sxE,sxTab]))
   exact hk
  have d2:decide ((L.length:Int)≤(k:Int))=false:=by rw[decide_eq_false_iff_not];omega
  have sa:=seenL_at (i:=i) (o:=o) (show k<L.length by omega)
  have b3:(0:Int)≤(k:Int):=by omega
  have b4:(k:Int)<(L.length:Int):=by omega
  cases hct:(o.take i).contains (k:Int) with
  | true=>
   rw[hct]at sa
   have hk:=bad fun h=>hdup (by simpa using hct) h.1
   refine Go1.mk ?_;repeat' ((first|(with_reducible refine Go1.go ?_)|(refine And.intro ?_ ?_;(try simp only[sxO]at *);omega)|fail)<;>(try simp (maxSteps:=1000000) only [ocSt,intV64,hu1.one,hu1.len,hu1.sl,hv1.one,hv1.len,hv1.sl,hnn,e1,b1,b2,b3,b4,hat,d1,d2,sa,Nat.mul_one,cE_ment,cE_kill,hasK_nil,↓hold_pre,awayP,runOps,regK,step1,newK,genR,appR,obl,buildR,Value.cells,closeK,keepH,outV,retK,ret1,retC,RetV,Option.getD,runD,stepD,afterK,undef,simprocAttr,sxB,↓sxD,sxE,sxTab]))
   exact hk
  | false=>
   rw[hct]at sa
   have hs2:=hset k rfl
   refine Go1.mk ?_;repeat' ((first|(with_reducible refine Go1.go ?_)|(refine And.intro ?_ ?_;(try simp only[sxO]at *);omega)|fail)<;>(try simp (maxSteps:=1000000) only [ocSt,intV64,hu1.one,hu1.len,hu1.sl,hv1.one,hv1.len,hv1.sl,hnn,e1,b1,b2,b3,b4,hat,d1,d2,sa,Nat.mul_one,hs2,hsl,wi,cE_len,cE_ment,cE_kill,hasK_nil,↓hold_pre,awayP,runOps,regK,step1,newK,genR,appR,obl,buildR,Value.cells,closeK,keepH,outV,retK,ret1,retC,RetV,Option.getD,runD,stepD,afterK,undef,simprocAttr,sxB,↓sxD,sxE,sxTab]))
   have g1:(o.take (i+1)).Nodup:=by
    rw[htk]
    refine List.nodup_append.2 ⟨hnd,by simp,fun a ha b hb e=>?_⟩
    have hb:=List.mem_singleton.1 hb
    subst e hb
    rw[List.contains_iff_mem.2 ha]at hct
    cases hct
   have g2:∀x∈o.take (i+1),0≤x∧x<(L.length:Int):=by
    rw[htk]
    intro a ha
    rcases List.mem_append.1 ha with ha|ha
    ·exact hin a ha
    ·rw[List.mem_singleton.1 ha];omega
   exact ⟨o.length-(i+1),ocSt M1 v u L.length (i+1) o.length o,by omega,le_sub ⟨rfl,rfl,rfl,rfl,rfl,rfl,rfl,trivial⟩ ⟨rfl,trivial⟩ rfl rfl rfl (keepLt0 _),i+1,rfl,by omega,g1,g2,rfl⟩
end
def costA(L:List IR)(x:Int):Int:=(itA L x.toNat).cost
def preG(L:List IR)(b:Int):List Int→Int→Nat→Nat
 | [],_,k=>k
 | x :: r,e,k=>if b<e+costA L x then k else preG L b r (e+costA L x) (k+1)
theorem preG_cons(L:List IR)(b x:Int)(r:List Int)(e:Int)(k:Nat):preG L b (x :: r) e k=if b<e+costA L x then k else preG L b r (e+costA L x) (k+1):=rfl
def preN(L:List IR)(o:List Int)(b:Int):Nat:=if errO L o=0 then preG L b o 0 0 else 0
theorem errO_zero{L:List IR}{o:List Int}(h:errO L o=0):(∀x∈L,chkI x=true)∧L.length≤64∧o.length=L.length∧∀x∈o,0≤x∧x<(L.length:Int):=by
 unfold errO at h
 cases hc:chkIL L with
 | false=>rw[hc]at h;simp at h
 | true=>
  rw[hc]at h
  simp only[if_true]at h
  cases hp:permB L.length o with
  | false=>rw[hp]at h;simp at h
  | true=>
   unfold chkIL at hc
   simp only[Bool.and_eq_true,decide_eq_true_eq]at hc
   have hp:=permB_iff.1 hp
   exact ⟨List.all_eq_true.1 hc.2,hc.1,by rw[hp.length_eq,placesI_len],fun x hx=>mem_placesI.1 (hp.subset hx)⟩
theorem costA_in{L:List IR}{x:Int}(hc:∀x∈L,chkI x=true)(h0:0≤x)(h1:x<(L.length:Int)):1≤costA L x∧costA L x≤1048576:=by
 unfold costA
 rw[itA_in (show x.toNat<L.length by omega)]
 have h:=hc _ (List.getElem_mem (show x.toNat<L.length by omega))
 exact (chkI_parts h).2.2.2
section
variable {M:Mem}{K:AV→Hp→Mem→Prop}{u v:Value}{L:List IR}{o:List Int}
def opSt(M:Mem)(u v:Value)(n i:Nat)(b e:Int):St:={env:=[(20,.ext (.int .i64 (i:Int))),(19,.ext (.int .i64 (n:Int))),(18,.ext v),(9,.ext (.int .i64 e)),(2,.ext (.int .i64 b)),(1,.ext v),(0,.ext u)],hp:=[],M:=M,kb:=0,fx:=[]}
theorem oprefix_ok(b:Int)(hu:IsR M 5 IR.c u L)(hL:okIL M L)(hb:L.length<1000000)(hv:IsL M intV64 v o)(hb2:o.length<1000000)(hK:∀M',Mem.le M M'→K (.ext (.tuple #[.int .i64 ((preN L o b:Nat):Int),.int .i64 (errO L o)])) [] M'):CallS Try.prog 30 [.ext u,.ext v,.ext (.int .i64 b)] [] M [] K:=by
 refine inlS (cs:=[]) Try.mixed Try.func30 rfl (by kernel_rfl) 0 rfl rfl ?_
 simp only[Try.f30]
 refine Go1.mk ?_;repeat' ((first|(with_reducible refine Go1.go ?_)|(((with_reducible refine isCall (f:=41) ?_);refine callA_nil (by kernel_rfl) ?_;refine (ocheckO_ok hu hL hb hv hb2 (fun M1 m1=>Stop.mk ?_))))|(refine And.intro ?_ ?_;(try simp only[sxO]at *);omega)|fail)<;>(try simp (maxSteps:=1000000) only [hu.one,hv.one,↓hold_pre,awayP,runOps,regK,step1,newK,genR,appR,obl,buildR,Value.cells,closeK,keepH,outV,retK,ret1,retC,RetV,Option.getD,runD,stepD,afterK,undef,simprocAttr,sxB,↓sxD,sxE,sxTab]))
 have m1:Mem.le M M1:=m1
 have hk:=hK M1 m1
 have hu1:=hu.le m1
 have hv1:=hv.le m1
 unfold preN at hk
 by_cases h0:errO L o=0
 case neg=>
  have d1:decide (errO L o=0)=false:=decide_eq_false h0
  rw[if_neg h0]at hk
  refine Stop.go ?_
  refine Go1.mk ?_;repeat' ((first|(with_reducible refine Go1.go ?_)|(refine And.intro ?_ ?_;(try simp only[sxO]at *);omega)|fail)<;>(try simp (maxSteps:=1000000) only [d1,↓hold_pre,awayP,runOps,regK,step1,newK,genR,appR,obl,buildR,Value.cells,closeK,keepH,outV,retK,ret1,retC,RetV,Option.getD,runD,stepD,afterK,undef,simprocAttr,sxB,↓sxD,sxE,sxTab]))
  exact hk
 obtain ⟨hci,h64,hol,hin⟩:=errO_zero h0
 rw[h0]at hk
 simp only[if_true]at hk
 refine Stop.go ?_
 refine Go1.mk ?_;repeat' ((first|(with_reducible refine Go1.go ?_)|(refine And.intro ?_ ?_;(try simp only[sxO]at *);omega)|fail)<;>(try simp (maxSteps:=1000000) only [h0,hv1.one,hv1.len,hv1.sl,↓hold_pre,awayP,runOps,regK,step1,newK,genR,appR,obl,buildR,Value.cells,closeK,keepH,outV,retK,ret1,retC,RetV,Option.getD,runD,stepD,afterK,undef,simprocAttr,sxB,↓sxD,sxE,sxTab]))
 refine ⟨fun m z=>∃i e,m=o.length-i∧i≤o.length∧0≤e∧e≤(i:Int)*1048576∧preG L b (o.drop i) e i=preG L b o 0 0∧z=opSt M1 u v o.length i b e,
  ⟨o.length,opSt M1 u v o.length 0 b 0,le_sub ⟨rfl,rfl,rfl,rfl,rfl,rfl,rfl,trivial⟩ trivial rfl rfl rfl (keepLt0 _),⟨0,0,by omega,by omega,by omega,by omega,rfl,rfl⟩⟩,?_⟩
 rintro m z ⟨i,e,rfl,hi,e0,e1,hp,rfl⟩
 by_cases hlt:i<o.length
 case neg=>
  obtain rfl:i=o.length:=by omega
  have d1:decide ((o.length:Int)<(o.length:Int))=false:=by simp
  rw[List.drop_length]at hp
  rw[←hp]at hk
  refine Go1.mk ?_;repeat' ((first|(with_reducible refine Go1.go ?_)|(refine And.intro ?_ ?_;(try simp only[sxO]at *);omega)|fail)<;>(try simp (maxSteps:=1000000) only [opSt,hv1.one,hv1.len,hv1.sl,d1,↓hold_pre,awayP,runOps,regK,step1,newK,genR,appR,obl,buildR,Value.cells,closeK,keepH,outV,retK,ret1,retC,RetV,Option.getD,runD,stepD,afterK,undef,simprocAttr,sxB,↓sxD,sxE,sxTab]))
  exact hk
 have d1:decide ((i:Int)<(o.length:Int))=true:=by rw[decide_eq_true_eq];omega
 have b1:(0:Int)≤(i:Int):=by omega
 have b2:(i:Int)<(o.length:Int):=by omega
 have hnn:=hv1.nn hlt
 have hat:=hv1.at (P:=Try.prog) (T:=3) tk3 tz3 hlt
 have wi:IntKind.i64.wrap ((i:Int)+1)=((i+1:Nat):Int):=succ_i (by omega)
 obtain ⟨x0,x1⟩:=hin _ (List.getElem_mem hlt)
 have hdr:o.drop i=o[i] :: o.drop (i+1):=List.drop_eq_getElem_cons hlt
 rw[hdr]at hp
 have hcb:=costA_in hci x0 x1
 have hat:lookM Try.prog 3 M1 (elemP v 1 i)=some (.int .i64 o[i]):=hat
 generalize o[i]=x at *
 obtain ⟨k,rfl⟩:=Int.eq_ofNat_of_zero_le x0
 have hkl:k<L.length:=by omega
 have b3:(0:Int)≤(k:Int):=by omega
 have b4:(k:Int)<(L.length:Int):=by omega
 have p1:=hu1.pt hkl
 have hnu:=hu1.nn hkl
 have hco:costA L (k:Int)=L[k].cost:=by unfold costA;rw[Int.toNat_natCast,itA_in hkl]
 have hac:=hu1.atF (P:=Try.prog) (T:=3) (fun _=>rfl) tk3 tz3 hkl (o:=4) (v:=.int .i64 L[k].cost) rfl
 rw[←hco]at hac
 rw[preG_cons]at hp
 generalize costA L (k:Int)=co at *
 have we:IntKind.i64.wrap (e+co)=e+co:=wrap_id (by omega) (by omega)
 by_cases hlt2:b<e+co
 ·have d2:decide (b<e+co)=true:=decide_eq_true hlt2
  rw[if_pos hlt2]at hp
  rw[←hp]at hk
  refine Go1.mk ?_;repeat' ((first|(with_reducible refine Go1.go ?_)|(refine And.intro ?_ ?_;(try simp only[sxO]at *);omega)|fail)<;>(try simp (maxSteps:=1000000) only [opSt,hu1.one,hu1.len,hu1.sl,hv1.one,hv1.len,hv1.sl,hnn,hnu,p1,d1,b1,b2,b3,b4,hat,hac,we,d2,↓hold_pre,awayP,runOps,regK,step1,newK,genR,appR,obl,buildR,Value.cells,closeK,keepH,outV,retK,ret1,retC,RetV,Option.getD,runD,stepD,afterK,undef,simprocAttr,sxB,↓sxD,sxE,sxTab]))
  exact hk
 ·have d2:decide (b<e+co)=false:=decide_eq_false hlt2
  rw[if_neg hlt2]at hp
  refine Go1.mk ?_;repeat' ((first|(with_reducible refine Go1.go ?_)|(refine And.intro ?_ ?_;(try simp only[sxO]at *);omega)|fail)<;>(try simp (maxSteps:=1000000) only [opSt,hu1.one,hu1.len,hu1.sl,hv1.one,hv1.len,hv1.sl,hnn,hnu,p1,d1,b1,b2,b3,b4,hat,hac,we,d2,wi,↓hold_pre,awayP,runOps,regK,step1,newK,genR,appR,obl,buildR,Value.cells,closeK,keepH,outV,retK,ret1,retC,RetV,Option.getD,runD,stepD,afterK,undef,simprocAttr,sxB,↓sxD,sxE,sxTab]))
  exact ⟨o.length-(i+1),opSt M1 u v o.length (i+1) b (e+co),by omega,le_sub ⟨rfl,rfl,rfl,rfl,rfl,rfl,rfl,trivial⟩ trivial rfl rfl rfl (keepLt0 _),i+1,e+co,rfl,by omega,by omega,by omega,hp,rfl⟩
end
end Go.Proofs.Ytjapnklocibgaaa.Sx
namespace Go.Proofs.Ytjapnklocibgaaa.Sx
open Go
structure SumOK (B i n d:Nat):Prop where
 pos:0<d
 gcd:Nat.gcd n d=1
 db:d≤wN i
 nb:n≤i*(B*wN i)
theorem SumOK.len{B i n d:Nat}(h:SumOK B i n d)(hi:i≤64)(hB:B≤wN 2):(ofN n).length≤128∧(ofN d).length≤128:=by
 have h1:=wN_mono (i:=i) (j:=64) hi
 have hw:wN 67=4294967296*(18446744073709551616*wN 64):=by
  rw[show (67:Nat)=1+(2+64) from rfl,wN_add,wN_add,wN_two];rfl
 have hp:=wN_pos 64
 have hi1:=wN_pos i
 constructor
 ·refine Nat.le_trans (ofN_len_le (k:=67) ?_) (by decide)
  have h2:B*wN i≤wN 2*wN 64:=Nat.mul_le_mul hB h1
  have h3:i*(B*wN i)≤64*(wN 2*wN 64):=Nat.mul_le_mul hi h2
  have h4:=Nat.le_trans h.nb h3
  rw[show wN 2=18446744073709551616 from rfl]at h4
  rw[hw]
  generalize wN 64=w at *
  clear hw h1 h2 h3 hi1
  omega
 ·refine Nat.le_trans (ofN_len_le (k:=67) ?_) (by decide)
  have h4:=Nat.le_trans h.db h1
  rw[hw]
  generalize wN 64=w at *
  clear hw h1 hi1
  omega
theorem SumOK.chk{B i n d:Nat}(h:SumOK B i n d)(hi:i≤64)(hB:B≤wN 2):chkF (ofN n) (ofN d)=true:=by
 obtain ⟨h1,h2⟩:=h.len hi hB
 unfold chkF
 rw[chkN_ofN h1,chkN_ofN h2,valN_ofN,valN_ofN,h.gcd,decide_eq_false (by have:=h.pos;omega)];rfl
theorem SumOK.zero(B:Nat):SumOK B 0 0 1:=⟨by decide,by decide,by rw[wN_zero];decide,by omega⟩
theorem SumOK.add{B i n d n' d':Nat}(h:SumOK B i n d)(hi:i<64)(hB:B≤wN 2)(h1:n'≤B)(h2:0<d')(h3:d'≤4294967296):(exF (n*d'+n'*d) (d*d')).1=0∧SumOK B (i+1) (exF (n*d'+n'*d) (d*d')).2.1 (exF (n*d'+n'*d) (d*d')).2.2:=by
 have hw:=wN_succ i
 have hd:d*d'≤wN (i+1):=by
  rw[hw,Nat.mul_comm 4294967296];exact Nat.mul_le_mul h.db h3
 have hn:n*d'+n'*d≤(i+1)*(B*wN (i+1)):=by
  have e1:n*d'≤i*(B*wN i)*4294967296:=Nat.mul_le_mul h.nb h3
  have e2:n'*d≤B*wN i:=Nat.mul_le_mul h1 h.db
  have e3:B*wN i*1≤B*wN i*4294967296:=Nat.mul_le_mul_left _ (by decide)
  rw[hw,Nat.succ_mul]
  have e4:i*(B*wN i)*4294967296=i*(B*(4294967296*wN i)):=by
   rw[Nat.mul_assoc,Nat.mul_assoc,Nat.mul_comm (wN i)]
  have e5:B*wN i*4294967296=B*(4294967296*wN i):=by
   rw[Nat.mul_assoc,Nat.mul_comm (wN i)]
  omega
 have h0:0<d*d':=Nat.mul_pos h.pos h2
 obtain ⟨N,hN⟩:∃N,N=n*d'+n'*d:=⟨_,rfl⟩
 obtain ⟨D,hD⟩:∃D,D=d*d':=⟨_,rfl⟩
 rw[←hN]at hn ⊢
 rw[←hD]at hd h0 ⊢
 have hq1:=Nat.div_le_self N (Nat.gcd N D)
 have hq2:=Nat.div_le_self D (Nat.gcd N D)
 have hok:SumOK B (i+1) (N / Nat.gcd N D) (D / Nat.gcd N D):=⟨Nat.div_pos (Nat.gcd_le_right N h0) (Nat.gcd_pos_of_pos_right _ h0),Nat.gcd_div_gcd_div_gcd_of_pos_right h0,by omega,by omega⟩
 obtain ⟨l1,l2⟩:=hok.len (by omega) hB
 unfold exF
 rw[if_pos ⟨l1,l2⟩]
 exact ⟨rfl,hok⟩
def sumV(L:List IR):List Int→Nat→Nat→Nat×Nat
 | [],n,d=>(n,d)
 | x :: r,n,d=>sumV L r (exF (n*valN (itA L x.toNat).l2+valN (itA L x.toNat).l1*d) (d*valN (itA L x.toNat).l2)).2.1 (exF (n*valN (itA L x.toNat).l2+valN (itA L x.toNat).l1*d) (d*valN (itA L x.toNat).l2)).2.2
theorem sumV_cons(L:List IR)(x:Int)(r:List Int)(n d:Nat):sumV L (x :: r) n d=sumV L r (exF (n*valN (itA L x.toNat).l2+valN (itA L x.toNat).l1*d) (d*valN (itA L x.toNat).l2)).2.1 (exF (n*valN (itA L x.toNat).l2+valN (itA L x.toNat).l1*d) (d*valN (itA L x.toNat).l2)).2.2:=rfl
def fouP(L:List IR)(o:List Int)(b:Int):Nat×Nat:=if errO L o=0 then sumV L (o.take (preN L o b)) 0 1 else (0,0)
def losV(L:List IR):List Int→Int→Nat→Nat→Nat×Nat
 | [],_,n,d=>(n,d)
 | x :: r,e,n,d=>losV L r (e+costA L x) (exF (n*(exF (valN (itA L x.toNat).l1*(e+costA L x).toNat) (valN (itA L x.toNat).l2)).2.2+(exF (valN (itA L x.toNat).l1*(e+costA L x).toNat) (valN (itA L x.toNat).l2)).2.1*d) (d*(exF (valN (itA L x.toNat).l1*(e+costA L x).toNat) (valN (itA L x.toNat).l2)).2.2)).2.1 (exF (n*(exF (valN (itA L x.toNat).l1*(e+costA L x).toNat) (valN (itA L x.toNat).l2)).2.2+(exF (valN (itA L x.toNat).l1*(e+costA L x).toNat) (valN (itA L x.toNat).l2)).2.1*d) (d*(exF (valN (itA L x.toNat).l1*(e+costA L x).toNat) (valN (itA L x.toNat).l2)).2.2)).2.2
def losP(L:List IR)(o:List Int):Nat×Nat:=if errO L o=0 then losV L o 0 0 1 else (0,0)
theorem chkI_val{x:IR}{M:Mem}(hx:x.ok M)(h:chkI x=true):x.l1=ofN (valN x.l1)∧x.l2=ofN (valN x.l2)∧valN x.l1<4294967296∧valN x.l2<4294967296∧0<valN x.l2∧Nat.gcd (valN x.l1) (valN x.l2)=1:=by
 obtain ⟨h1,h2,h3,_,_⟩:=chkI_parts h
 obtain ⟨e1,e2,_,_,p,hg⟩:=chkF_ok hx.f.on hx.f.od h1
 have lim:∀l:List Nat,okN l→l.length≤1→valN l<4294967296:=fun l ho hl=>by
  rcases l with _|⟨a,_|⟨b,l⟩⟩
  ·decide
  ·have:=ho a (by simp)
   simp only[valN];omega
  ·simp at hl
 exact ⟨e1,e2,lim _ hx.f.on h2,lim _ hx.f.od h3,p,hg⟩
theorem preG_le(L:List IR)(b:Int):∀(o:List Int) (e:Int) (k:Nat),k≤preG L b o e k∧preG L b o e k≤k+o.length
 | [],e,k=>⟨Nat.le_refl _,Nat.le_refl _⟩
 | x :: r,e,k=>by
  have h:=preG_le L b r (e+costA L x) (k+1)
  rw[preG_cons]
  split
  ·exact ⟨Nat.le_refl _,by omega⟩
  ·rw[List.length_cons];exact ⟨by omega,by omega⟩
theorem preN_le(L:List IR)(o:List Int)(b:Int):preN L o b≤o.length:=by
 unfold preN
 split
 ·have:=(preG_le L b o 0 0).2;omega
 ·omega
end Go.Proofs.Ytjapnklocibgaaa.Sx
namespace Go.Proofs.Ytjapnklocibgaaa.Sx
open Go Go.RowKit
set_option linter.unusedVariables false
set_option linter.unusedSimpArgs false
set_option maxRecDepth 100000
set_option maxHeartbeats 8000000
attribute [local congr] fin_congr finG_congr stepG_congr step1_congr runOps_congr brv_congr obl_congr condK_congr LoopK_congr seqK_congr CutK_congr vc_congr DrawK_congr regK_congr CallK_congr AskK_congr newK_congr retC_congr ret1_congr retK_congr outV_congr closeK_congr genR_congr appR_congr finD_congr finGD_congr stepGD_congr stepD_congr CallK0_congr runD_congr okR_congr CallS_congr vcX_congr
attribute [local congr] Stop_congr
theorem fits_two:4294967296≤wN 2:=by rw[show wN 2=18446744073709551616 from rfl];decide
section
variable {M:Mem}{K:AV→Hp→Mem→Prop}{u v:Value}{L:List IR}{o:List Int}
def ofSt(M:Mem)(u v w1 w2:Value)(n i:Nat):St:={env:=[(29,.ext (.int .i64 (i:Int))),(28,.ext (.int .i64 (n:Int))),(27,.ext v),(10,.own 10 0),(6,.own 6 0),(0,.ext u)],hp:=[(10,34,[.ext w1,.ext w2]),(6,34,[.ext (.slice none 0 0),.ext (.slice none 0 0)])],M:=M,kb:=0,fx:=[]}
theorem ofound_ok(b:Int)(hu:IsR M 5 IR.c u L)(hL:okIL M L)(hb:L.length<1000000)(hv:IsL M intV64 v o)(hb2:o.length<1000000)(hK:FracK M K (errO L o,(fouP L o b).1,(fouP L o b).2)):CallS Try.prog 27 [.ext u,.ext v,.ext (.int .i64 b)] [] M [] K:=by
 refine inlS (cs:=[]) Try.mixed Try.func27 rfl (by kernel_rfl) 0 rfl rfl ?_
 simp only[Try.f27]
 refine Go1.mk ?_;repeat' ((first|(with_reducible refine Go1.go ?_)|(((with_reducible refine isCall (f:=30) ?_);refine callA_nil (by kernel_rfl) ?_;refine (oprefix_ok b hu hL hb hv hb2 (fun M1 m1=>Stop.mk ?_))))|(refine And.intro ?_ ?_;(try simp only[sxO]at *);omega)|fail)<;>(try simp (maxSteps:=1000000) only [hu.one,hv.one,↓hold_pre,awayP,runOps,regK,step1,newK,genR,appR,obl,buildR,Value.cells,closeK,keepH,outV,retK,ret1,retC,RetV,Option.getD,runD,stepD,afterK,undef,simprocAttr,sxB,↓sxD,sxE,sxTab]))
 have m1:Mem.le M M1:=m1
 have hu1:=hu.le m1
 have hL1:=hL.le m1
 have hv1:=hv.le m1
 unfold fouP at hK
 by_cases h0:errO L o=0
 case neg=>
  have d1:decide (errO L o=0)=false:=decide_eq_false h0
  rw[if_neg h0]at hK
  refine Stop.go ?_
  refine Go1.mk ?_;repeat' ((first|(with_reducible refine Go1.go ?_)|(refine And.intro ?_ ?_;(try simp only[sxO]at *);omega)|fail)<;>(try simp (maxSteps:=1000000) only [d1,↓hold_pre,awayP,runOps,regK,step1,newK,genR,appR,obl,buildR,Value.cells,closeK,keepH,outV,retK,ret1,retC,RetV,Option.getD,runD,stepD,afterK,undef,simprocAttr,sxB,↓sxD,sxE,sxTab]))
  exact hK.err _ m1
 obtain ⟨hci,h64,hol,hin⟩:=errO_zero h0
 rw[h0]at hK
 simp only[if_true]at hK
 have hpl:=preN_le L o b
 obtain ⟨p,hpp⟩:∃p,p=preN L o b:=⟨_,rfl⟩
 rw[←hpp]at hK hpl
 refine Stop.go ?_
 rw[←hpp]
 refine Go1.mk ?_;repeat' ((first|(with_reducible refine Go1.go ?_)|(((with_reducible refine isCall (f:=36) ?_);refine callA_nil (by kernel_rfl) ?_;refine (whole_ok 0 (by decide) (fun w1 w2 M2 a1 a2 a3 a4 a5=>Stop.mk ?_))))|(refine And.intro ?_ ?_;(try simp only[sxO]at *);omega)|fail)<;>(try simp (maxSteps:=1000000) only [h0,hv1.one,↓hold_pre,awayP,runOps,regK,step1,newK,genR,appR,obl,buildR,Value.cells,closeK,keepH,outV,retK,ret1,retC,RetV,Option.getD,runD,stepD,afterK,undef,simprocAttr,sxB,↓sxD,sxE,sxTab]))
 have a1:Mem.le M1 M2:=a1
 have hv2:=hv1.le a1
 have tp:=Int.toNat_natCast p
 have hcp:=hv2.cap
 have c1:(0:Int)≤(p:Int):=by omega
 have c2:(p:Int)≤(scap v:Int):=by omega
 have hs:=hv2.sub (i:=0) (j:=p) (by omega) hpl
 rw[List.drop_zero,Nat.sub_zero]at hs
 have hsl:(o.take p).length=p:=by rw[List.length_take];omega
 have hsln:=hs.len
 rw[hsl]at hsln
 refine Stop.go ?_
 refine Go1.mk ?_;repeat' ((first|(with_reducible refine Go1.go ?_)|(refine And.intro ?_ ?_;(try simp only[sxO]at *);omega)|fail)<;>(try simp (maxSteps:=1000000) only [hv2.one,hv2.sl,hv2.len,a2.one,a3.one,tp,Int.toNat_zero,c1,c2,hs.one,hs.sl,hsln,↓hold_pre,awayP,runOps,regK,step1,newK,genR,appR,obl,buildR,Value.cells,closeK,keepH,outV,retK,ret1,retC,RetV,Option.getD,runD,stepD,afterK,undef,simprocAttr,sxB,↓sxD,sxE,sxTab]))
 obtain ⟨q,hq⟩:∃q,q=o.take p:=⟨_,rfl⟩
 obtain ⟨vs,hvs⟩:∃vs,vs=subS v 1 0 p:=⟨_,rfl⟩
 rw[←hq]at hs hsl hK
 rw[←hvs]at hs
 refine ⟨fun m z=>∃M' w1 w2 n d i,m=q.length-i∧i≤q.length∧Mem.le M2 M'∧IsL M' u32V w1 (ofN n)∧IsL M' u32V w2 (ofN d)∧FreshS M1 w1∧FreshS M1 w2∧SumOK 4294967296 i n d∧sumV L (q.drop i) n d=sumV L q 0 1∧z=ofSt M' u vs w1 w2 p i,
  ⟨q.length,ofSt M2 u vs w1 w2 p 0,le_sub ⟨rfl,rfl,by rw[hvs];rfl,rfl,rfl,rfl,trivial⟩ ⟨rfl,rfl,trivial⟩ rfl rfl rfl (keepLt0 _),⟨M2,w1,w2,0,1,0,by omega,by omega,Mem.le.refl _,a2,a3,a4,a5,SumOK.zero _,rfl,rfl⟩⟩,?_⟩
 have hqin:∀x∈q,0≤x∧x<(L.length:Int):=fun x hx=>hin x (List.mem_of_mem_take (hq▸hx))
 have hs1:IsL M2 intV64 vs q:=hs
 clear a2 a3 a4 a5 tp c1 c2 hv2 hsln
 rintro m z ⟨M3,w1,w2,n,d,i,rfl,hi,hM,hw1,hw2,fw1,fw2,hS,hp,rfl⟩
 have hs3:=hs1.le hM
 have hM1:=a1.trans hM
 have hu3:=hu1.le hM1
 have hL3:=hL1.le hM1
 by_cases hlt:i<q.length
 case neg=>
  obtain rfl:i=q.length:=by omega
  have d1:decide ((q.length:Int)<(p:Int))=false:=by rw[decide_eq_false_iff_not];omega
  rw[List.drop_length]at hp
  rw[←hp]at hK
  refine Go1.mk ?_;repeat' ((first|(with_reducible refine Go1.go ?_)|(refine And.intro ?_ ?_;(try simp only[sxO]at *);omega)|fail)<;>(try simp (maxSteps:=1000000) only [ofSt,hs3.one,hw1.one,hw2.one,d1,↓hold_pre,awayP,runOps,regK,step1,newK,genR,appR,obl,buildR,Value.cells,closeK,keepH,outV,retK,ret1,retC,RetV,Option.getD,runD,stepD,afterK,undef,simprocAttr,sxB,↓sxD,sxE,sxTab]))
  exact hK _ _ _ (m1.trans hM1) hw1 hw2 (fw1.le m1) (fw2.le m1)
 have d1:decide ((i:Int)<(p:Int))=true:=by rw[decide_eq_true_eq];omega
 have b1:(0:Int)≤(i:Int):=by omega
 have b2:(i:Int)<(p:Int):=by omega
 have hnn:=hs3.nn hlt
 have hat:=hs3.at (P:=Try.prog) (T:=3) tk3 tz3 hlt
 have wi:IntKind.i64.wrap ((i:Int)+1)=((i+1:Nat):Int):=succ_i (by omega)
 have hsn:=hs3.len
 rw[hsl]at hsn
 obtain ⟨x0,x1⟩:=hqin _ (List.getElem_mem hlt)
 have hdr:q.drop i=q[i] :: q.drop (i+1):=List.drop_eq_getElem_cons hlt
 rw[hdr,sumV_cons]at hp
 have hat:lookM Try.prog 3 M3 (elemP vs 1 i)=some (.int .i64 q[i]):=hat
 generalize q[i]=x at *
 obtain ⟨k,rfl⟩:=Int.eq_ofNat_of_zero_le x0
 have hkl:k<L.length:=by omega
 have b3:(0:Int)≤(k:Int):=by omega
 have b4:(k:Int)<(L.length:Int):=by omega
 have p1:=hu3.pt hkl
 have hnu:=hu3.nn hkl
 have hac:=hu3.part (P:=Try.prog) (fun _=>rfl) tk34 tz34 (o:=2) hkl (by decide)
 rw[Int.toNat_natCast,itA_in hkl]at hp
 have hck:=hci _ (List.getElem_mem hkl)
 have hxo:=hL3 _ (List.getElem_mem hkl)
 generalize L[k]=y at *
 obtain ⟨e1,e2,l1,l2,y0,yg⟩:=chkI_val hxo hck
 obtain ⟨hchk,_⟩:=chkI_parts hck
 obtain ⟨pk,ts,x1',x2',y1,y2,co⟩:=y
 have hac:lookM Try.prog 34 M3 (addP (elemP u 5 k) 2)=some (.agg #[x1',x2']):=hac
 have hF1:IsF M3 x1' x2' y1 y2:=hxo.f
 simp only at e1 e2 l1 l2 y0 yg hchk hp
 obtain ⟨s1,s2⟩:=hS.add (by omega) fits_two (Nat.le_of_lt l1) y0 (Nat.le_of_lt l2)
 have hlen:=hS.len (by omega) fits_two
 have hadd:addF (ofN n) (ofN d) y1 y2=exF (n*valN y2+valN y1*d) (d*valN y2):=by
  unfold addF
  rw[hS.chk (by omega) fits_two,hchk,Bool.and_self,if_pos rfl,valN_ofN,valN_ofN]
 refine Go1.mk ?_;repeat' ((first|(with_reducible refine Go1.go ?_)|(((with_reducible refine isCall0 (f:=42) ?_);refine callA0_nil (by kernel_rfl) ?_;refine (fadd_ok ⟨hw1,hw2,okN_ofN _,okN_ofN _,by omega,by omega⟩ hF1 (fun v1 v2 M4 f1 f2 f3 f4 f5=>Stop.mk ?_))))|((with_reducible refine isDraw [some 34,some 35,some 36,some 37,some 38,some 39,some 40,some 33,some 41,some 42,none,some 9] (by decide) ?_);refine draw_rule [(0,[]),(1,[0]),(2,[0]),(3,[0]),(4,[0]),(5,[0]),(6,[]),(7,[]),(8,[]),(9,[]),(10,[]),(11,[])] [[],[],[],[1,2],[1,2,3],[1,2,3,4],[0,1,2,3,4,5],[0,1,2,3,4,5,6],[0,1,2,3,4,5,6,7],[0,1,2,3,4,5,6,7],[0,1,2,3,4,5,6,7,8],[0,1,2,3,4,5,6,7,8,9,10]] [34,35,36,37,38,39,41,42] [] (by kernel_rfl) (by kernel_rfl) (by kernel_rfl) (by kernel_rfl) (by exact trivial) ?_)|(refine And.intro ?_ ?_;(try simp only[sxO]at *);omega)|fail)<;>(try simp (maxSteps:=1000000) only [ofSt,hu3.one,hu3.len,hu3.sl,hs3.one,hsn,hs3.sl,hnn,hnu,p1,d1,b1,b2,b3,b4,hat,hac,hw1.one,hw2.one,hF1.n.one,hF1.d.one,↓hold_pre,awayP,runOps,regK,step1,newK,genR,appR,obl,buildR,Value.cells,closeK,keepH,outV,retK,ret1,retC,RetV,Option.getD,runD,stepD,afterK,undef,simprocAttr,sxB,↓sxD,sxE,sxTab]))
 have f1:Mem.le M3 M4:=f1
 rw[hadd]at f2 f3
 have d2:decide ((addF (ofN n) (ofN d) y1 y2).1=0)=true:=by rw[hadd];exact decide_eq_true s1
 refine Stop.go ?_
 refine Go1.mk ?_;repeat' ((first|(with_reducible refine Go1.go ?_)|((with_reducible refine isDraw [some 34,some 35,some 36,some 37,some 38,some 39,some 40,some 33,some 41,some 42,none,some 9] (by decide) ?_);refine draw_rule [(0,[]),(1,[0]),(2,[0]),(3,[0]),(4,[0]),(5,[0]),(6,[]),(7,[]),(8,[]),(9,[]),(10,[]),(11,[])] [[],[],[],[1,2],[1,2,3],[1,2,3,4],[0,1,2,3,4,5],[0,1,2,3,4,5,6],[0,1,2,3,4,5,6,7],[0,1,2,3,4,5,6,7],[0,1,2,3,4,5,6,7,8],[0,1,2,3,4,5,6,7,8,9,10]] [34,35,36,37,38,39,41,42] [] (by kernel_rfl) (by kernel_rfl) (by kernel_rfl) (by kernel_rfl) (by exact trivial) ?_)|(refine And.intro ?_ ?_;(try simp only[sxO]at *);omega)|fail)<;>(try simp (maxSteps:=1000000) only [f2.one,f3.one,d2,wi,↓hold_pre,awayP,runOps,regK,step1,newK,genR,appR,obl,buildR,Value.cells,closeK,keepH,outV,retK,ret1,retC,RetV,Option.getD,runD,stepD,afterK,undef,simprocAttr,sxB,↓sxD,sxE,sxTab]))
 exact ⟨q.length-(i+1),ofSt M4 u vs v1 v2 p (i+1),by omega,le_sub ⟨rfl,rfl,rfl,rfl,rfl,rfl,trivial⟩ ⟨rfl,rfl,trivial⟩ rfl rfl rfl (keepLt0 _),M4,v1,v2,_,_,i+1,rfl,by omega,hM.trans f1,f2,f3,f4.le hM1,f5.le hM1,s2,hp,rfl⟩
end
theorem exF_small{x y:Nat}(h0:0<y)(hx:(ofN x).length≤128)(hy:(ofN y).length≤128):(exF x y).1=0∧(exF x y).2.1≤x∧(exF x y).2.2≤y∧0<(exF x y).2.2∧chkF (ofN (exF x y).2.1) (ofN (exF x y).2.2)=true:=by
 have hg0:0<Nat.gcd x y:=Nat.gcd_pos_of_pos_right _ h0
 have hp:=Nat.div_pos (Nat.gcd_le_right x h0) hg0
 have hq1:=Nat.div_le_self x (Nat.gcd x y)
 have hq2:=Nat.div_le_self y (Nat.gcd x y)
 have hgg:=Nat.gcd_div_gcd_div_gcd_of_pos_right (n:=x) h0
 rw[exF_is hx hy]
 refine ⟨rfl,hq1,hq2,hp,?_⟩
 unfold chkF
 simp only
 rw[chkN_ofN (Nat.le_trans (len_mono hq1) hx),chkN_ofN (Nat.le_trans (len_mono hq2) hy),valN_ofN,valN_ofN,hgg,decide_eq_false (by omega)];rfl
theorem mulF_len'(a b c d:List Nat):(ofN (mulF a b c d).2.1).length≤128∧(ofN (mulF a b c d).2.2).length≤128:=by
 unfold mulF
 split
 ·exact exF_len' _ _
 ·simp only[ofN_zero];simp
theorem losV_cons(L:List IR)(x:Int)(r:List Int)(e:Int)(n d:Nat):losV L (x :: r) e n d=losV L r (e+costA L x) (exF (n*(exF (valN (itA L x.toNat).l1*(e+costA L x).toNat) (valN (itA L x.toNat).l2)).2.2+(exF (valN (itA L x.toNat).l1*(e+costA L x).toNat) (valN (itA L x.toNat).l2)).2.1*d) (d*(exF (valN (itA L x.toNat).l1*(e+costA L x).toNat) (valN (itA L x.toNat).l2)).2.2)).2.1 (exF (n*(exF (valN (itA L x.toNat).l1*(e+costA L x).toNat) (valN (itA L x.toNat).l2)).2.2+(exF (valN (itA L x.toNat).l1*(e+costA L x).toNat) (valN (itA L x.toNat).l2)).2.1*d) (d*(exF (valN (itA L x.toNat).l1*(e+costA L x).toNat) (valN (itA L x.toNat).l2)).2.2)).2.2:=rfl
def bigB:Nat:=288230376151711744
theorem bigB_fits:bigB≤wN 2:=by rw[show wN 2=18446744073709551616 from rfl];decide
section
variable {M:Mem}{K:AV→Hp→Mem→Prop}{u v:Value}{L:List IR}{o:List Int}
def olSt(M:Mem)(u v w1 w2:Value)(n i:Nat)(e:Int):St:={env:=[(23,.ext (.int .i64 (i:Int))),(22,.ext (.int .i64 (n:Int))),(21,.ext v),(8,.ext (.int .i64 e)),(7,.own 7 0),(4,.own 4 0),(0,.ext u)],hp:=[(7,34,[.ext w1,.ext w2]),(4,34,[.ext (.slice none 0 0),.ext (.slice none 0 0)])],M:=M,kb:=0,fx:=[]}
theorem oloss_ok(hu:IsR M 5 IR.c u L)(hL:okIL M L)(hb:L.length<1000000)(hv:IsL M intV64 v o)(hb2:o.length<1000000)(hK:FracK M K (errO L o,(losP L o).1,(losP L o).2)):CallS Try.prog 12 [.ext u,.ext v] [] M [] K:=by
 refine inlS (cs:=[]) Try.mixed Try.func12 rfl (by kernel_rfl) 0 rfl rfl ?_
 simp only[Try.f12]
 refine Go1.mk ?_;repeat' ((first|(with_reducible refine Go1.go ?_)|(((with_reducible refine isCall (f:=41) ?_);refine callA_nil (by kernel_rfl) ?_;refine (ocheckO_ok hu hL hb hv hb2 (fun M1 m1=>Stop.mk ?_))))|(refine And.intro ?_ ?_;(try simp only[sxO]at *);omega)|fail)<;>(try simp (maxSteps:=1000000) only [hu.one,hv.one,↓hold_pre,awayP,runOps,regK,step1,newK,genR,appR,obl,buildR,Value.cells,closeK,keepH,outV,retK,ret1,retC,RetV,Option.getD,runD,stepD,afterK,undef,simprocAttr,sxB,↓sxD,sxE,sxTab]))
 have m1:Mem.le M M1:=m1
 have hu1:=hu.le m1
 have hL1:=hL.le m1
 have hv1:=hv.le m1
 unfold losP at hK
 by_cases h0:errO L o=0
 case neg=>
  have d1:decide (errO L o=0)=false:=decide_eq_false h0
  rw[if_neg h0]at hK
  refine Stop.go ?_
  refine Go1.mk ?_;repeat' ((first|(with_reducible refine Go1.go ?_)|(refine And.intro ?_ ?_;(try simp only[sxO]at *);omega)|fail)<;>(try simp (maxSteps:=1000000) only [d1,↓hold_pre,awayP,runOps,regK,step1,newK,genR,appR,obl,buildR,Value.cells,closeK,keepH,outV,retK,ret1,retC,RetV,Option.getD,runD,stepD,afterK,undef,simprocAttr,sxB,↓sxD,sxE,sxTab]))
  exact hK.err _ m1
 obtain ⟨hci,h64,hol,hin⟩:=errO_zero h0
 rw[h0]at hK
 simp only[if_true]at hK
 refine Stop.go ?_
 refine Go1.mk ?_;repeat' ((first|(with_reducible refine Go1.go ?_)|((first|((with_reducible refine isCall (f:=36) ?_);refine callA_nil (by kernel_rfl) ?_)|((with_reducible refine isCall0 (f:=36) ?_);refine callA0_nil (by kernel_rfl) ?_));refine (whole_ok 0 (by decide) (fun w1 w2 M2 a1 a2 a3 a4 a5=>Stop.mk ?_)))|(refine And.intro ?_ ?_;(try simp only[sxO]at *);omega)|fail)<;>(try simp (maxSteps:=1000000) only [h0,hv1.one,↓hold_pre,awayP,runOps,regK,step1,newK,genR,appR,obl,buildR,Value.cells,closeK,keepH,outV,retK,ret1,retC,RetV,Option.getD,runD,stepD,afterK,undef,simprocAttr,sxB,↓sxD,sxE,sxTab]))
 have a1:Mem.le M1 M2:=a1
 have hv2:=hv1.le a1
 refine Stop.go ?_
 refine Go1.mk ?_;repeat' ((first|(with_reducible refine Go1.go ?_)|(refine And.intro ?_ ?_;(try simp only[sxO]at *);omega)|fail)<;>(try simp (maxSteps:=1000000) only [hv2.one,hv2.sl,hv2.len,a2.one,a3.one,↓hold_pre,awayP,runOps,regK,step1,newK,genR,appR,obl,buildR,Value.cells,closeK,keepH,outV,retK,ret1,retC,RetV,Option.getD,runD,stepD,afterK,undef,simprocAttr,sxB,↓sxD,sxE,sxTab]))
 refine ⟨fun m z=>∃M' w1 w2 n d i e,m=o.length-i∧i≤o.length∧Mem.le M2 M'∧IsL M' u32V w1 (ofN n)∧IsL M' u32V w2 (ofN d)∧FreshS M1 w1∧FreshS M1 w2∧SumOK bigB i n d∧0≤e∧e≤(i:Int)*1048576∧losV L (o.drop i) e n d=losV L o 0 0 1∧z=olSt M' u v w1 w2 o.length i e,
  ⟨o.length,olSt M2 u v w1 w2 o.length 0 0,le_sub ⟨rfl,rfl,rfl,rfl,rfl,rfl,rfl,trivial⟩ ⟨rfl,rfl,trivial⟩ rfl rfl rfl (keepLt0 _),⟨M2,w1,w2,0,1,0,0,by omega,by omega,Mem.le.refl _,a2,a3,a4,a5,SumOK.zero _,by omega,by omega,rfl,rfl⟩⟩,?_⟩
 clear a2 a3 a4 a5
 rintro m z ⟨M3,w1,w2,n,d,i,e,rfl,hi,hM,hw1,hw2,fw1,fw2,hS,e0,e1,hp,rfl⟩
 have hv3:=hv2.le hM
 have hM1:=a1.trans hM
 have hu3:=hu1.le hM1
 have hL3:=hL1.le hM1
 by_cases hlt:i<o.length
 case neg=>
  obtain rfl:i=o.length:=by omega
  have d1:decide ((o.length:Int)<(o.length:Int))=false:=by simp
  rw[List.drop_length]at hp
  rw[←hp]at hK
  refine Go1.mk ?_;repeat' ((first|(with_reducible refine Go1.go ?_)|(refine And.intro ?_ ?_;(try simp only[sxO]at *);omega)|fail)<;>(try simp (maxSteps:=1000000) only [olSt,hv3.one,hw1.one,hw2.one,d1,↓hold_pre,awayP,runOps,regK,step1,newK,genR,appR,obl,buildR,Value.cells,closeK,keepH,outV,retK,ret1,retC,RetV,Option.getD,runD,stepD,afterK,undef,simprocAttr,sxB,↓sxD,sxE,sxTab]))
  exact hK _ _ _ (m1.trans hM1) hw1 hw2 (fw1.le m1) (fw2.le m1)
 have d1:decide ((i:Int)<(o.length:Int))=true:=by rw[decide_eq_true_eq];omega
 have b1:(0:Int)≤(i:Int):=by omega
 have b2:(i:Int)<(o.length:Int):=by omega
 have hnn:=hv3.nn hlt
 have hat:=hv3.at (P:=Try.prog) (T:=3) tk3 tz3 hlt
 have wi:IntKind.i64.wrap ((i:Int)+1)=((i+1:Nat):Int):=succ_i (by omega)
 obtain ⟨x0,x1⟩:=hin _ (List.getElem_mem hlt)
 have hdr:o.drop i=o[i] :: o.drop (i+1):=List.drop_eq_getElem_cons hlt
 rw[hdr,losV_cons]at hp
 have hcb:=costA_in hci x0 x1
 have hat:lookM Try.prog 3 M3 (elemP v 1 i)=some (.int .i64 o[i]):=hat
 generalize o[i]=x at *
 obtain ⟨k,rfl⟩:=Int.eq_ofNat_of_zero_le x0
 have hkl:k<L.length:=by omega
 have b3:(0:Int)≤(k:Int):=by omega
 have b4:(k:Int)<(L.length:Int):=by omega
 have p1:=hu3.pt hkl
 have hnu:=hu3.nn hkl
 have hac:=hu3.part (P:=Try.prog) (fun _=>rfl) tk34 tz34 (o:=2) hkl (by decide)
 have hco:costA L (k:Int)=L[k].cost:=by unfold costA;rw[Int.toNat_natCast,itA_in hkl]
 have hcc:=hu3.atF (P:=Try.prog) (T:=3) (fun _=>rfl) tk3 tz3 hkl (o:=4) (v:=.int .i64 L[k].cost) rfl
 rw[←hco]at hcc
 clear hco
 rw[Int.toNat_natCast,itA_in hkl]at hp
 generalize costA L (k:Int)=co at *
 have hck:=hci _ (List.getElem_mem hkl)
 have hxo:=hL3 _ (List.getElem_mem hkl)
 generalize L[k]=y at *
 obtain ⟨q1,q2,l1,l2,y0,yg⟩:=chkI_val hxo hck
 obtain ⟨hchk,_⟩:=chkI_parts hck
 obtain ⟨pk,ts,x1',x2',y1,y2,co'⟩:=y
 have hac:lookM Try.prog 34 M3 (addP (elemP u 5 k) 2)=some (.agg #[x1',x2']):=hac
 have hF1:IsF M3 x1' x2' y1 y2:=hxo.f
 simp only at q1 q2 l1 l2 y0 yg hchk hp
 have we:IntKind.i64.wrap (e+co)=e+co:=wrap_id (by omega) (by omega)
 obtain ⟨E,hE⟩:=Int.eq_ofNat_of_zero_le (show 0≤e+co by omega)
 rw[hE]at we
 have hE26:E≤67108864:=by omega
 rw[hE,Int.toNat_natCast]at hp
 have hEl:(ofN E).length≤1:=ofN_len_le (by rw[show wN 1=4294967296 from rfl];omega)
 have h1l:(ofN 1).length≤1:=by rw[ofN_u32 (by decide) (by decide)];decide
 have hEc:chkF (ofN E) (ofN 1)=true:=by
  unfold chkF
  rw[chkN_ofN (by omega),chkN_ofN (by omega),valN_ofN,valN_ofN,Nat.gcd_one_right];rfl
 have hmul:mulF y1 y2 (ofN E) (ofN 1)=exF (valN y1*E) (valN y2):=by
  unfold mulF
  rw[hchk,hEc,Bool.and_self,if_pos rfl,valN_ofN,valN_ofN,Nat.mul_one]
 have hml:=mul_len (valN y1) E
 have hy1:(ofN (valN y1)).length≤1:=ofN_len_le (by rw[show wN 1=4294967296 from rfl];exact l1)
 have hy2:(ofN (valN y2)).length≤1:=ofN_len_le (by rw[show wN 1=4294967296 from rfl];exact l2)
 obtain ⟨t0,t1,t2,t3,t4⟩:=exF_small (x:=valN y1*E) (y:=valN y2) y0 (by omega) (by omega)
 have hXB:valN y1*E≤bigB:=Nat.le_trans (Nat.mul_le_mul (Nat.le_of_lt l1) hE26) (by decide)
 rw[←hmul]at t0 t1 t2 t3 t4 hp
 have tl:=mulF_len' y1 y2 (ofN E) (ofN 1)
 obtain ⟨s1,s2⟩:=hS.add (n':=(mulF y1 y2 (ofN E) (ofN 1)).2.1) (d':=(mulF y1 y2 (ofN E) (ofN 1)).2.2) (by omega) bigB_fits (Nat.le_trans t1 hXB) t3 (by omega)
 have hlen:=hS.len (by omega) bigB_fits
 have hadd:addF (ofN n) (ofN d) (ofN (mulF y1 y2 (ofN E) (ofN 1)).2.1) (ofN (mulF y1 y2 (ofN E) (ofN 1)).2.2)=exF (n*(mulF y1 y2 (ofN E) (ofN 1)).2.2+(mulF y1 y2 (ofN E) (ofN 1)).2.1*d) (d*(mulF y1 y2 (ofN E) (ofN 1)).2.2):=addF_of (hS.chk (by omega) bigB_fits) t4
 clear hmul hml hXB q1 q2 t1 t2
 refine Go1.mk ?_;repeat' ((first|(with_reducible refine Go1.go ?_)|((first|((with_reducible refine isCall (f:=36) ?_);refine callA_nil (by kernel_rfl) ?_)|((with_reducible refine isCall0 (f:=36) ?_);refine callA0_nil (by kernel_rfl) ?_));refine (whole_ok E (by omega) (fun w3 w4 M4 c1 c2 c3 c4 c5=>Stop.mk ?_)))|((with_reducible refine isDraw [some 35,some 36,some 37,some 38,some 39,some 40,some 41,some 42,some 34,some 43,some 44,some 11,none,some 12] (by decide) ?_);refine draw_rule [(0,[]),(1,[]),(2,[]),(3,[]),(4,[]),(5,[4]),(11,[4]),(6,[4]),(7,[]),(8,[]),(9,[]),(10,[]),(12,[]),(13,[])] [[],[],[0,1],[0,1,2],[0,1,2,3],[],[5],[0,1,2,3,4,5,6],[0,1,2,3,4,5,6,7],[0,1,2,3,4,5,6,7,8],[0,1,2,3,4,5,6,7,8],[],[0,1,2,3,4,5,6,7,8,9,11],[0,1,2,3,4,5,6,7,8,9,10,11,12]] [35,36,37,38,39,40,41,42,34,43,44,11] [] (by kernel_rfl) (by kernel_rfl) (by kernel_rfl) (by kernel_rfl) (by exact trivial) ?_)|(refine And.intro ?_ ?_;(try simp only[sxO]at *);omega)|fail)<;>(try simp (maxSteps:=1000000) only [olSt,hu3.one,hu3.len,hu3.sl,hv3.one,hv3.len,hv3.sl,hnn,hnu,p1,d1,b1,b2,b3,b4,hat,hac,hcc,hE,we,hw1.one,hw2.one,hF1.n.one,hF1.d.one,↓hold_pre,awayP,runOps,regK,step1,newK,genR,appR,obl,buildR,Value.cells,closeK,keepH,outV,retK,ret1,retC,RetV,Option.getD,runD,stepD,afterK,undef,simprocAttr,sxB,↓sxD,sxE,sxTab]))
 have c1:Mem.le M3 M4:=c1
 have hF4:=hF1.le c1
 have hw1':=hw1.le c1
 have hw2':=hw2.le c1
 refine Stop.go ?_
 refine Go1.mk ?_;repeat' ((first|(with_reducible refine Go1.go ?_)|(((with_reducible refine isCall0 (f:=21) ?_);refine callA0_nil (by kernel_rfl) ?_;refine (fmul_ok hF4 ⟨c2,c3,okN_ofN _,okN_ofN _,by omega,by omega⟩ (fun v1 v2 M5 f1 f2 f3 f4 f5=>Stop.mk ?_))))|((with_reducible refine isDraw [some 35,some 36,some 37,some 38,some 39,some 40,some 41,some 42,some 34,some 43,some 44,some 11,none,some 12] (by decide) ?_);refine draw_rule [(0,[]),(1,[]),(2,[]),(3,[]),(4,[]),(5,[4]),(11,[4]),(6,[4]),(7,[]),(8,[]),(9,[]),(10,[]),(12,[]),(13,[])] [[],[],[0,1],[0,1,2],[0,1,2,3],[],[5],[0,1,2,3,4,5,6],[0,1,2,3,4,5,6,7],[0,1,2,3,4,5,6,7,8],[0,1,2,3,4,5,6,7,8],[],[0,1,2,3,4,5,6,7,8,9,11],[0,1,2,3,4,5,6,7,8,9,10,11,12]] [35,36,37,38,39,40,41,42,34,43,44,11] [] (by kernel_rfl) (by kernel_rfl) (by kernel_rfl) (by kernel_rfl) (by exact trivial) ?_)|(refine And.intro ?_ ?_;(try simp only[sxO]at *);omega)|fail)<;>(try simp (maxSteps:=1000000) only [hF4.n.one,hF4.d.one,c2.one,c3.one,↓hold_pre,awayP,runOps,regK,step1,newK,genR,appR,obl,buildR,Value.cells,closeK,keepH,outV,retK,ret1,retC,RetV,Option.getD,runD,stepD,afterK,undef,simprocAttr,sxB,↓sxD,sxE,sxTab]))
 have f1:Mem.le M4 M5:=f1
 have hw1':=hw1'.le f1
 have hw2':=hw2'.le f1
 have d2:decide ((mulF y1 y2 (ofN E) (ofN 1)).1=0)=true:=decide_eq_true t0
 refine Stop.go ?_
 refine Go1.mk ?_;repeat' ((first|(with_reducible refine Go1.go ?_)|(((with_reducible refine isCall (f:=42) ?_);refine callA_nil (by kernel_rfl) ?_;refine (fadd_ok ⟨hw1',hw2',okN_ofN _,okN_ofN _,by omega,by omega⟩ ⟨f2,f3,okN_ofN _,okN_ofN _,by omega,by omega⟩ (fun v3 v4 M6 g1 g2 g3 g4 g5=>Stop.mk ?_))))|((with_reducible refine isDraw [some 35,some 36,some 37,some 38,some 39,some 40,some 41,some 42,some 34,some 43,some 44,some 11,none,some 12] (by decide) ?_);refine draw_rule [(0,[]),(1,[]),(2,[]),(3,[]),(4,[]),(5,[4]),(11,[4]),(6,[4]),(7,[]),(8,[]),(9,[]),(10,[]),(12,[]),(13,[])] [[],[],[0,1],[0,1,2],[0,1,2,3],[],[5],[0,1,2,3,4,5,6],[0,1,2,3,4,5,6,7],[0,1,2,3,4,5,6,7,8],[0,1,2,3,4,5,6,7,8],[],[0,1,2,3,4,5,6,7,8,9,11],[0,1,2,3,4,5,6,7,8,9,10,11,12]] [35,36,37,38,39,40,41,42,34,43,44,11] [] (by kernel_rfl) (by kernel_rfl) (by kernel_rfl) (by kernel_rfl) (by exact trivial) ?_)|(refine And.intro ?_ ?_;(try simp only[sxO]at *);omega)|fail)<;>(try simp (maxSteps:=1000000) only [f2.one,f3.one,hw1'.one,hw2'.one,d2,↓hold_pre,awayP,runOps,regK,step1,newK,genR,appR,obl,buildR,Value.cells,closeK,keepH,outV,retK,ret1,retC,RetV,Option.getD,runD,stepD,afterK,undef,simprocAttr,sxB,↓sxD,sxE,sxTab]))
 have g1:Mem.le M5 M6:=g1
 rw[hadd]at g2 g3
 have d3:decide ((addF (ofN n) (ofN d) (ofN (mulF y1 y2 (ofN E) (ofN 1)).2.1) (ofN (mulF y1 y2 (ofN E) (ofN 1)).2.2)).1=0)=true:=by rw[hadd];exact decide_eq_true s1
 refine Stop.go ?_
 refine Go1.mk ?_;repeat' ((first|(with_reducible refine Go1.go ?_)|((with_reducible refine isDraw [some 35,some 36,some 37,some 38,some 39,some 40,some 41,some 42,some 34,some 43,some 44,some 11,none,some 12] (by decide) ?_);refine draw_rule [(0,[]),(1,[]),(2,[]),(3,[]),(4,[]),(5,[4]),(11,[4]),(6,[4]),(7,[]),(8,[]),(9,[]),(10,[]),(12,[]),(13,[])] [[],[],[0,1],[0,1,2],[0,1,2,3],[],[5],[0,1,2,3,4,5,6],[0,1,2,3,4,5,6,7],[0,1,2,3,4,5,6,7,8],[0,1,2,3,4,5,6,7,8],[],[0,1,2,3,4,5,6,7,8,9,11],[0,1,2,3,4,5,6,7,8,9,10,11,12]] [35,36,37,38,39,40,41,42,34,43,44,11] [] (by kernel_rfl) (by kernel_rfl) (by kernel_rfl) (by kernel_rfl) (by exact trivial) ?_)|(refine And.intro ?_ ?_;(try simp only[sxO]at *);omega)|fail)<;>(try simp (maxSteps:=1000000) only [g2.one,g3.one,d3,wi,↓hold_pre,awayP,runOps,regK,step1,newK,genR,appR,obl,buildR,Value.cells,closeK,keepH,outV,retK,ret1,retC,RetV,Option.getD,runD,stepD,afterK,undef,simprocAttr,sxB,↓sxD,sxE,sxTab]))
 have hMM:=(c1.trans f1).trans g1
 exact ⟨o.length-(i+1),olSt M6 u v v3 v4 o.length (i+1) (E:Int),by omega,le_sub ⟨rfl,rfl,rfl,rfl,rfl,rfl,rfl,trivial⟩ ⟨rfl,rfl,trivial⟩ rfl rfl rfl (keepLt0 _),M6,v3,v4,_,_,i+1,(E:Int),rfl,by omega,hM.trans hMM,g2,g3,g4.le (hM1.trans (c1.trans f1)),g5.le (hM1.trans (c1.trans f1)),s2,by omega,by omega,hp,rfl⟩
end
def sbV(l:Bst):Value:=.string (bs l)
def irC(L:List IR):List AV:=(L.flatMap IR.c).map .ext
theorem irC_len(L:List IR):(irC L).length=L.length*5:=by
 unfold irC
 rw[List.length_map,flat_len (z:=5) (fun _=>rfl)]
theorem irC_ment(L:List IR):mentL (irC L)=[]:=mentL_ext _
theorem irC_kill(k:Nat)(L:List IR):killL k (irC L)=irC L:=killL_ext _ _
theorem irC_app(L:List IR)(x:IR):irC L++[.ext (.string (bs x.pk)),.ext (.string (bs x.ts)),.ext x.u1,.ext x.u2,.ext (.int .i64 x.cost)]=irC (L++[x]):=by simp[irC,IR.c]
structure ItOK (M:Mem) (x:IR):Prop where
 ok:x.ok M
 chk:chkI x=true
theorem ItOK.le{M M':Mem}{x:IR}(h:ItOK M x)(hM:Mem.le M M'):ItOK M' x:=⟨h.ok.le hM,h.chk⟩
theorem itOK_of{M:Mem}{w1 w2:Value}{n d:Nat}(pk ts:Bst)(c:Nat)(h1:IsL M u32V w1 (ofN n))(h2:IsL M u32V w2 (ofN d))(hn:n<4294967296)(hd0:0<d)(hd:d<4294967296)(hg:Nat.gcd n d=1)(hc:0<c)(hc2:c≤1048576):ItOK M ⟨pk,ts,w1,w2,ofN n,ofN d,(c:Int)⟩:=by
 have e1:(ofN n).length≤1:=ofN_len_le (by rw[show wN 1=4294967296 from rfl];exact hn)
 have e2:(ofN d).length≤1:=ofN_len_le (by rw[show wN 1=4294967296 from rfl];exact hd)
 refine ⟨⟨⟨h1,h2,okN_ofN _,okN_ofN _,by simp only;omega,by simp only;omega⟩,by simp only;omega,by simp only;omega⟩,?_⟩
 unfold chkI chkF
 simp only
 rw[chkN_ofN (by omega),chkN_ofN (by omega),valN_ofN,valN_ofN,hg,decide_eq_false (show ¬d=0 by omega),decide_eq_true e1,decide_eq_true e2,decide_eq_true (show (1:Int)≤(c:Int) by omega),decide_eq_true (show (c:Int)≤1048576 by omega)];rfl
theorem sml_low(num den:Nat)(hn:num≤2147483648)(hd:0<den)(hd2:den≤2147483648):num / Nat.gcd num den<4294967296∧0<den / Nat.gcd num den∧den / Nat.gcd num den<4294967296∧Nat.gcd (num / Nat.gcd num den) (den / Nat.gcd num den)=1:=by
 have hg0:0<Nat.gcd num den:=Nat.gcd_pos_of_pos_right _ hd
 have h1:=Nat.div_le_self num (Nat.gcd num den)
 have h2:=Nat.div_le_self den (Nat.gcd num den)
 exact ⟨by omega,Nat.div_pos (Nat.gcd_le_right num hd) hg0,by omega,Nat.gcd_div_gcd_div_gcd_of_pos_right hd⟩
section
variable {M:Mem}{K:AV→Hp→Mem→Prop}
theorem item_ok(ts:Bst)(num den:Nat)(cost:Int)(hn:num≤2147483648)(hd:0<den)(hd2:den≤2147483648)
  (hK:∀w1 w2 M',Mem.le M M'→IsL M' u32V w1 (ofN (num / Nat.gcd num den))→IsL M' u32V w2 (ofN (den / Nat.gcd num den))→FreshS M w1→FreshS M w2→K (.ext (.agg #[.string (bs [112]),.string (bs ts),w1,w2,.int .i64 cost])) [] M'):CallS Try.prog 19 [.ext (.string (bs ts)),.ext (.int .i64 (num:Int)),.ext (.int .i64 (den:Int)),.ext (.int .i64 cost)] [] M [] K:=by
 refine inlS (cs:=[]) Try.mixed Try.func19 rfl (by kernel_rfl) 0 rfl rfl ?_
 simp only[Try.f19]
 refine Go1.mk ?_;repeat' ((first|(with_reducible refine Go1.go ?_)|(((with_reducible refine isCall (f:=22) ?_);refine callA_nil (by kernel_rfl) ?_;refine (sml_ok num den hn hd hd2 (fun w1 w2 M1 a1 a2 a3 a4 a5=>Stop.mk ?_))))|(refine And.intro ?_ ?_;(try simp only[sxO]at *);omega)|fail)<;>(try simp (maxSteps:=1000000) only [bs_mk,bs_app,bs_ext,bs_size,bs_toList,bs_at,bs_cells,List.take_length,imp_ga,guard_pk,guard_pk2,↓hold_pre,awayP,runOps,regK,step1,newK,genR,appR,obl,buildR,Value.cells,closeK,keepH,outV,retK,ret1,retC,RetV,Option.getD,runD,stepD,afterK,undef,simprocAttr,sxB,↓sxD,sxE,sxTab]))
 have hk:=hK w1 w2 M1 a1 a2 a3 a4 a5
 refine Stop.go ?_
 refine Go1.mk ?_;repeat' ((first|(with_reducible refine Go1.go ?_)|(refine And.intro ?_ ?_;(try simp only[sxO]at *);omega)|fail)<;>(try simp (maxSteps:=1000000) only [a2.one,a3.one,bs_mk,bs_app,bs_ext,bs_size,bs_toList,bs_at,bs_cells,List.take_length,imp_ga,guard_pk,guard_pk2,↓hold_pre,awayP,runOps,regK,step1,newK,genR,appR,obl,buildR,Value.cells,closeK,keepH,outV,retK,ret1,retC,RetV,Option.getD,runD,stepD,afterK,undef,simprocAttr,sxB,↓sxD,sxE,sxTab]))
 exact hk
end
section
variable {M:Mem}{K:AV→Hp→Mem→Prop}
theorem one31a_ok(u:Value)(l:List Int)(p:Nat)(L:List Bst)(hL:L.length=4)(hu:IsL M intV64 u l)(hp:p<1000000)(hK:∀x∈L,K (.ext (.string (bs x))) [(31,25,[.ext u,.ext (.int .i64 ((p+1:Nat):Int))]),(49,9,cE sbV L)] M) :
  CallS Try.prog 34 [.own 31 0,.slo 49 0 4 1] [(49,9,cE sbV L),(31,25,[.ext u,.ext (.int .i64 ((p:Nat):Int))])] M [] K:=by
 refine inlS (cs:=[]) Try.mixed Try.func34 rfl (by kernel_rfl) 50 rfl rfl ?_
 simp only[Try.f34]
 (try with_reducible refine Fz.of ?_);refine Go1.mk ?_;repeat' ((first|(with_reducible refine Go1.go ?_)|((with_reducible refine isCall (f:=18) ?_);refine callA ?_)|((with_reducible refine isCallS (f:=18) ?_);refine (nextI_ok 31 u l p 4 hu (by omega) (by omega) (by omega) (fun x hx0 hx1=>Stop.mk ?_)))|(refine And.intro ?_ ?_;(try simp only[sxO]at *);omega)|fail)<;>(try simp (maxSteps:=1000000) only [cE_ment,cE_len,cE_kill,hasK_nil,Nat.mul_one,hu.one,bs_mk,bs_app,bs_ext,bs_size,bs_toList,bs_at,bs_cells,List.take_length,imp_ga,guard_pk,guard_pk2,↓hold_pre,awayP,runOps,regK,step1,newK,genR,appR,obl,buildR,Value.cells,closeK,keepH,outV,retK,ret1,retC,RetV,Option.getD,runD,stepD,afterK,undef,simprocAttr,sxB,↓sxD,sxE,sxTab]))
 obtain ⟨j,rfl⟩:=Int.eq_ofNat_of_zero_le hx0
 have hj:j<L.length:=by omega
 have hat:=cE_at sbV hj
 have hm:L[j]∈L:=List.getElem_mem hj
 have a1:(0:Int)≤(j:Int):=by omega
 have a2:(j:Int)<4:=by omega
 have a3:(j:Int)<((4:Nat):Int):=by omega
 generalize L[j]=y at *
 refine Stop.go ?_
 (try with_reducible refine Fz.of ?_);refine Go1.mk ?_;repeat' ((first|(with_reducible refine Go1.go ?_)|(refine And.intro ?_ ?_;(try simp only[sxO]at *);omega)|fail)<;>(try simp (maxSteps:=1000000) only [cE_ment,cE_len,cE_kill,hasK_nil,Nat.mul_one,hu.one,hat,a1,a2,a3,sbV,bs_mk,bs_app,bs_ext,bs_size,bs_toList,bs_at,bs_cells,List.take_length,imp_ga,guard_pk,guard_pk2,↓hold_pre,awayP,runOps,regK,step1,newK,genR,appR,obl,buildR,Value.cells,closeK,keepH,outV,retK,ret1,retC,RetV,Option.getD,runD,stepD,afterK,undef,simprocAttr,sxB,↓sxD,sxE,sxTab]))
 exact hK _ hm
theorem one31b_ok(u:Value)(l:List Int)(p:Nat)(L:List Bst)(hL:L.length=2)(hu:IsL M intV64 u l)(hp:p<1000000)(hK:∀x∈L,K (.ext (.string (bs x))) [(31,25,[.ext u,.ext (.int .i64 ((p+1:Nat):Int))]),(61,9,cE sbV L)] M) :
  CallS Try.prog 34 [.own 31 0,.slo 61 0 2 1] [(61,9,cE sbV L),(31,25,[.ext u,.ext (.int .i64 ((p:Nat):Int))])] M [] K:=by
 refine inlS (cs:=[]) Try.mixed Try.func34 rfl (by kernel_rfl) 62 rfl rfl ?_
 simp only[Try.f34]
 (try with_reducible refine Fz.of ?_);refine Go1.mk ?_;repeat' ((first|(with_reducible refine Go1.go ?_)|((with_reducible refine isCall (f:=18) ?_);refine callA ?_)|((with_reducible refine isCallS (f:=18) ?_);refine (nextI_ok 31 u l p 2 hu (by omega) (by omega) (by omega) (fun x hx0 hx1=>Stop.mk ?_)))|(refine And.intro ?_ ?_;(try simp only[sxO]at *);omega)|fail)<;>(try simp (maxSteps:=1000000) only [cE_ment,cE_len,cE_kill,hasK_nil,Nat.mul_one,hu.one,bs_mk,bs_app,bs_ext,bs_size,bs_toList,bs_at,bs_cells,List.take_length,imp_ga,guard_pk,guard_pk2,↓hold_pre,awayP,runOps,regK,step1,newK,genR,appR,obl,buildR,Value.cells,closeK,keepH,outV,retK,ret1,retC,RetV,Option.getD,runD,stepD,afterK,undef,simprocAttr,sxB,↓sxD,sxE,sxTab]))
 obtain ⟨j,rfl⟩:=Int.eq_ofNat_of_zero_le hx0
 have hj:j<L.length:=by omega
 have hat:=cE_at sbV hj
 have hm:L[j]∈L:=List.getElem_mem hj
 have a1:(0:Int)≤(j:Int):=by omega
 have a2:(j:Int)<2:=by omega
 have a3:(j:Int)<((2:Nat):Int):=by omega
 generalize L[j]=y at *
 refine Stop.go ?_
 (try with_reducible refine Fz.of ?_);refine Go1.mk ?_;repeat' ((first|(with_reducible refine Go1.go ?_)|(refine And.intro ?_ ?_;(try simp only[sxO]at *);omega)|fail)<;>(try simp (maxSteps:=1000000) only [cE_ment,cE_len,cE_kill,hasK_nil,Nat.mul_one,hu.one,hat,a1,a2,a3,sbV,bs_mk,bs_app,bs_ext,bs_size,bs_toList,bs_at,bs_cells,List.take_length,imp_ga,guard_pk,guard_pk2,↓hold_pre,awayP,runOps,regK,step1,newK,genR,appR,obl,buildR,Value.cells,closeK,keepH,outV,retK,ret1,retC,RetV,Option.getD,runD,stepD,afterK,undef,simprocAttr,sxB,↓sxD,sxE,sxTab]))
 exact hK _ hm
def itSt31(M:Mem)(u:Value)(p n m:Nat)(L:List IR):St:={env:=[(6,.ext (.int .i64 (n:Int))),(5,.slo 37 0 m 5),(4,.ext (.slice none 0 0)),(0,.own 31 0)],hp:=[(37,46,irC L),(31,25,[.ext u,.ext (.int .i64 ((p:Nat):Int))])],M:=M,kb:=32,fx:=[31]}
def icSt31(M:Mem)(u:Value)(p n m:Nat)(L:List IR)(x:IR):St:={env:=[(7,.own 39 0),(6,.ext (.int .i64 (n:Int))),(5,.slo 37 0 m 5),(4,.ext (.slice none 0 0)),(0,.own 31 0)],hp:=[(39,46,[.ext (.string (bs x.pk)),.ext (.string (bs x.ts)),.ext x.u1,.ext x.u2,.ext (.int .i64 x.cost)]),(37,46,irC L),(31,25,[.ext u,.ext (.int .i64 ((p:Nat):Int))])],M:=M,kb:=32,fx:=[31]}
end
mutual
def AV.sw(σ:Nat→Nat):AV→AV
 | .own j off=>.own (σ j) off
 | .gown g j off=>.gown g (σ j) off
 | .slo j off n z=>.slo (σ j) off n z
 | .fn f l=>.fn f (swL σ l)
 | .bm f l=>.bm f (swL σ l)
 | .ag t l=>.ag t (swL σ l)
 | .ext v=>.ext v
 | .gd g v=>.gd g v
 | .unk=>.unk
def swL(σ:Nat→Nat):List AV→List AV
 | []=>[]
 | v :: r=>v.sw σ :: swL σ r
end
def swE(σ:Nat→Nat):Env→Env
 | []=>[]
 | (t,v) :: r=>(t,v.sw σ) :: swE σ r
def swH(σ:Nat→Nat):Hp→Hp
 | []=>[]
 | (j,T,cs) :: r=>(σ j,T,swL σ cs) :: swH σ r
theorem swL_ext(σ:Nat→Nat):∀l:List Value,swL σ (l.map .ext)=l.map .ext
 | []=>rfl
 | v :: l=>by simp only[List.map_cons,swL,AV.sw,swL_ext σ l]
theorem swL_len(σ:Nat→Nat):∀l:List AV,(swL σ l).length=l.length
 | []=>rfl
 | v :: l=>by simp only[swL,List.length_cons,swL_len σ l]
theorem swL_get(σ:Nat→Nat):∀(l:List AV) (i:Nat),(swL σ l)[i]? = (l[i]?).map (AV.sw σ)
 | [],i=>by simp[swL]
 | v :: l,0=>rfl
 | v :: l,i+1=>by simp only[swL,List.getElem?_cons_succ,swL_get σ l i]
mutual
theorem is_sw{σ:Nat→Nat}(hσ:∀k,σ (σ k)=k){ρ:Rho}:∀{v:AV} {u:Value},v.is ρ u→(v.sw σ).is (fun k=>ρ (σ k)) u
 | .ext v,u,hv=>hv
 | .gd g v,u,hv=>hv
 | .own k o,u,hv=>by
  obtain ⟨b,hb,e⟩:=hv
  exact ⟨b,by show ρ (σ (σ k))=some b;rw[hσ];exact hb,e⟩
 | .gown g k o,u,hv=>by
  have hv:if g=true then ∃b,ρ k=some b∧u=ptr b.b o else u=undef:=hv
  show if g=true then ∃b,ρ (σ (σ k))=some b∧u=ptr b.b o else u=undef
  rw[hσ];exact hv
 | .slo k o n z,u,hv=>by
  rcases hv with ⟨b,cap,hb,e⟩|h2
  ·exact .inl ⟨b,cap,by show ρ (σ (σ k))=some b;rw[hσ];exact hb,e⟩
  ·exact .inr h2
 | .fn f l,u,hv=>by obtain ⟨us,h1,e⟩:=hv;exact ⟨us,isL_sw hσ h1,e⟩
 | .bm f l,u,hv=>by obtain ⟨us,h1,e⟩:=hv;exact ⟨us,isL_sw hσ h1,e⟩
 | .ag t l,u,hv=>by obtain ⟨us,h1,e⟩:=hv;exact ⟨us,isL_sw hσ h1,e⟩
 | .unk,u,hv=>trivial
theorem isL_sw{σ:Nat→Nat}(hσ:∀k,σ (σ k)=k){ρ:Rho}:∀{l:List AV} {us:List Value},isL ρ l us→isL (fun k=>ρ (σ k)) (swL σ l) us
 | [],us,hv=>hv
 | v :: l,us,hv=>by
  obtain ⟨u,r,e,h1,h2⟩:=hv
  exact ⟨u,r,e,is_sw hσ h1,isL_sw hσ h2⟩
end
theorem swE_lk(σ:Nat→Nat):∀(E:Env) (t:Nat),lk (swE σ E) t=(lk E t).sw σ
 | [],t=>rfl
 | (d,v) :: r,t=>by
  simp only[swE,lk]
  split
  ·rfl
  ·exact swE_lk σ r t
theorem swH_lk{σ:Nat→Nat}(hσ:∀k,σ (σ k)=k):∀(H:Hp) (j:Nat),lkH (swH σ H) j=(lkH H (σ j)).map fun x=>(x.1,swL σ x.2)
 | [],j=>rfl
 | (k,T,cs) :: r,j=>by
  simp only[swH,lkH]
  by_cases e:σ k=j
  ·rw[if_pos e,if_pos (by rw[←e,hσ])];rfl
  ·rw[if_neg e,if_neg (fun h=>e (by rw[h,hσ]))];exact swH_lk hσ r j
theorem le_sw{s:St}(σ:Nat→Nat)(hσ:∀k,σ (σ k)=k)(hkb:∀k,k<s.kb→σ k=k)(hfx:∀k∈s.fx,σ k=k):Le s {env:=swE σ s.env,hp:=swH σ s.hp,M:=s.M,kb:=s.kb,fx:=s.fx,fr:=s.fr}:=fun c n ρ a w g=>by
 have hlk:∀j x,lkH (swH σ s.hp) j=some x→∃cs,lkH s.hp (σ j)=some (x.1,cs)∧x.2=swL σ cs:=fun j x h=>by
  rw[swH_lk hσ]at h
  cases h2:lkH s.hp (σ j) with
  | none=>rw[h2]at h;cases h
  | some y=>rw[h2]at h;cases h;exact ⟨y.2,rfl,rfl⟩
 have hsome:∀j,(lkH (swH σ s.hp) j).isSome=true→(lkH s.hp (σ j)).isSome=true:=fun j h=>by
  rw[swH_lk hσ,Option.isSome_map]at h;exact h
 refine ⟨fun k=>ρ (σ k),{df:=g.df,sz:=g.sz,env:=fun t=>?_,hp:=fun j T' ds b hj hb=>?_,no:=fun j T' ds hj hb=>?_,inj:=fun j j' b b' hj hj' hb hb' e=>?_,os:=g.os,tape:=g.tape,output:=g.output,size:=g.size,block:=g.block,sub:=g.sub,le:=g.le,mf:=g.mf,fix:=fun j hj=>?_,fx:=fun j hj=>?_,kl:=g.kl,fr:=g.fr}⟩
 ·show (lk (swE σ s.env) t).is _ _
  rw[swE_lk];exact is_sw hσ (g.env t)
 ·obtain ⟨cs,h1,h2⟩:=hlk j _ hj
  obtain ⟨⟨arr,f1⟩,f2⟩:=g.hp (σ j) _ _ b h1 hb
  have h2:ds=swL σ cs:=h2
  refine ⟨⟨arr,f1.there,f1.size,by rw[h2,swL_len];exact f1.le,fun p v hv=>?_⟩,f2⟩
  rw[h2,swL_get]at hv
  cases h3:cs[p]? with
  | none=>rw[h3]at hv;cases hv
  | some y=>rw[h3]at hv;cases hv;exact is_sw hσ (f1.is p y h3)
 ·obtain ⟨cs,h1,h2⟩:=hlk j _ hj
  have:=g.no (σ j) _ _ h1 hb
  subst this
  exact h2
 ·have:=g.inj (σ j) (σ j') b b' (hsome j hj) (hsome j' hj') hb hb' e
  rw[←hσ j,this,hσ]
 ·show (lkH (swH σ s.hp) j).isSome=true
  rw[swH_lk hσ,Option.isSome_map,hkb j (g.kl j hj)];exact g.fix j hj
 ·show ρ (σ j)=_
  rw[hfx j hj];exact g.fx j hj
theorem le_nilI{s:St}(k i K:Nat)(T TT:TypeId)(cs:List AV)(zz:Nat)(h0:lkH s.hp k=some (TT,cs))(h1:cs[i]? = some (.ext (.slice none 0 0)))(h2:awayP K s):Le s {env:=s.env,hp:=(K,T,[]) :: upH s.hp k (cs.set i (.slo K 0 0 zz)),M:=s.M,kb:=s.kb,fx:=s.fx,fr:=s.fr}:=fun c n ρ av w g=>by
 have hkK:k≠K:=(awayP_hp h2 k TT cs h0).1
 have hlk:∀j x,lkH ((K,T,[]) :: upH s.hp k (cs.set i (.slo K 0 0 zz))) j=some x→(j=K∧x=(T,[]))∨(j≠K∧j≠k∧lkH s.hp j=some x)∨(j=k∧x=(TT,cs.set i (.slo K 0 0 zz))):=fun j x hj=>by
  simp only[lkH]at hj
  by_cases e:K=j
  ·rw[if_pos e]at hj;exact .inl ⟨e.symm,(Option.some.inj hj).symm⟩
  ·rw[if_neg e,lkH_upH]at hj
   by_cases e2:k=j
   ·rw[if_pos e2,h0]at hj
    exact .inr (.inr ⟨e2.symm,(Option.some.inj hj).symm⟩)
   ·rw[if_neg e2]at hj
    exact .inr (.inl ⟨fun h=>e h.symm,fun h=>e2 h.symm,hj⟩)
 have hsome:∀j,j≠K→(lkH ((K,T,[]) :: upH s.hp k (cs.set i (.slo K 0 0 zz))) j).isSome=true→(lkH s.hp j).isSome=true:=fun j hj h=>by
  obtain ⟨x,hx⟩:=Option.isSome_iff_exists.1 h
  rcases hlk j x hx with ⟨h,_⟩|⟨_,_,h⟩|⟨h,_⟩
  ·exact absurd h hj
  ·rw[h];rfl
  ·rw[h,h0];rfl
 refine ⟨upd ρ K none,{df:=g.df,sz:=g.sz,env:=fun t'=>is_upd (awayP_env h2 t') (g.env t'),hp:=fun j T' cs' b hj hb=>?_,no:=fun j T' cs' hj hb=>?_,inj:=fun j j' b b' hj hj' hb hb' e=>?_,os:=g.os,tape:=g.tape,output:=g.output,size:=g.size,block:=g.block,sub:=g.sub,le:=g.le,mf:=g.mf,fix:=fun j hj=>?_,fx:=fun j hj=>?_,kl:=g.kl,fr:=g.fr}⟩
 ·rcases hlk j _ hj with ⟨rfl,hx⟩|⟨hne,hne2,hx⟩|⟨rfl,hx⟩
  ·rw[upd_self]at hb;cases hb
  ·rw[upd_ne _ _ hne]at hb
   obtain ⟨⟨arr,f1⟩,f2⟩:=g.hp j T' cs' b hx hb
   exact ⟨⟨arr,f1.there,f1.size,f1.le,fun i v hv=>is_upd (fun hm=>(awayP_hp h2 j T' cs' hx).2 (mentL_get hv hm)) (f1.is i v hv)⟩,f2⟩
  ·rw[upd_ne _ _ hkK]at hb
   cases hx
   obtain ⟨⟨arr,f1⟩,f2⟩:=g.hp j TT cs b h0 hb
   refine ⟨⟨arr,f1.there,f1.size,by rw[List.length_set];exact f1.le,fun i' v hv=>?_⟩,f2⟩
   rw[List.getElem?_set]at hv
   split at hv
   ·rename_i e
    subst e
    split at hv
    ·obtain rfl:=Option.some.inj hv
     have:=f1.is i _ h1
     exact .inr ⟨rfl,none,(fun x e=>by cases e),this⟩
    ·cases hv
   ·exact is_upd (fun hm=>(awayP_hp h2 j TT cs h0).2 (mentL_get hv hm)) (f1.is i' v hv)
 ·rcases hlk j _ hj with ⟨rfl,hx⟩|⟨hne,hne2,hx⟩|⟨rfl,hx⟩
  ·cases hx;rfl
  ·rw[upd_ne _ _ hne]at hb;exact g.no j T' cs' hx hb
  ·rw[upd_ne _ _ hkK]at hb
   have:=g.no j TT cs h0 hb
   subst this
   cases h1
 ·by_cases e1:j=K
  ·rw[e1,upd_self]at hb;cases hb
  ·by_cases e2:j'=K
   ·rw[e2,upd_self]at hb';cases hb'
   ·rw[upd_ne _ _ e1]at hb
    rw[upd_ne _ _ e2]at hb'
    exact g.inj j j' b b' (hsome j e1 hj) (hsome j' e2 hj') hb hb' e
 ·have:=g.fix j hj
  simp only[lkH]
  split
  ·rfl
  ·rw[lkH_upH]
   split
   ·simpa using by rename_i e;rw[←e]at this;exact this
   ·exact this
 ·rw[upd_ne _ _ fun e=>awayP_fx h2 (by rw[←e];exact hj)];exact g.fx j hj
section
variable {M:Mem}{K:AV→Hp→Mem→Prop}
def smlOSt5(M:Mem)(num den:Nat)(a b:Nat):St:={env:=[(6,.ext (.int .i64 (b:Int))),(5,.ext (.int .i64 (a:Int))),(4,.own 5004 0),(0,.ext (.int .i64 (num:Int))),(1,.ext (.int .i64 (den:Int)))],hp:=[(5004,34,[.ext (.slice none 0 0),.ext (.slice none 0 0)])],M:=M,kb:=5000,fx:=[]}
def smlOB5(M:Mem)(d:Nat):St:={env:=[(7,.own 5007 0),(4,.own 5004 0)],hp:=[(5007,34,[.ext (.slice none 0 0),.slo 5020 0 1 1]),(5020,55,[.ext (u32V d)]),(5004,34,[.ext (.slice none 0 0),.ext (.slice none 0 0)])],M:=M,kb:=5000,fx:=[]}
def smlOC5(M:Mem)(A B:List Nat):St:={env:=[(7,.own 5007 0),(4,.own 5004 0)],hp:=[(5007,34,[.slo 5028 0 A.length 1,.slo 5020 0 B.length 1]),(5028,55,cE u32V A),(5020,55,cE u32V B),(5004,34,[.ext (.slice none 0 0),.ext (.slice none 0 0)])],M:=M,kb:=5000,fx:=[]}
theorem smlO5_ok(num den:Nat)(hn:num≤2147483648)(hd:0<den)(hd2:den≤2147483648)
  (hK:∀A B,A=ofN (num / Nat.gcd num den)→B=ofN (den / Nat.gcd num den)→K (.ag false [.slo 5028 0 A.length 1,.slo 5020 0 B.length 1]) [(5028,55,cE u32V A),(5020,55,cE u32V B)] M):CallS Try.prog 22 [.ext (.int .i64 (num:Int)),.ext (.int .i64 (den:Int))] [] M [] K:=by
 refine inlS (cs:=[7]) Try.mixed Try.func22 rfl (by kernel_rfl) 5000 rfl rfl ?_
 simp only[Try.f22]
 (try with_reducible refine Fz.of ?_);(replace hb0:=true_and True);refine Go1.mk ?_;repeat' ((first|(with_reducible refine Go1.go ?_)|((with_reducible first|refine brv_mk ?_ ?_|refine gsplitD ?_ ?_|refine gsplitG ?_ ?_)<;>intro h<;>(try simp only[Bool.not_eq_true',Bool.not_eq_false']at h)<;>replace hb0:=h)|((with_reducible refine isDraw [some 12,some 13,some 14,some 15,some 5,some 6] (by decide) ?_);refine draw_rule [(0,[]),(1,[]),(2,[]),(3,[]),(4,[]),(5,[])] [[],[],[],[1,2],[0,1],[0,1,2,3,4]] [12,13,14,15] [5] (by kernel_rfl) (by kernel_rfl) (by kernel_rfl) (by kernel_rfl) (by exact ⟨rfl,trivial⟩) ?_)|(refine And.intro ?_ ?_;(try simp only[sxO]at *);omega)|fail)<;>(try simp (maxSteps:=1000000) only [hb0,↓hold_pre,awayP,runOps,regK,step1,newK,genR,appR,obl,buildR,Value.cells,closeK,keepH,outV,retK,ret1,retC,RetV,Option.getD,runD,stepD,afterK,undef,simprocAttr,sxB,↓sxD,sxE,sxTab]))
 refine ⟨fun m z=>∃a b,b=m∧Nat.gcd a b=Nat.gcd num den∧a≤2147483648∧b≤2147483648∧z=smlOSt5 M num den a b,⟨den,smlOSt5 M num den num den,le_sub ⟨rfl,rfl,rfl,rfl,rfl,trivial⟩ ⟨rfl,trivial⟩ rfl rfl rfl (keepLt_of rfl),⟨num,den,rfl,rfl,hn,hd2,rfl⟩⟩,?_⟩
 rintro m z ⟨a,b,rfl,hg,ha,hb,rfl⟩
 by_cases hb0:b=0
 case neg=>
  have d1:decide ((b:Int)=0)=false:=by rw[decide_eq_false_iff_not];omega
  have w1:(a:Int).tmod (b:Int)=((a % b:Nat):Int):=(Int.ofNat_tmod a b).symm
  have n1:((b:Int)=0)=False:=eq_false (fun h=>by omega)
  have hlt:=Nat.mod_lt a (show 0<b by omega)
  (try with_reducible refine Fz.of ?_);(replace hb0:=true_and True);refine Go1.mk ?_;repeat' ((first|(with_reducible refine Go1.go ?_)|((with_reducible first|refine brv_mk ?_ ?_|refine gsplitD ?_ ?_|refine gsplitG ?_ ?_)<;>intro h<;>(try simp only[Bool.not_eq_true',Bool.not_eq_false']at h)<;>replace hb0:=h)|((with_reducible refine isDraw [some 12,some 13,some 14,some 15,some 5,some 6] (by decide) ?_);refine draw_rule [(0,[]),(1,[]),(2,[]),(3,[]),(4,[]),(5,[])] [[],[],[],[1,2],[0,1],[0,1,2,3,4]] [12,13,14,15] [5] (by kernel_rfl) (by kernel_rfl) (by kernel_rfl) (by kernel_rfl) (by exact ⟨rfl,trivial⟩) ?_)|(refine And.intro ?_ ?_;(try simp only[sxO]at *);omega)|fail)<;>(try simp (maxSteps:=1000000) only [hb0,smlOSt5,d1,w1,n1,↓hold_pre,awayP,runOps,regK,step1,newK,genR,appR,obl,buildR,Value.cells,closeK,keepH,outV,retK,ret1,retC,RetV,Option.getD,runD,stepD,afterK,undef,simprocAttr,sxB,↓sxD,sxE,sxTab]))
  exact ⟨a % b,smlOSt5 M num den b (a % b),by omega,le_sub ⟨rfl,rfl,rfl,rfl,rfl,trivial⟩ ⟨rfl,trivial⟩ rfl rfl rfl (keepLt_of rfl),b,a % b,rfl,by rw[←hg,Nat.gcd_comm b,←Nat.gcd_rec,Nat.gcd_comm],hb,by omega,rfl⟩
 subst hb0
 rw[Nat.gcd_zero_right]at hg
 subst hg
 have hg0:0<Nat.gcd num den:=Nat.gcd_pos_of_pos_right _ hd
 have hq0:0<den / Nat.gcd num den:=Nat.div_pos (Nat.gcd_le_right num hd) hg0
 have hq1:den / Nat.gcd num den≤2147483648:=Nat.le_trans (Nat.div_le_self _ _) hd2
 have d1:decide (((0:Nat):Int)=0)=true:=by decide
 have n1:(((Nat.gcd num den:Nat):Int)=0)=False:=eq_false (fun h=>by omega)
 have w1:IntKind.i64.wrap ((den:Int).tdiv ((Nat.gcd num den:Nat):Int))=((den / Nat.gcd num den:Nat):Int):=by rw[←Int.ofNat_tdiv];exact wrap_id (by omega) (by omega)
 have w2:IntKind.u32.wrap ((den / Nat.gcd num den:Nat):Int)=((den / Nat.gcd num den:Nat):Int):=wrap32_id (by omega)
 (try with_reducible refine Fz.of ?_);(replace hb0:=true_and True);refine Go1.mk ?_;repeat' ((first|(with_reducible refine Go1.go ?_)|((with_reducible first|refine brv_mk ?_ ?_|refine gsplitD ?_ ?_|refine gsplitG ?_ ?_)<;>intro h<;>(try simp only[Bool.not_eq_true',Bool.not_eq_false']at h)<;>replace hb0:=h)|((with_reducible refine isDraw [some 12,some 13,some 14,some 15,some 5,some 6] (by decide) ?_);refine draw_rule [(0,[]),(1,[]),(2,[]),(3,[]),(4,[]),(5,[])] [[],[],[],[1,2],[0,1],[0,1,2,3,4]] [12,13,14,15] [5] (by kernel_rfl) (by kernel_rfl) (by kernel_rfl) (by kernel_rfl) (by exact ⟨rfl,trivial⟩) ?_)|(refine And.intro ?_ ?_;(try simp only[sxO]at *);omega)|fail)<;>(try simp (maxSteps:=1000000) only [hb0,smlOSt5,d1,n1,w1,w2,↓hold_pre,awayP,runOps,regK,step1,newK,genR,appR,obl,buildR,Value.cells,closeK,keepH,outV,retK,ret1,retC,RetV,Option.getD,runD,stepD,afterK,undef,simprocAttr,sxB,↓sxD,sxE,sxTab]))
 refine ⟨fun z=>∃A B,A=ofN (num / Nat.gcd num den)∧B=ofN (den / Nat.gcd num den)∧z=smlOC5 M A B,?_,?_⟩
 ·by_cases h0:num=0
  ·subst h0
   have d2:decide ((0:Int)<((0:Nat):Int))=false:=by decide
   (try with_reducible refine Fz.of ?_);(replace hb0:=true_and True);refine Go1.mk ?_;repeat' ((first|(with_reducible refine Go1.go ?_)|((with_reducible first|refine brv_mk ?_ ?_|refine gsplitD ?_ ?_|refine gsplitG ?_ ?_)<;>intro h<;>(try simp only[Bool.not_eq_true',Bool.not_eq_false']at h)<;>replace hb0:=h)|((with_reducible refine isDraw [some 12,some 13,some 14,some 15,some 5,some 6] (by decide) ?_);refine draw_rule [(0,[]),(1,[]),(2,[]),(3,[]),(4,[]),(5,[])] [[],[],[],[1,2],[0,1],[0,1,2,3,4]] [12,13,14,15] [5] (by kernel_rfl) (by kernel_rfl) (by kernel_rfl) (by kernel_rfl) (by exact ⟨rfl,trivial⟩) ?_)|(refine And.intro ?_ ?_;(try simp only[sxO]at *);omega)|fail)<;>(try simp (maxSteps:=1000000) only [hb0,d2,n1,w1,w2,↓hold_pre,awayP,runOps,regK,step1,newK,genR,appR,obl,buildR,Value.cells,closeK,keepH,outV,retK,ret1,retC,RetV,Option.getD,runD,stepD,afterK,undef,simprocAttr,sxB,↓sxD,sxE,sxTab]))
   refine ⟨smlOC5 M [] [den / Nat.gcd 0 den],Le.trans ?_ (Le.trans (le_nilI (s:=smlOB5 M (den / Nat.gcd 0 den)) 5007 0 5028 55 34 _ 1 rfl rfl (.inl rfl)) ?_),[],_,by rw[Nat.zero_div,ofN_zero],by rw[ofN_u32 hq0 (by omega)],rfl⟩
   ·exact le_sub ⟨rfl,rfl,trivial⟩ ⟨rfl,rfl,rfl,trivial⟩ rfl rfl rfl (keepLt_of rfl)
   ·exact le_sub ⟨rfl,rfl,trivial⟩ ⟨rfl,rfl,rfl,rfl,trivial⟩ rfl rfl rfl (keepLt_of rfl)
  ·have hp0:0<num / Nat.gcd num den:=Nat.div_pos (Nat.gcd_le_left den (by omega)) hg0
   have hp1:num / Nat.gcd num den≤2147483648:=Nat.le_trans (Nat.div_le_self _ _) hn
   have d2:decide ((0:Int)<(num:Int))=true:=by rw[decide_eq_true_eq];omega
   have w3:IntKind.i64.wrap ((num:Int).tdiv ((Nat.gcd num den:Nat):Int))=((num / Nat.gcd num den:Nat):Int):=by rw[←Int.ofNat_tdiv];exact wrap_id (by omega) (by omega)
   have w4:IntKind.u32.wrap ((num / Nat.gcd num den:Nat):Int)=((num / Nat.gcd num den:Nat):Int):=wrap32_id (by omega)
   (try with_reducible refine Fz.of ?_);(replace hb0:=true_and True);refine Go1.mk ?_;repeat' ((first|(with_reducible refine Go1.go ?_)|((with_reducible first|refine brv_mk ?_ ?_|refine gsplitD ?_ ?_|refine gsplitG ?_ ?_)<;>intro h<;>(try simp only[Bool.not_eq_true',Bool.not_eq_false']at h)<;>replace hb0:=h)|((with_reducible refine isDraw [some 12,some 13,some 14,some 15,some 5,some 6] (by decide) ?_);refine draw_rule [(0,[]),(1,[]),(2,[]),(3,[]),(4,[]),(5,[])] [[],[],[],[1,2],[0,1],[0,1,2,3,4]] [12,13,14,15] [5] (by kernel_rfl) (by kernel_rfl) (by kernel_rfl) (by kernel_rfl) (by exact ⟨rfl,trivial⟩) ?_)|(refine And.intro ?_ ?_;(try simp only[sxO]at *);omega)|fail)<;>(try simp (maxSteps:=1000000) only [hb0,d2,n1,w1,w2,w3,w4,↓hold_pre,awayP,runOps,regK,step1,newK,genR,appR,obl,buildR,Value.cells,closeK,keepH,outV,retK,ret1,retC,RetV,Option.getD,runD,stepD,afterK,undef,simprocAttr,sxB,↓sxD,sxE,sxTab]))
   exact ⟨smlOC5 M [num / Nat.gcd num den] [den / Nat.gcd num den],le_sub ⟨rfl,rfl,trivial⟩ ⟨rfl,rfl,rfl,rfl,trivial⟩ rfl rfl rfl (keepLt_of rfl),_,_,by rw[ofN_u32 hp0 (by omega)],by rw[ofN_u32 hq0 (by omega)],rfl⟩
 rintro z ⟨A,B,hA,hB,rfl⟩
 (try with_reducible refine Fz.of ?_);(replace hb0:=true_and True);refine Go1.mk ?_;repeat' ((first|(with_reducible refine Go1.go ?_)|((with_reducible first|refine brv_mk ?_ ?_|refine gsplitD ?_ ?_|refine gsplitG ?_ ?_)<;>intro h<;>(try simp only[Bool.not_eq_true',Bool.not_eq_false']at h)<;>replace hb0:=h)|((with_reducible refine isDraw [some 12,some 13,some 14,some 15,some 5,some 6] (by decide) ?_);refine draw_rule [(0,[]),(1,[]),(2,[]),(3,[]),(4,[]),(5,[])] [[],[],[],[1,2],[0,1],[0,1,2,3,4]] [12,13,14,15] [5] (by kernel_rfl) (by kernel_rfl) (by kernel_rfl) (by kernel_rfl) (by exact ⟨rfl,trivial⟩) ?_)|(refine And.intro ?_ ?_;(try simp only[sxO]at *);omega)|fail)<;>(try simp (maxSteps:=1000000) only [hb0,smlOC5,cE_ment,cE_kill,hasK_nil,↓hold_pre,awayP,runOps,regK,step1,newK,genR,appR,obl,buildR,Value.cells,closeK,keepH,outV,retK,ret1,retC,RetV,Option.getD,runD,stepD,afterK,undef,simprocAttr,sxB,↓sxD,sxE,sxTab]))
 exact hK A B hA hB
def smlOSt6(M:Mem)(num den:Nat)(a b:Nat):St:={env:=[(6,.ext (.int .i64 (b:Int))),(5,.ext (.int .i64 (a:Int))),(4,.own 6004 0),(0,.ext (.int .i64 (num:Int))),(1,.ext (.int .i64 (den:Int)))],hp:=[(6004,34,[.ext (.slice none 0 0),.ext (.slice none 0 0)])],M:=M,kb:=6000,fx:=[]}
def smlOB6(M:Mem)(d:Nat):St:={env:=[(7,.own 6007 0),(4,.own 6004 0)],hp:=[(6007,34,[.ext (.slice none 0 0),.slo 6020 0 1 1]),(6020,55,[.ext (u32V d)]),(6004,34,[.ext (.slice none 0 0),.ext (.slice none 0 0)])],M:=M,kb:=6000,fx:=[]}
def smlOC6(M:Mem)(A B:List Nat):St:={env:=[(7,.own 6007 0),(4,.own 6004 0)],hp:=[(6007,34,[.slo 6028 0 A.length 1,.slo 6020 0 B.length 1]),(6028,55,cE u32V A),(6020,55,cE u32V B),(6004,34,[.ext (.slice none 0 0),.ext (.slice none 0 0)])],M:=M,kb:=6000,fx:=[]}
theorem smlO6_ok(num den:Nat)(hn:num≤2147483648)(hd:0<den)(hd2:den≤2147483648)
  (hK:∀A B,A=ofN (num / Nat.gcd num den)→B=ofN (den / Nat.gcd num den)→K (.ag false [.slo 6028 0 A.length 1,.slo 6020 0 B.length 1]) [(6028,55,cE u32V A),(6020,55,cE u32V B)] M):CallS Try.prog 22 [.ext (.int .i64 (num:Int)),.ext (.int .i64 (den:Int))] [] M [] K:=by
 refine inlS (cs:=[7]) Try.mixed Try.func22 rfl (by kernel_rfl) 6000 rfl rfl ?_
 simp only[Try.f22]
 (try with_reducible refine Fz.of ?_);(replace hb0:=true_and True);refine Go1.mk ?_;repeat' ((first|(with_reducible refine Go1.go ?_)|((with_reducible first|refine brv_mk ?_ ?_|refine gsplitD ?_ ?_|refine gsplitG ?_ ?_)<;>intro h<;>(try simp only[Bool.not_eq_true',Bool.not_eq_false']at h)<;>replace hb0:=h)|((with_reducible refine isDraw [some 12,some 13,some 14,some 15,some 5,some 6] (by decide) ?_);refine draw_rule [(0,[]),(1,[]),(2,[]),(3,[]),(4,[]),(5,[])] [[],[],[],[1,2],[0,1],[0,1,2,3,4]] [12,13,14,15] [5] (by kernel_rfl) (by kernel_rfl) (by kernel_rfl) (by kernel_rfl) (by exact ⟨rfl,trivial⟩) ?_)|(refine And.intro ?_ ?_;(try simp only[sxO]at *);omega)|fail)<;>(try simp (maxSteps:=1000000) only [hb0,↓hold_pre,awayP,runOps,regK,step1,newK,genR,appR,obl,buildR,Value.cells,closeK,keepH,outV,retK,ret1,retC,RetV,Option.getD,runD,stepD,afterK,undef,simprocAttr,sxB,↓sxD,sxE,sxTab]))
 refine ⟨fun m z=>∃a b,b=m∧Nat.gcd a b=Nat.gcd num den∧a≤2147483648∧b≤2147483648∧z=smlOSt6 M num den a b,⟨den,smlOSt6 M num den num den,le_sub ⟨rfl,rfl,rfl,rfl,rfl,trivial⟩ ⟨rfl,trivial⟩ rfl rfl rfl (keepLt_of rfl),⟨num,den,rfl,rfl,hn,hd2,rfl⟩⟩,?_⟩
 rintro m z ⟨a,b,rfl,hg,ha,hb,rfl⟩
 by_cases hb0:b=0
 case neg=>
  have d1:decide ((b:Int)=0)=false:=by rw[decide_eq_false_iff_not];omega
  have w1:(a:Int).tmod (b:Int)=((a % b:Nat):Int):=(Int.ofNat_tmod a b).symm
  have n1:((b:Int)=0)=False:=eq_false (fun h=>by omega)
  have hlt:=Nat.mod_lt a (show 0<b by omega)
  (try with_reducible refine Fz.of ?_);(replace hb0:=true_and True);refine Go1.mk ?_;repeat' ((first|(with_reducible refine Go1.go ?_)|((with_reducible first|refine brv_mk ?_ ?_|refine gsplitD ?_ ?_|refine gsplitG ?_ ?_)<;>intro h<;>(try simp only[Bool.not_eq_true',Bool.not_eq_false']at h)<;>replace hb0:=h)|((with_reducible refine isDraw [some 12,some 13,some 14,some 15,some 5,some 6] (by decide) ?_);refine draw_rule [(0,[]),(1,[]),(2,[]),(3,[]),(4,[]),(5,[])] [[],[],[],[1,2],[0,1],[0,1,2,3,4]] [12,13,14,15] [5] (by kernel_rfl) (by kernel_rfl) (by kernel_rfl) (by kernel_rfl) (by exact ⟨rfl,trivial⟩) ?_)|(refine And.intro ?_ ?_;(try simp only[sxO]at *);omega)|fail)<;>(try simp (maxSteps:=1000000) only [hb0,smlOSt6,d1,w1,n1,↓hold_pre,awayP,runOps,regK,step1,newK,genR,appR,obl,buildR,Value.cells,closeK,keepH,outV,retK,ret1,retC,RetV,Option.getD,runD,stepD,afterK,undef,simprocAttr,sxB,↓sxD,sxE,sxTab]))
  exact ⟨a % b,smlOSt6 M num den b (a % b),by omega,le_sub ⟨rfl,rfl,rfl,rfl,rfl,trivial⟩ ⟨rfl,trivial⟩ rfl rfl rfl (keepLt_of rfl),b,a % b,rfl,by rw[←hg,Nat.gcd_comm b,←Nat.gcd_rec,Nat.gcd_comm],hb,by omega,rfl⟩
 subst hb0
 rw[Nat.gcd_zero_right]at hg
 subst hg
 have hg0:0<Nat.gcd num den:=Nat.gcd_pos_of_pos_right _ hd
 have hq0:0<den / Nat.gcd num den:=Nat.div_pos (Nat.gcd_le_right num hd) hg0
 have hq1:den / Nat.gcd num den≤2147483648:=Nat.le_trans (Nat.div_le_self _ _) hd2
 have d1:decide (((0:Nat):Int)=0)=true:=by decide
 have n1:(((Nat.gcd num den:Nat):Int)=0)=False:=eq_false (fun h=>by omega)
 have w1:IntKind.i64.wrap ((den:Int).tdiv ((Nat.gcd num den:Nat):Int))=((den / Nat.gcd num den:Nat):Int):=by rw[←Int.ofNat_tdiv];exact wrap_id (by omega) (by omega)
 have w2:IntKind.u32.wrap ((den / Nat.gcd num den:Nat):Int)=((den / Nat.gcd num den:Nat):Int):=wrap32_id (by omega)
 (try with_reducible refine Fz.of ?_);(replace hb0:=true_and True);refine Go1.mk ?_;repeat' ((first|(with_reducible refine Go1.go ?_)|((with_reducible first|refine brv_mk ?_ ?_|refine gsplitD ?_ ?_|refine gsplitG ?_ ?_)<;>intro h<;>(try simp only[Bool.not_eq_true',Bool.not_eq_false']at h)<;>replace hb0:=h)|((with_reducible refine isDraw [some 12,some 13,some 14,some 15,some 5,some 6] (by decide) ?_);refine draw_rule [(0,[]),(1,[]),(2,[]),(3,[]),(4,[]),(5,[])] [[],[],[],[1,2],[0,1],[0,1,2,3,4]] [12,13,14,15] [5] (by kernel_rfl) (by kernel_rfl) (by kernel_rfl) (by kernel_rfl) (by exact ⟨rfl,trivial⟩) ?_)|(refine And.intro ?_ ?_;(try simp only[sxO]at *);omega)|fail)<;>(try simp (maxSteps:=1000000) only [hb0,smlOSt6,d1,n1,w1,w2,↓hold_pre,awayP,runOps,regK,step1,newK,genR,appR,obl,buildR,Value.cells,closeK,keepH,outV,retK,ret1,retC,RetV,Option.getD,runD,stepD,afterK,undef,simprocAttr,sxB,↓sxD,sxE,sxTab]))
 refine ⟨fun z=>∃A B,A=ofN (num / Nat.gcd num den)∧B=ofN (den / Nat.gcd num den)∧z=smlOC6 M A B,?_,?_⟩
 ·by_cases h0:num=0
  ·subst h0
   have d2:decide ((0:Int)<((0:Nat):Int))=false:=by decide
   (try with_reducible refine Fz.of ?_);(replace hb0:=true_and True);refine Go1.mk ?_;repeat' ((first|(with_reducible refine Go1.go ?_)|((with_reducible first|refine brv_mk ?_ ?_|refine gsplitD ?_ ?_|refine gsplitG ?_ ?_)<;>intro h<;>(try simp only[Bool.not_eq_true',Bool.not_eq_false']at h)<;>replace hb0:=h)|((with_reducible refine isDraw [some 12,some 13,some 14,some 15,some 5,some 6] (by decide) ?_);refine draw_rule [(0,[]),(1,[]),(2,[]),(3,[]),(4,[]),(5,[])] [[],[],[],[1,2],[0,1],[0,1,2,3,4]] [12,13,14,15] [5] (by kernel_rfl) (by kernel_rfl) (by kernel_rfl) (by kernel_rfl) (by exact ⟨rfl,trivial⟩) ?_)|(refine And.intro ?_ ?_;(try simp only[sxO]at *);omega)|fail)<;>(try simp (maxSteps:=1000000) only [hb0,d2,n1,w1,w2,↓hold_pre,awayP,runOps,regK,step1,newK,genR,appR,obl,buildR,Value.cells,closeK,keepH,outV,retK,ret1,retC,RetV,Option.getD,runD,stepD,afterK,undef,simprocAttr,sxB,↓sxD,sxE,sxTab]))
   refine ⟨smlOC6 M [] [den / Nat.gcd 0 den],Le.trans ?_ (Le.trans (le_nilI (s:=smlOB6 M (den / Nat.gcd 0 den)) 6007 0 6028 55 34 _ 1 rfl rfl (.inl rfl)) ?_),[],_,by rw[Nat.zero_div,ofN_zero],by rw[ofN_u32 hq0 (by omega)],rfl⟩
   ·exact le_sub ⟨rfl,rfl,trivial⟩ ⟨rfl,rfl,rfl,trivial⟩ rfl rfl rfl (keepLt_of rfl)
   ·exact le_sub ⟨rfl,rfl,trivial⟩ ⟨rfl,rfl,rfl,rfl,trivial⟩ rfl rfl rfl (keepLt_of rfl)
  ·have hp0:0<num / Nat.gcd num den:=Nat.div_pos (Nat.gcd_le_left den (by omega)) hg0
   have hp1:num / Nat.gcd num den≤2147483648:=Nat.le_trans (Nat.div_le_self _ _) hn
   have d2:decide ((0:Int)<(num:Int))=true:=by rw[decide_eq_true_eq];omega
   have w3:IntKind.i64.wrap ((num:Int).tdiv ((Nat.gcd num den:Nat):Int))=((num / Nat.gcd num den:Nat):Int):=by rw[←Int.ofNat_tdiv];exact wrap_id (by omega) (by omega)
   have w4:IntKind.u32.wrap ((num / Nat.gcd num den:Nat):Int)=((num / Nat.gcd num den:Nat):Int):=wrap32_id (by omega)
   (try with_reducible refine Fz.of ?_);(replace hb0:=true_and True);refine Go1.mk ?_;repeat' ((first|(with_reducible refine Go1.go ?_)|((with_reducible first|refine brv_mk ?_ ?_|refine gsplitD ?_ ?_|refine gsplitG ?_ ?_)<;>intro h<;>(try simp only[Bool.not_eq_true',Bool.not_eq_false']at h)<;>replace hb0:=h)|((with_reducible refine isDraw [some 12,some 13,some 14,some 15,some 5,some 6] (by decide) ?_);refine draw_rule [(0,[]),(1,[]),(2,[]),(3,[]),(4,[]),(5,[])] [[],[],[],[1,2],[0,1],[0,1,2,3,4]] [12,13,14,15] [5] (by kernel_rfl) (by kernel_rfl) (by kernel_rfl) (by kernel_rfl) (by exact ⟨rfl,trivial⟩) ?_)|(refine And.intro ?_ ?_;(try simp only[sxO]at *);omega)|fail)<;>(try simp (maxSteps:=1000000) only [hb0,d2,n1,w1,w2,w3,w4,↓hold_pre,awayP,runOps,regK,step1,newK,genR,appR,obl,buildR,Value.cells,closeK,keepH,outV,retK,ret1,retC,RetV,Option.getD,runD,stepD,afterK,undef,simprocAttr,sxB,↓sxD,sxE,sxTab]))
   exact ⟨smlOC6 M [num / Nat.gcd num den] [den / Nat.gcd num den],le_sub ⟨rfl,rfl,trivial⟩ ⟨rfl,rfl,rfl,rfl,trivial⟩ rfl rfl rfl (keepLt_of rfl),_,_,by rw[ofN_u32 hp0 (by omega)],by rw[ofN_u32 hq0 (by omega)],rfl⟩
 rintro z ⟨A,B,hA,hB,rfl⟩
 (try with_reducible refine Fz.of ?_);(replace hb0:=true_and True);refine Go1.mk ?_;repeat' ((first|(with_reducible refine Go1.go ?_)|((with_reducible first|refine brv_mk ?_ ?_|refine gsplitD ?_ ?_|refine gsplitG ?_ ?_)<;>intro h<;>(try simp only[Bool.not_eq_true',Bool.not_eq_false']at h)<;>replace hb0:=h)|((with_reducible refine isDraw [some 12,some 13,some 14,some 15,some 5,some 6] (by decide) ?_);refine draw_rule [(0,[]),(1,[]),(2,[]),(3,[]),(4,[]),(5,[])] [[],[],[],[1,2],[0,1],[0,1,2,3,4]] [12,13,14,15] [5] (by kernel_rfl) (by kernel_rfl) (by kernel_rfl) (by kernel_rfl) (by exact ⟨rfl,trivial⟩) ?_)|(refine And.intro ?_ ?_;(try simp only[sxO]at *);omega)|fail)<;>(try simp (maxSteps:=1000000) only [hb0,smlOC6,cE_ment,cE_kill,hasK_nil,↓hold_pre,awayP,runOps,regK,step1,newK,genR,appR,obl,buildR,Value.cells,closeK,keepH,outV,retK,ret1,retC,RetV,Option.getD,runD,stepD,afterK,undef,simprocAttr,sxB,↓sxD,sxE,sxTab]))
 exact hK A B hA hB
theorem itemO_ok(ts:Bst)(num den:Nat)(cost:Int)(hn:num≤2147483648)(hd:0<den)(hd2:den≤2147483648)
  (hK:∀A B,A=ofN (num / Nat.gcd num den)→B=ofN (den / Nat.gcd num den)→K (.ag false [.ext (.string (bs [112])),.ext (.string (bs ts)),.slo 5028 0 A.length 1,.slo 5020 0 B.length 1,.ext (.int .i64 cost)]) [(5028,55,cE u32V A),(5020,55,cE u32V B)] M):CallS Try.prog 19 [.ext (.string (bs ts)),.ext (.int .i64 (num:Int)),.ext (.int .i64 (den:Int)),.ext (.int .i64 cost)] [] M [] K:=by
 refine inlS (cs:=[]) Try.mixed Try.func19 rfl (by kernel_rfl) 4000 rfl rfl ?_
 simp only[Try.f19]
 (try with_reducible refine Fz.of ?_);(replace hb0:=true_and True);refine Go1.mk ?_;repeat' ((first|(with_reducible refine Go1.go ?_)|((with_reducible first|refine brv_mk ?_ ?_|refine gsplitD ?_ ?_|refine gsplitG ?_ ?_)<;>intro h<;>(try simp only[Bool.not_eq_true',Bool.not_eq_false']at h)<;>replace hb0:=h)|(((with_reducible refine isCall (f:=22) ?_);refine callA_nil (by kernel_rfl) ?_;refine (smlO5_ok num den hn hd hd2 (fun A B hA hB=>Stop.mk ?_))))|(refine And.intro ?_ ?_;(try simp only[sxO]at *);omega)|fail)<;>(try simp (maxSteps:=1000000) only [hb0,hasK_nil,bs_mk,bs_app,bs_ext,bs_size,bs_toList,bs_at,bs_cells,List.take_length,imp_ga,guard_pk,guard_pk2,↓hold_pre,awayP,runOps,regK,step1,newK,genR,appR,obl,buildR,Value.cells,closeK,keepH,outV,retK,ret1,retC,RetV,Option.getD,runD,stepD,afterK,undef,simprocAttr,sxB,↓sxD,sxE,sxTab]))
 have hA:A=ofN (num / Nat.gcd num den):=hA
 have hB:B=ofN (den / Nat.gcd num den):=hB
 refine Stop.go ?_
 (try with_reducible refine Fz.of ?_);(replace hb0:=true_and True);refine Go1.mk ?_;repeat' ((first|(with_reducible refine Go1.go ?_)|((with_reducible first|refine brv_mk ?_ ?_|refine gsplitD ?_ ?_|refine gsplitG ?_ ?_)<;>intro h<;>(try simp only[Bool.not_eq_true',Bool.not_eq_false']at h)<;>replace hb0:=h)|(refine And.intro ?_ ?_;(try simp only[sxO]at *);omega)|fail)<;>(try simp (maxSteps:=1000000) only [hb0,cE_ment,cE_kill,hasK_nil,bs_mk,bs_app,bs_ext,bs_size,bs_toList,bs_at,bs_cells,List.take_length,imp_ga,guard_pk,guard_pk2,↓hold_pre,awayP,runOps,regK,step1,newK,genR,appR,obl,buildR,Value.cells,closeK,keepH,outV,retK,ret1,retC,RetV,Option.getD,runD,stepD,afterK,undef,simprocAttr,sxB,↓sxD,sxE,sxTab]))
 exact hK A B hA hB
end
section
variable {M:Mem}{K:AV→Hp→Mem→Prop}
theorem itemsP_ok(u:Value)(l:List Int)(p most:Nat)(hu:IsL M intV64 u l)(hp:p<100000)(hm:most<100)(hK:∀(L:List IR) M' p',Mem.le M M'→(∀x∈L,ItOK M' x)→L.length≤most→p'≤p+1000→K (.slo 37 0 L.length 5) [(37,46,irC L),(31,25,[.ext u,.ext (.int .i64 ((p':Nat):Int))])] M') :
  CallS Try.prog 10 [.own 31 0,.ext (.int .i64 (most:Int))] [(31,25,[.ext u,.ext (.int .i64 ((p:Nat):Int))])] M [] K:=by
 refine inlS (cs:=[12]) Try.mixed Try.func10 rfl (by kernel_rfl) 32 rfl rfl ?_
 simp only[Try.f10]
 have w0:IntKind.i64.wrap ((most:Int)+1)=((most+1:Nat):Int):=succ_i (by omega)
 (try with_reducible refine Fz.of ?_);(replace hb0:=true_and True);refine Go1.mk ?_;repeat' ((first|(with_reducible refine Go1.go ?_)|((with_reducible first|refine brv_mk ?_ ?_|refine gsplitD ?_ ?_|refine gsplitG ?_ ?_)<;>intro h<;>(try simp only[Bool.not_eq_true',Bool.not_eq_false']at h)<;>replace hb0:=h)|((with_reducible refine isCall (f:=18) ?_);refine callA ?_)|((with_reducible refine isCallS (f:=18) ?_);refine (nextI_ok 31 u l p ((most+1:Nat):Int) hu (by omega) (by omega) (by omega) (fun x hx0 hx1=>Stop.mk ?_)))|(refine And.intro ?_ ?_;(try simp only[sxO]at *);omega)|fail)<;>(try simp (maxSteps:=1000000) only [hb0,w0,irC_ment,irC_kill,hasK_nil,hu.one,bs_mk,bs_app,bs_ext,bs_size,bs_toList,bs_at,bs_cells,List.take_length,imp_ga,guard_pk,guard_pk2,↓hold_pre,awayP,runOps,regK,step1,newK,genR,appR,obl,buildR,Value.cells,closeK,keepH,outV,retK,ret1,retC,RetV,Option.getD,runD,stepD,afterK,undef,simprocAttr,sxB,↓sxD,sxE,sxTab]))
 obtain ⟨N,rfl⟩:=Int.eq_ofNat_of_zero_le hx0
 have hN:N≤most:=by omega
 clear w0
 refine Stop.go ?_
 (try with_reducible refine Fz.of ?_);(replace hb0:=true_and True);refine Go1.mk ?_;repeat' ((first|(with_reducible refine Go1.go ?_)|((with_reducible first|refine brv_mk ?_ ?_|refine gsplitD ?_ ?_|refine gsplitG ?_ ?_)<;>intro h<;>(try simp only[Bool.not_eq_true',Bool.not_eq_false']at h)<;>replace hb0:=h)|(refine And.intro ?_ ?_;(try simp only[sxO]at *);omega)|fail)<;>(try simp (maxSteps:=1000000) only [hb0,hasK_nil,irC_ment,irC_kill,hasK_nil,hu.one,bs_mk,bs_app,bs_ext,bs_size,bs_toList,bs_at,bs_cells,List.take_length,imp_ga,guard_pk,guard_pk2,↓hold_pre,awayP,runOps,regK,step1,newK,genR,appR,obl,buildR,Value.cells,closeK,keepH,outV,retK,ret1,retC,RetV,Option.getD,runD,stepD,afterK,undef,simprocAttr,sxB,↓sxD,sxE,sxTab]))
 refine ⟨fun d z=>∃M' L p' n,d=n∧Mem.le M M'∧(∀x∈L,ItOK M' x)∧L.length+n=N∧p'+9*n≤p+1+9*N∧z=itSt31 M' u p' n L.length L,
  ⟨N,itSt31 M u (p+1) N 0 [],(le_nil 5 37 46 5 rfl (.inl (by simp[awayB,mentE,mentH,mentL,AV.ment,hasK]))).trans (le_sub ⟨rfl,rfl,rfl,rfl,trivial⟩ ⟨by simp[lkH,itSt31,irC],by simp[lkH,itSt31],trivial⟩ rfl rfl rfl (by simp[keepLt,itSt31,lkH])),⟨M,[],p+1,N,rfl,Mem.le.refl _,by simp,by simp,by omega,rfl⟩⟩,?_⟩
 clear hx0 hx1
 rintro n z ⟨M1,L,p',n',rfl,hM,hL,hLn,hpn,rfl⟩
 have hu1:=hu.le hM
 have hcl:(irC L).length=L.length*5:=irC_len L
 rcases Nat.eq_zero_or_pos n with rfl|hn0
 ·have d1:decide ((0:Int)<((0:Nat):Int))=false:=by decide
  (try with_reducible refine Fz.of ?_);(replace hb0:=true_and True);refine Go1.mk ?_;repeat' ((first|(with_reducible refine Go1.go ?_)|((with_reducible first|refine brv_mk ?_ ?_|refine gsplitD ?_ ?_|refine gsplitG ?_ ?_)<;>intro h<;>(try simp only[Bool.not_eq_true',Bool.not_eq_false']at h)<;>replace hb0:=h)|(refine And.intro ?_ ?_;(try simp only[sxO]at *);omega)|fail)<;>(try simp (maxSteps:=1000000) only [hb0,itSt31,d1,irC_ment,irC_kill,hasK_nil,hu.one,bs_mk,bs_app,bs_ext,bs_size,bs_toList,bs_at,bs_cells,List.take_length,imp_ga,guard_pk,guard_pk2,↓hold_pre,awayP,runOps,regK,step1,newK,genR,appR,obl,buildR,Value.cells,closeK,keepH,outV,retK,ret1,retC,RetV,Option.getD,runD,stepD,afterK,undef,simprocAttr,sxB,↓sxD,sxE,sxTab]))
  exact hK L M1 p' hM hL (by omega) (by omega)
 have d1:decide ((0:Int)<(n:Int))=true:=by rw[decide_eq_true_eq];omega
 (try with_reducible refine Fz.of ?_);(replace hb0:=true_and True);refine Go1.mk ?_;repeat' ((first|(with_reducible refine Go1.go ?_)|((with_reducible first|refine brv_mk ?_ ?_|refine gsplitD ?_ ?_|refine gsplitG ?_ ?_)<;>intro h<;>(try simp only[Bool.not_eq_true',Bool.not_eq_false']at h)<;>replace hb0:=h)|((with_reducible refine isCall (f:=34) ?_);refine callA ?_)|((with_reducible refine isCallS (f:=34) ?_);refine (one31a_ok u l p' [[97],[98],[99],[100]] rfl hu1 (by omega) (fun ts _=>Stop.mk ?_)))|(refine And.intro ?_ ?_;(try simp only[sxO]at *);omega)|fail)<;>(try simp (maxSteps:=1000000) only [hb0,itSt31,d1,irC_ment,irC_kill,hasK_nil,hu.one,bs_mk,bs_app,bs_ext,bs_size,bs_toList,bs_at,bs_cells,List.take_length,imp_ga,guard_pk,guard_pk2,↓hold_pre,awayP,runOps,regK,step1,newK,genR,appR,obl,buildR,Value.cells,closeK,keepH,outV,retK,ret1,retC,RetV,Option.getD,runD,stepD,afterK,undef,simprocAttr,sxB,↓sxD,sxE,sxTab]))
 refine Stop.go ?_
 (try with_reducible refine Fz.of ?_);(replace hb0:=true_and True);refine Go1.mk ?_;repeat' ((first|(with_reducible refine Go1.go ?_)|((with_reducible first|refine brv_mk ?_ ?_|refine gsplitD ?_ ?_|refine gsplitG ?_ ?_)<;>intro h<;>(try simp only[Bool.not_eq_true',Bool.not_eq_false']at h)<;>replace hb0:=h)|((with_reducible refine isCall (f:=18) ?_);refine callA ?_)|((with_reducible refine isCallS (f:=18) ?_);refine (nextI_ok 31 u l (p'+1) 9 hu1 (by omega) (by omega) (by omega) (fun x1 x10 x11=>Stop.mk ?_)))|(refine And.intro ?_ ?_;(try simp only[sxO]at *);omega)|fail)<;>(try simp (maxSteps:=1000000) only [hb0,cE_ment,cE_kill,irC_ment,irC_kill,hasK_nil,hu.one,bs_mk,bs_app,bs_ext,bs_size,bs_toList,bs_at,bs_cells,List.take_length,imp_ga,guard_pk,guard_pk2,↓hold_pre,awayP,runOps,regK,step1,newK,genR,appR,obl,buildR,Value.cells,closeK,keepH,outV,retK,ret1,retC,RetV,Option.getD,runD,stepD,afterK,undef,simprocAttr,sxB,↓sxD,sxE,sxTab]))
 obtain ⟨num,rfl⟩:=Int.eq_ofNat_of_zero_le x10
 refine Stop.go ?_
 (try with_reducible refine Fz.of ?_);(replace hb0:=true_and True);refine Go1.mk ?_;repeat' ((first|(with_reducible refine Go1.go ?_)|((with_reducible first|refine brv_mk ?_ ?_|refine gsplitD ?_ ?_|refine gsplitG ?_ ?_)<;>intro h<;>(try simp only[Bool.not_eq_true',Bool.not_eq_false']at h)<;>replace hb0:=h)|((with_reducible refine isCall (f:=18) ?_);refine callA ?_)|((with_reducible refine isCallS (f:=18) ?_);refine (nextI_ok 31 u l (p'+1+1) 8 hu1 (by omega) (by omega) (by omega) (fun x2 x20 x21=>Stop.mk ?_)))|(refine And.intro ?_ ?_;(try simp only[sxO]at *);omega)|fail)<;>(try simp (maxSteps:=1000000) only [hb0,cE_ment,irC_ment,irC_kill,hasK_nil,hu.one,bs_mk,bs_app,bs_ext,bs_size,bs_toList,bs_at,bs_cells,List.take_length,imp_ga,guard_pk,guard_pk2,↓hold_pre,awayP,runOps,regK,step1,newK,genR,appR,obl,buildR,Value.cells,closeK,keepH,outV,retK,ret1,retC,RetV,Option.getD,runD,stepD,afterK,undef,simprocAttr,sxB,↓sxD,sxE,sxTab]))
 obtain ⟨den,rfl⟩:=Int.eq_ofNat_of_zero_le x20
 obtain ⟨D,hD⟩:∃D,D=den+1:=⟨_,rfl⟩
 have w1:IntKind.i64.wrap (1+(den:Int))=(D:Int):=by rw[wrap_id (by omega) (by omega)];omega
 refine Stop.go ?_
 (try with_reducible refine Fz.of ?_);(replace hb0:=true_and True);refine Go1.mk ?_;repeat' ((first|(with_reducible refine Go1.go ?_)|((with_reducible first|refine brv_mk ?_ ?_|refine gsplitD ?_ ?_|refine gsplitG ?_ ?_)<;>intro h<;>(try simp only[Bool.not_eq_true',Bool.not_eq_false']at h)<;>replace hb0:=h)|((with_reducible refine isCall (f:=18) ?_);refine callA ?_)|((with_reducible refine isCallS (f:=18) ?_);refine (nextI_ok 31 u l (p'+1+1+1) 8 hu1 (by omega) (by omega) (by omega) (fun x3 x30 x31=>Stop.mk ?_)))|(refine And.intro ?_ ?_;(try simp only[sxO]at *);omega)|fail)<;>(try simp (maxSteps:=1000000) only [hb0,w1,cE_ment,irC_ment,irC_kill,hasK_nil,hu.one,bs_mk,bs_app,bs_ext,bs_size,bs_toList,bs_at,bs_cells,List.take_length,imp_ga,guard_pk,guard_pk2,↓hold_pre,awayP,runOps,regK,step1,newK,genR,appR,obl,buildR,Value.cells,closeK,keepH,outV,retK,ret1,retC,RetV,Option.getD,runD,stepD,afterK,undef,simprocAttr,sxB,↓sxD,sxE,sxTab]))
 obtain ⟨cos,rfl⟩:=Int.eq_ofNat_of_zero_le x30
 obtain ⟨C,hC⟩:∃C,C=cos+1:=⟨_,rfl⟩
 have w2:IntKind.i64.wrap (1+(cos:Int))=(C:Int):=by rw[wrap_id (by omega) (by omega)];omega
 refine Stop.go ?_
 (try with_reducible refine Fz.of ?_);(replace hb0:=true_and True);refine Go1.mk ?_;repeat' ((first|(with_reducible refine Go1.go ?_)|((with_reducible first|refine brv_mk ?_ ?_|refine gsplitD ?_ ?_|refine gsplitG ?_ ?_)<;>intro h<;>(try simp only[Bool.not_eq_true',Bool.not_eq_false']at h)<;>replace hb0:=h)|(((with_reducible refine isCall (f:=19) ?_);refine callA_nil (by kernel_rfl) ?_;refine (item_ok ts num D C (by omega) (by omega) (by omega) (fun w1 w2 M2 a1 a2 a3 a4 a5=>Stop.mk ?_))))|(refine And.intro ?_ ?_;(try simp only[sxO]at *);omega)|fail)<;>(try simp (maxSteps:=1000000) only [hb0,w2,cE_ment,irC_ment,irC_kill,hasK_nil,hu.one,bs_mk,bs_app,bs_ext,bs_size,bs_toList,bs_at,bs_cells,List.take_length,imp_ga,guard_pk,guard_pk2,↓hold_pre,awayP,runOps,regK,step1,newK,genR,appR,obl,buildR,Value.cells,closeK,keepH,outV,retK,ret1,retC,RetV,Option.getD,runD,stepD,afterK,undef,simprocAttr,sxB,↓sxD,sxE,sxTab]))
 have a1:Mem.le M1 M2:=a1
 have hu2:=hu1.le a1
 obtain ⟨g1,g2,g3,g4⟩:=sml_low num D (by omega) (by omega) (by omega)
 refine Stop.go ?_
 (try with_reducible refine Fz.of ?_);(replace hb0:=true_and True);refine Go1.mk ?_;repeat' ((first|(with_reducible refine Go1.go ?_)|((with_reducible first|refine brv_mk ?_ ?_|refine gsplitD ?_ ?_|refine gsplitG ?_ ?_)<;>intro h<;>(try simp only[Bool.not_eq_true',Bool.not_eq_false']at h)<;>replace hb0:=h)|((with_reducible refine isCall (f:=34) ?_);refine callA ?_)|((with_reducible refine isCallS (f:=34) ?_);refine (one31b_ok u l (p'+1+1+1+1) [[112],[113]] rfl hu2 (by omega) (fun pk _=>Stop.mk ?_)))|(refine And.intro ?_ ?_;(try simp only[sxO]at *);omega)|fail)<;>(try simp (maxSteps:=1000000) only [hb0,a2.one,a3.one,cE_ment,irC_ment,irC_kill,hasK_nil,hu.one,bs_mk,bs_app,bs_ext,bs_size,bs_toList,bs_at,bs_cells,List.take_length,imp_ga,guard_pk,guard_pk2,↓hold_pre,awayP,runOps,regK,step1,newK,genR,appR,obl,buildR,Value.cells,closeK,keepH,outV,retK,ret1,retC,RetV,Option.getD,runD,stepD,afterK,undef,simprocAttr,sxB,↓sxD,sxE,sxTab]))
 have hit:=itOK_of pk ts C a2 a3 g1 g2 g3 g4 (by omega) (by omega)
 refine Stop.go ?_
 (try with_reducible refine Fz.of ?_);(replace hb0:=true_and True);refine Go1.mk ?_;repeat' ((first|(with_reducible refine Go1.go ?_)|((with_reducible first|refine brv_mk ?_ ?_|refine gsplitD ?_ ?_|refine gsplitG ?_ ?_)<;>intro h<;>(try simp only[Bool.not_eq_true',Bool.not_eq_false']at h)<;>replace hb0:=h)|(refine And.intro ?_ ?_;(try simp only[sxO]at *);omega)|fail)<;>(try simp (maxSteps:=1000000) only [hb0,a2.one,a3.one,cE_ment,cE_kill,irC_ment,irC_kill,hasK_nil,hu.one,bs_mk,bs_app,bs_ext,bs_size,bs_toList,bs_at,bs_cells,List.take_length,imp_ga,guard_pk,guard_pk2,↓hold_pre,awayP,runOps,regK,step1,newK,genR,appR,obl,buildR,Value.cells,closeK,keepH,outV,retK,ret1,retC,RetV,Option.getD,runD,stepD,afterK,undef,simprocAttr,sxB,↓sxD,sxE,sxTab]))
 refine ⟨fun z=>∃M' p2 x,Mem.le M1 M'∧ItOK M' x∧p2≤p'+8∧z=icSt31 M' u p2 n L.length L x,?_,?_⟩
 ·(try with_reducible refine Fz.of ?_);(replace hb0:=true_and True);refine Go1.mk ?_;repeat' ((first|(with_reducible refine Go1.go ?_)|((with_reducible first|refine brv_mk ?_ ?_|refine gsplitD ?_ ?_|refine gsplitG ?_ ?_)<;>intro h<;>(try simp only[Bool.not_eq_true',Bool.not_eq_false']at h)<;>replace hb0:=h)|((with_reducible refine isCall (f:=18) ?_);refine callA ?_)|((with_reducible refine isCallS (f:=18) ?_);refine (nextI_ok 31 u l (p'+1+1+1+1+1) 8 hu2 (by omega) (by omega) (by omega) (fun x4 x40 x41=>Stop.mk ?_)))|(refine And.intro ?_ ?_;(try simp only[sxO]at *);omega)|fail)<;>(try simp (maxSteps:=1000000) only [hb0,a2.one,a3.one,cE_ment,cE_kill,irC_ment,irC_kill,hasK_nil,hu.one,bs_mk,bs_app,bs_ext,bs_size,bs_toList,bs_at,bs_cells,List.take_length,imp_ga,guard_pk,guard_pk2,↓hold_pre,awayP,runOps,regK,step1,newK,genR,appR,obl,buildR,Value.cells,closeK,keepH,outV,retK,ret1,retC,RetV,Option.getD,runD,stepD,afterK,undef,simprocAttr,sxB,↓sxD,sxE,sxTab]))
  obtain ⟨sw,rfl⟩:=Int.eq_ofNat_of_zero_le x40
  by_cases s0:sw=0
  ·have e0:decide ((sw:Int)=0)=true:=by rw[decide_eq_true_eq];omega
   refine Stop.go ?_
   (try with_reducible refine Fz.of ?_);(replace hb0:=true_and True);refine Go1.mk ?_;repeat' ((first|(with_reducible refine Go1.go ?_)|((with_reducible first|refine brv_mk ?_ ?_|refine gsplitD ?_ ?_|refine gsplitG ?_ ?_)<;>intro h<;>(try simp only[Bool.not_eq_true',Bool.not_eq_false']at h)<;>replace hb0:=h)|((with_reducible refine isCall (f:=18) ?_);refine callA ?_)|((with_reducible refine isCallS (f:=18) ?_);refine (nextI_ok 31 u l (p'+1+1+1+1+1+1) 3 hu2 (by omega) (by omega) (by omega) (fun x5 x50 x51=>Stop.mk ?_)))|(refine And.intro ?_ ?_;(try simp only[sxO]at *);omega)|fail)<;>(try simp (maxSteps:=1000000) only [hb0,a2.one,a3.one,cE_ment,cE_kill,e0,irC_ment,irC_kill,hasK_nil,hu.one,bs_mk,bs_app,bs_ext,bs_size,bs_toList,bs_at,bs_cells,List.take_length,imp_ga,guard_pk,guard_pk2,↓hold_pre,awayP,runOps,regK,step1,newK,genR,appR,obl,buildR,Value.cells,closeK,keepH,outV,retK,ret1,retC,RetV,Option.getD,runD,stepD,afterK,undef,simprocAttr,sxB,↓sxD,sxE,sxTab]))
   obtain ⟨y,rfl⟩:=Int.eq_ofNat_of_zero_le x50
   obtain ⟨C2,hC2⟩:∃C2,C2=1048576-y:=⟨_,rfl⟩
   have w3:IntKind.i64.wrap (1048576-(y:Int))=(C2:Int):=by rw[wrap_id (by omega) (by omega)];omega
   have hit:=itOK_of pk ts C2 a2 a3 g1 g2 g3 g4 (by omega) (by omega)
   refine Stop.go ?_
   (try with_reducible refine Fz.of ?_);(replace hb0:=true_and True);refine Go1.mk ?_;repeat' ((first|(with_reducible refine Go1.go ?_)|((with_reducible first|refine brv_mk ?_ ?_|refine gsplitD ?_ ?_|refine gsplitG ?_ ?_)<;>intro h<;>(try simp only[Bool.not_eq_true',Bool.not_eq_false']at h)<;>replace hb0:=h)|(refine And.intro ?_ ?_;(try simp only[sxO]at *);omega)|fail)<;>(try simp (maxSteps:=1000000) only [hb0,a2.one,a3.one,cE_ment,cE_kill,w3,irC_ment,irC_kill,hasK_nil,hu.one,bs_mk,bs_app,bs_ext,bs_size,bs_toList,bs_at,bs_cells,List.take_length,imp_ga,guard_pk,guard_pk2,↓hold_pre,awayP,runOps,regK,step1,newK,genR,appR,obl,buildR,Value.cells,closeK,keepH,outV,retK,ret1,retC,RetV,Option.getD,runD,stepD,afterK,undef,simprocAttr,sxB,↓sxD,sxE,sxTab]))
   exact ⟨icSt31 M2 u (p'+1+1+1+1+1+1+1) n L.length L ⟨pk,ts,w1,w2,_,_,(C2:Int)⟩,le_sub ⟨rfl,rfl,rfl,rfl,rfl,trivial⟩ ⟨by simp[lkH,icSt31,irC_kill],by simp[lkH,icSt31,irC_kill],by simp[lkH,icSt31,irC_kill],trivial⟩ rfl rfl rfl (by simp[keepLt,icSt31,lkH]),M2,_,_,a1,hit,by omega,rfl⟩
  have e0:decide ((sw:Int)=0)=false:=by rw[decide_eq_false_iff_not];omega
  by_cases s1:sw=1
  ·have e1:decide ((sw:Int)=1)=true:=by rw[decide_eq_true_eq];omega
   refine Stop.go ?_
   (try with_reducible refine Fz.of ?_);(replace hb0:=true_and True);refine Go1.mk ?_;repeat' ((first|(with_reducible refine Go1.go ?_)|((with_reducible first|refine brv_mk ?_ ?_|refine gsplitD ?_ ?_|refine gsplitG ?_ ?_)<;>intro h<;>(try simp only[Bool.not_eq_true',Bool.not_eq_false']at h)<;>replace hb0:=h)|((with_reducible refine isCall (f:=18) ?_);refine callA ?_)|((with_reducible refine isCallS (f:=18) ?_);refine (nextI_ok 31 u l (p'+1+1+1+1+1+1) 1048576 hu2 (by omega) (by omega) (by omega) (fun x5 x50 x51=>Stop.mk ?_)))|(refine And.intro ?_ ?_;(try simp only[sxO]at *);omega)|fail)<;>(try simp (maxSteps:=1000000) only [hb0,a2.one,a3.one,cE_ment,cE_kill,e0,e1,irC_ment,irC_kill,hasK_nil,hu.one,bs_mk,bs_app,bs_ext,bs_size,bs_toList,bs_at,bs_cells,List.take_length,imp_ga,guard_pk,guard_pk2,↓hold_pre,awayP,runOps,regK,step1,newK,genR,appR,obl,buildR,Value.cells,closeK,keepH,outV,retK,ret1,retC,RetV,Option.getD,runD,stepD,afterK,undef,simprocAttr,sxB,↓sxD,sxE,sxTab]))
   obtain ⟨y,rfl⟩:=Int.eq_ofNat_of_zero_le x50
   obtain ⟨Y,hY⟩:∃Y,Y=y+1:=⟨_,rfl⟩
   have w3:IntKind.i64.wrap (1+(y:Int))=(Y:Int):=by rw[wrap_id (by omega) (by omega)];omega
   refine Stop.go ?_
   (try with_reducible refine Fz.of ?_);(replace hb0:=true_and True);refine Go1.mk ?_;repeat' ((first|(with_reducible refine Go1.go ?_)|((with_reducible first|refine brv_mk ?_ ?_|refine gsplitD ?_ ?_|refine gsplitG ?_ ?_)<;>intro h<;>(try simp only[Bool.not_eq_true',Bool.not_eq_false']at h)<;>replace hb0:=h)|((with_reducible refine isCall (f:=18) ?_);refine callA ?_)|((with_reducible refine isCallS (f:=18) ?_);refine (nextI_ok 31 u l (p'+1+1+1+1+1+1+1) 1048576 hu2 (by omega) (by omega) (by omega) (fun x6 x60 x61=>Stop.mk ?_)))|(refine And.intro ?_ ?_;(try simp only[sxO]at *);omega)|fail)<;>(try simp (maxSteps:=1000000) only [hb0,a2.one,a3.one,cE_ment,cE_kill,w3,irC_ment,irC_kill,hasK_nil,hu.one,bs_mk,bs_app,bs_ext,bs_size,bs_toList,bs_at,bs_cells,List.take_length,imp_ga,guard_pk,guard_pk2,↓hold_pre,awayP,runOps,regK,step1,newK,genR,appR,obl,buildR,Value.cells,closeK,keepH,outV,retK,ret1,retC,RetV,Option.getD,runD,stepD,afterK,undef,simprocAttr,sxB,↓sxD,sxE,sxTab]))
   obtain ⟨z,rfl⟩:=Int.eq_ofNat_of_zero_le x60
   obtain ⟨Z,hZ⟩:∃Z,Z=z+1:=⟨_,rfl⟩
   have w4:IntKind.i64.wrap (1+(z:Int))=(Z:Int):=by rw[wrap_id (by omega) (by omega)];omega
   obtain ⟨f1,f2,f3,f4⟩:=sml_low Y Z (by omega) (by omega) (by omega)
   refine Stop.go ?_
   (try with_reducible refine Fz.of ?_);(replace hb0:=true_and True);refine Go1.mk ?_;repeat' ((first|(with_reducible refine Go1.go ?_)|((with_reducible first|refine brv_mk ?_ ?_|refine gsplitD ?_ ?_|refine gsplitG ?_ ?_)<;>intro h<;>(try simp only[Bool.not_eq_true',Bool.not_eq_false']at h)<;>replace hb0:=h)|(((with_reducible refine isCall (f:=22) ?_);refine callA_nil (by kernel_rfl) ?_;refine (sml_ok Y Z (by omega) (by omega) (by omega) (fun v1 v2 M3 c1 c2 c3 c4 c5=>Stop.mk ?_))))|(refine And.intro ?_ ?_;(try simp only[sxO]at *);omega)|fail)<;>(try simp (maxSteps:=1000000) only [hb0,a2.one,a3.one,cE_ment,cE_kill,w4,irC_ment,irC_kill,hasK_nil,hu.one,bs_mk,bs_app,bs_ext,bs_size,bs_toList,bs_at,bs_cells,List.take_length,imp_ga,guard_pk,guard_pk2,↓hold_pre,awayP,runOps,regK,step1,newK,genR,appR,obl,buildR,Value.cells,closeK,keepH,outV,retK,ret1,retC,RetV,Option.getD,runD,stepD,afterK,undef,simprocAttr,sxB,↓sxD,sxE,sxTab]))
   have c1:Mem.le M2 M3:=c1
   have hit:=itOK_of pk ts C c2 c3 f1 f2 f3 f4 (by omega) (by omega)
   refine Stop.go ?_
   (try with_reducible refine Fz.of ?_);(replace hb0:=true_and True);refine Go1.mk ?_;repeat' ((first|(with_reducible refine Go1.go ?_)|((with_reducible first|refine brv_mk ?_ ?_|refine gsplitD ?_ ?_|refine gsplitG ?_ ?_)<;>intro h<;>(try simp only[Bool.not_eq_true',Bool.not_eq_false']at h)<;>replace hb0:=h)|(refine And.intro ?_ ?_;(try simp only[sxO]at *);omega)|fail)<;>(try simp (maxSteps:=1000000) only [hb0,c2.one,c3.one,a2.one,a3.one,cE_ment,cE_kill,irC_ment,irC_kill,hasK_nil,hu.one,bs_mk,bs_app,bs_ext,bs_size,bs_toList,bs_at,bs_cells,List.take_length,imp_ga,guard_pk,guard_pk2,↓hold_pre,awayP,runOps,regK,step1,newK,genR,appR,obl,buildR,Value.cells,closeK,keepH,outV,retK,ret1,retC,RetV,Option.getD,runD,stepD,afterK,undef,simprocAttr,sxB,↓sxD,sxE,sxTab]))
   exact ⟨icSt31 M3 u (p'+1+1+1+1+1+1+1+1) n L.length L ⟨pk,ts,v1,v2,_,_,(C:Int)⟩,le_sub ⟨rfl,rfl,rfl,rfl,rfl,trivial⟩ ⟨by simp[lkH,icSt31,irC_kill],by simp[lkH,icSt31,irC_kill],by simp[lkH,icSt31,irC_kill],trivial⟩ rfl rfl rfl (by simp[keepLt,icSt31,lkH]),M3,_,_,a1.trans c1,hit,by omega,rfl⟩
  have e1:decide ((sw:Int)=1)=false:=by rw[decide_eq_false_iff_not];omega
  refine Stop.go ?_
  (try with_reducible refine Fz.of ?_);(replace hb0:=true_and True);refine Go1.mk ?_;repeat' ((first|(with_reducible refine Go1.go ?_)|((with_reducible first|refine brv_mk ?_ ?_|refine gsplitD ?_ ?_|refine gsplitG ?_ ?_)<;>intro h<;>(try simp only[Bool.not_eq_true',Bool.not_eq_false']at h)<;>replace hb0:=h)|(refine And.intro ?_ ?_;(try simp only[sxO]at *);omega)|fail)<;>(try simp (maxSteps:=1000000) only [hb0,a2.one,a3.one,cE_ment,cE_kill,e0,e1,irC_ment,irC_kill,hasK_nil,hu.one,bs_mk,bs_app,bs_ext,bs_size,bs_toList,bs_at,bs_cells,List.take_length,imp_ga,guard_pk,guard_pk2,↓hold_pre,awayP,runOps,regK,step1,newK,genR,appR,obl,buildR,Value.cells,closeK,keepH,outV,retK,ret1,retC,RetV,Option.getD,runD,stepD,afterK,undef,simprocAttr,sxB,↓sxD,sxE,sxTab]))
  exact ⟨icSt31 M2 u (p'+1+1+1+1+1+1) n L.length L ⟨pk,ts,w1,w2,_,_,(C:Int)⟩,le_sub ⟨rfl,rfl,rfl,rfl,rfl,trivial⟩ ⟨by simp[lkH,icSt31,irC_kill],by simp[lkH,icSt31,irC_kill],by simp[lkH,icSt31,irC_kill],trivial⟩ rfl rfl rfl (by simp[keepLt,icSt31,lkH]),M2,_,_,a1,hit,by omega,rfl⟩
 clear hit a2 a3 a4 a5 w1 w2
 rintro z ⟨M3,p2,x,hM3,hx,hp2,rfl⟩
 have happ:=irC_app L x
 have o1:=hx.ok.f.n.one
 have o2:=hx.ok.f.d.one
 have wn:IntKind.i64.wrap ((n:Int)-1)=((n-1:Nat):Int):=pred_i (by omega) (by omega)
 (try with_reducible refine Fz.of ?_);(replace hb0:=true_and True);refine Go1.mk ?_;repeat' ((first|(with_reducible refine Go1.go ?_)|((with_reducible first|refine brv_mk ?_ ?_|refine gsplitD ?_ ?_|refine gsplitG ?_ ?_)<;>intro h<;>(try simp only[Bool.not_eq_true',Bool.not_eq_false']at h)<;>replace hb0:=h)|(refine And.intro ?_ ?_;(try simp only[sxO]at *);omega)|fail)<;>(try simp (maxSteps:=1000000) only [hb0,icSt31,happ,hcl,wn,o1,o2,irC_ment,irC_kill,hasK_nil,hu.one,bs_mk,bs_app,bs_ext,bs_size,bs_toList,bs_at,bs_cells,List.take_length,imp_ga,guard_pk,guard_pk2,↓hold_pre,awayP,runOps,regK,step1,newK,genR,appR,obl,buildR,Value.cells,closeK,keepH,outV,retK,ret1,retC,RetV,Option.getD,runD,stepD,afterK,undef,simprocAttr,sxB,↓sxD,sxE,sxTab]))
 exact ⟨n-1,itSt31 M3 u p2 (n-1) (L.length+1) (L++[x]),by omega,le_sub ⟨rfl,rfl,rfl,rfl,trivial⟩ ⟨by simp[lkH,itSt31],by simp[lkH,itSt31],trivial⟩ rfl rfl rfl (by simp[keepLt,itSt31,lkH]),M3,L++[x],p2,n-1,rfl,hM.trans hM3,fun y hy=>by
  rcases List.mem_append.1 hy with hy|hy
  ·exact (hL y hy).le hM3
  ·rw[List.mem_singleton.1 hy];exact hx,by rw[List.length_append,List.length_singleton];omega,by omega,by rw[List.length_append,List.length_singleton]⟩
end
structure NumOK (A B:List Nat) (cost:Int):Prop where
 oa:okN A
 ob:okN B
 la:A.length≤1
 lb:B.length≤1
 c0:0<cost
 c1:cost≤1048576
theorem NumOK.cost{A B:List Nat}{c d:Int}(h:NumOK A B c)(h0:0<d)(h1:d≤1048576):NumOK A B d:=⟨h.oa,h.ob,h.la,h.lb,h0,h1⟩
theorem numOK_of{A B:List Nat}{n d:Nat}(hA:A=ofN (n / Nat.gcd n d))(hB:B=ofN (d / Nat.gcd n d))(hn:n≤2147483648)(hd:0<d)(hd2:d≤2147483648):NumOK A B 1:=by
 obtain ⟨g1,g2,g3,_⟩:=sml_low n d hn hd hd2
 subst hA
 subst hB
 exact ⟨okN_ofN _,okN_ofN _,ofN_len_le (by rw[show wN 1=4294967296 from rfl];exact g1),ofN_len_le (by rw[show wN 1=4294967296 from rfl];exact g3),by decide,by decide⟩
def opC(L1 L2:List IR)(pk ts:Bst)(cost:Int)(a b:AV):List AV:=irC L1++([AV.ext (.string (bs pk)),.ext (.string (bs ts)),a,b,.ext (.int .i64 cost)]++irC L2)
theorem opC_len(L1 L2:List IR)(pk ts:Bst)(cost:Int)(a b:AV):(opC L1 L2 pk ts cost a b).length=(L1.length+1+L2.length)*5:=by simp[opC,irC_len];omega
theorem opC_get(L1 L2:List IR)(pk ts:Bst)(cost:Int)(a b:AV):(opC L1 L2 pk ts cost a b)[L1.length*5+2]? = some a:=by
 unfold opC
 rw[List.getElem?_append_right (by rw[irC_len];omega),irC_len,show L1.length*5+2-L1.length*5=2 by omega];rfl
theorem opC_get3(L1 L2:List IR)(pk ts:Bst)(cost:Int)(a b:AV):(opC L1 L2 pk ts cost a b)[L1.length*5+3]? = some b:=by
 unfold opC
 rw[List.getElem?_append_right (by rw[irC_len];omega),irC_len,show L1.length*5+3-L1.length*5=3 by omega];rfl
theorem opC_ment(L1 L2:List IR)(pk ts:Bst)(cost:Int)(a b:AV):mentL (opC L1 L2 pk ts cost a b)=a.ment++b.ment:=by
 unfold opC
 rw[mentL_append,irC_ment,List.nil_append,mentL_append,irC_ment,List.append_nil]
 simp[mentL,AV.ment]
theorem killL_apd(k:Nat):∀l m:List AV,killL k (l++m)=killL k l++killL k m
 | [],m=>rfl
 | x :: l,m=>by simp only[List.cons_append,killL,killL_apd k l m]
theorem opC_killC(k:Nat)(L1 L2:List IR)(pk ts:Bst)(cost:Int)(a b:AV):killL k (opC L1 L2 pk ts cost a b)=opC L1 L2 pk ts cost (a.kill k) (b.kill k):=by
 unfold opC
 rw[killL_apd,irC_kill,killL_apd,irC_kill]
 simp[killL,AV.kill]
theorem opC_setA(L1 L2:List IR)(pk ts:Bst)(cost:Int)(a b c:AV):(opC L1 L2 pk ts cost a b).set (L1.length*5+2) c=opC L1 L2 pk ts cost c b:=by
 unfold opC
 rw[List.set_append_right _ _ (by rw[irC_len];omega),irC_len,show L1.length*5+2-L1.length*5=2 by omega];rfl
theorem opC_setB(L1 L2:List IR)(pk ts:Bst)(cost:Int)(a b c:AV):(opC L1 L2 pk ts cost a b).set (L1.length*5+3) c=opC L1 L2 pk ts cost a c:=by
 unfold opC
 rw[List.set_append_right _ _ (by rw[irC_len];omega),irC_len,show L1.length*5+3-L1.length*5=3 by omega];rfl
def opN(L1 L2:List IR)(pk ts:Bst)(cost:Int)(A B:List Nat):List AV:=opC L1 L2 pk ts cost (.slo 5028 0 A.length 1) (.slo 5020 0 B.length 1)
theorem opN_ment(L1 L2:List IR)(pk ts:Bst)(cost:Int)(A B:List Nat):mentL (opN L1 L2 pk ts cost A B)=[5028,5020]:=opC_ment ..
theorem opN_len(L1 L2:List IR)(pk ts:Bst)(cost:Int)(A B:List Nat):(opN L1 L2 pk ts cost A B).length=(L1.length+1+L2.length)*5:=opC_len ..
theorem opN_kill(k:Nat)(h:5028≠k)(h':5020≠k)(L1 L2:List IR)(pk ts:Bst)(cost:Int)(A B:List Nat):killL k (opN L1 L2 pk ts cost A B)=opN L1 L2 pk ts cost A B:=by
 unfold opN
 rw[opC_killC]
 simp[AV.kill,h,h']
theorem opN_k37(L1 L2:List IR)(pk ts:Bst)(cost:Int)(A B:List Nat):killL 37 (opN L1 L2 pk ts cost A B)=opN L1 L2 pk ts cost A B:=opN_kill _ (by decide) (by decide) ..
theorem opN_k31(L1 L2:List IR)(pk ts:Bst)(cost:Int)(A B:List Nat):killL 31 (opN L1 L2 pk ts cost A B)=opN L1 L2 pk ts cost A B:=opN_kill _ (by decide) (by decide) ..
theorem opN_k39(L1 L2:List IR)(pk ts:Bst)(cost:Int)(A B:List Nat):killL 39 (opN L1 L2 pk ts cost A B)=opN L1 L2 pk ts cost A B:=opN_kill _ (by decide) (by decide) ..
theorem opN_k49(L1 L2:List IR)(pk ts:Bst)(cost:Int)(A B:List Nat):killL 49 (opN L1 L2 pk ts cost A B)=opN L1 L2 pk ts cost A B:=opN_kill _ (by decide) (by decide) ..
theorem opN_k61(L1 L2:List IR)(pk ts:Bst)(cost:Int)(A B:List Nat):killL 61 (opN L1 L2 pk ts cost A B)=opN L1 L2 pk ts cost A B:=opN_kill _ (by decide) (by decide) ..
theorem opN_snoc(L:List IR)(pk ts:Bst)(cost:Int)(A B:List Nat):irC L++[.ext (.string (bs pk)),.ext (.string (bs ts)),.slo 5028 0 A.length 1,.slo 5020 0 B.length 1,.ext (.int .i64 cost)]=opN L [] pk ts cost A B:=by simp[opN,opC,irC]
theorem opN_app(L1 L2:List IR)(pk ts:Bst)(cost:Int)(A B:List Nat)(x:IR):opN L1 L2 pk ts cost A B++[.ext (.string (bs x.pk)),.ext (.string (bs x.ts)),.ext x.u1,.ext x.u2,.ext (.int .i64 x.cost)]=opN L1 (L2++[x]) pk ts cost A B:=by
 unfold opN opC
 rw[←irC_app L2 x,List.append_assoc,List.append_assoc]
def sw56(k:Nat):Nat:=if k=5028 then 6028 else if k=6028 then 5028 else if k=5020 then 6020 else if k=6020 then 5020 else k
theorem sw56_two(k:Nat):sw56 (sw56 k)=k:=by
 unfold sw56
 repeat' split
 all_goals omega
theorem sw56_lt{k:Nat}(h:k<5000):sw56 k=k:=by
 unfold sw56
 repeat' split
 all_goals omega
theorem swL_cE{α:Type}(σ:Nat→Nat)(g:α→Value)(l:List α):swL σ (cE g l)=cE g l:=swL_ext ..
theorem swL_irC(σ:Nat→Nat)(L:List IR):swL σ (irC L)=irC L:=swL_ext ..
section
variable {M:Mem}{K:AV→Hp→Mem→Prop}
def itQ31(M:Mem)(u:Value)(p n m:Nat)(L1 L2:List IR)(pk ts:Bst)(cost:Int)(A B:List Nat):St:={env:=[(6,.ext (.int .i64 (n:Int))),(5,.slo 37 0 m 5),(4,.ext (.slice none 0 0)),(0,.own 31 0)],hp:=[(37,46,opN L1 L2 pk ts cost A B),(5028,55,cE u32V A),(5020,55,cE u32V B),(31,25,[.ext u,.ext (.int .i64 ((p:Nat):Int))])],M:=M,kb:=32,fx:=[31]}
def icQ31(M:Mem)(u:Value)(p n m:Nat)(L:List IR)(pk ts:Bst)(cost:Int)(A B:List Nat):St:={env:=[(7,.own 39 0),(6,.ext (.int .i64 (n:Int))),(5,.slo 37 0 m 5),(4,.ext (.slice none 0 0)),(0,.own 31 0)],hp:=[(39,46,[.ext (.string (bs pk)),.ext (.string (bs ts)),.slo 5028 0 A.length 1,.slo 5020 0 B.length 1,.ext (.int .i64 cost)]),(5028,55,cE u32V A),(5020,55,cE u32V B),(37,46,irC L),(31,25,[.ext u,.ext (.int .i64 ((p:Nat):Int))])],M:=M,kb:=32,fx:=[31]}
def icQ6(M:Mem)(u:Value)(p n m:Nat)(L:List IR)(pk ts:Bst)(cost:Int)(A B:List Nat):St:={env:=[(7,.own 39 0),(6,.ext (.int .i64 (n:Int))),(5,.slo 37 0 m 5),(4,.ext (.slice none 0 0)),(0,.own 31 0)],hp:=[(39,46,[.ext (.string (bs pk)),.ext (.string (bs ts)),.slo 6028 0 A.length 1,.slo 6020 0 B.length 1,.ext (.int .i64 cost)]),(6028,55,cE u32V A),(6020,55,cE u32V B),(37,46,irC L),(31,25,[.ext u,.ext (.int .i64 ((p:Nat):Int))])],M:=M,kb:=32,fx:=[31]}
def icR31(M:Mem)(u:Value)(p n m:Nat)(L1 L2:List IR)(pk ts:Bst)(cost:Int)(A B:List Nat)(x:IR):St:={env:=[(7,.own 39 0),(6,.ext (.int .i64 (n:Int))),(5,.slo 37 0 m 5),(4,.ext (.slice none 0 0)),(0,.own 31 0)],hp:=[(39,46,[.ext (.string (bs x.pk)),.ext (.string (bs x.ts)),.ext x.u1,.ext x.u2,.ext (.int .i64 x.cost)]),(37,46,opN L1 L2 pk ts cost A B),(5028,55,cE u32V A),(5020,55,cE u32V B),(31,25,[.ext u,.ext (.int .i64 ((p:Nat):Int))])],M:=M,kb:=32,fx:=[31]}
theorem itemsQ_ok(sel:Nat→Nat)(u:Value)(l:List Int)(p most:Nat)(hu:IsL M intV64 u l)(hp:p<100000)(hm:most<100)(hs:∀n,0<n→n≤most→sel n<n)
  (hK0:∀M' p',Mem.le M M'→p'≤p+1000→K (.slo 37 0 0 5) [(37,46,irC []),(31,25,[.ext u,.ext (.int .i64 ((p':Nat):Int))])] M')
  (hK:∀L1 L2 pk ts cost A B M' p' m,Mem.le M M'→(∀x∈L1,ItOK M' x)→(∀x∈L2,ItOK M' x)→NumOK A B cost→m=L1.length+1+L2.length→L1.length=sel m→m≤most→p'≤p+1000→K (.slo 37 0 m 5) [(37,46,opN L1 L2 pk ts cost A B),(5028,55,cE u32V A),(5020,55,cE u32V B),(31,25,[.ext u,.ext (.int .i64 ((p':Nat):Int))])] M') :
  CallS Try.prog 10 [.own 31 0,.ext (.int .i64 (most:Int))] [(31,25,[.ext u,.ext (.int .i64 ((p:Nat):Int))])] M [] K:=by
 refine inlS (cs:=[12]) Try.mixed Try.func10 rfl (by kernel_rfl) 32 rfl rfl ?_
 simp only[Try.f10]
 have w0:IntKind.i64.wrap ((most:Int)+1)=((most+1:Nat):Int):=succ_i (by omega)
 (try with_reducible refine Fz.of ?_);(replace hb0:=true_and True);refine Go1.mk ?_;repeat' ((first|(with_reducible refine Go1.go ?_)|((with_reducible first|refine brv_mk ?_ ?_|refine gsplitD ?_ ?_|refine gsplitG ?_ ?_)<;>intro h<;>(try simp only[Bool.not_eq_true',Bool.not_eq_false']at h)<;>replace hb0:=h)|((with_reducible refine isCall (f:=18) ?_);refine callA ?_)|((with_reducible refine isCallS (f:=18) ?_);refine (nextI_ok 31 u l p ((most+1:Nat):Int) hu (by omega) (by omega) (by omega) (fun x hx0 hx1=>Stop.mk ?_)))|(refine And.intro ?_ ?_;(try simp only[sxO]at *);omega)|fail)<;>(try simp (maxSteps:=1000000) only [hb0,w0,irC_ment,irC_kill,hasK_nil,hu.one,bs_mk,bs_app,bs_ext,bs_size,bs_toList,bs_at,bs_cells,List.take_length,imp_ga,guard_pk,guard_pk2,↓hold_pre,awayP,runOps,regK,step1,newK,genR,appR,obl,buildR,Value.cells,closeK,keepH,outV,retK,ret1,retC,RetV,Option.getD,runD,stepD,afterK,undef,simprocAttr,sxB,↓sxD,sxE,sxTab]))
 obtain ⟨N,rfl⟩:=Int.eq_ofNat_of_zero_le hx0
 have hN:N≤most:=by omega
 clear w0
 refine Stop.go ?_
 (try with_reducible refine Fz.of ?_);(replace hb0:=true_and True);refine Go1.mk ?_;repeat' ((first|(with_reducible refine Go1.go ?_)|((with_reducible first|refine brv_mk ?_ ?_|refine gsplitD ?_ ?_|refine gsplitG ?_ ?_)<;>intro h<;>(try simp only[Bool.not_eq_true',Bool.not_eq_false']at h)<;>replace hb0:=h)|(refine And.intro ?_ ?_;(try simp only[sxO]at *);omega)|fail)<;>(try simp (maxSteps:=1000000) only [hb0,hasK_nil,irC_ment,irC_kill,hasK_nil,hu.one,bs_mk,bs_app,bs_ext,bs_size,bs_toList,bs_at,bs_cells,List.take_length,imp_ga,guard_pk,guard_pk2,↓hold_pre,awayP,runOps,regK,step1,newK,genR,appR,obl,buildR,Value.cells,closeK,keepH,outV,retK,ret1,retC,RetV,Option.getD,runD,stepD,afterK,undef,simprocAttr,sxB,↓sxD,sxE,sxTab]))
 obtain ⟨s,hsN⟩:∃s,s=sel N:=⟨_,rfl⟩
 have hsl:=fun h=>hs N h hN
 rw[←hsN]at hsl
 refine ⟨fun d z=>(∃M' L p' n,d=n∧Mem.le M M'∧(∀x∈L,ItOK M' x)∧L.length≤s∧L.length+n=N∧p'+9*n≤p+1+9*N∧z=itSt31 M' u p' n L.length L)∨(∃M' L1 L2 pk ts cost A B p' n,d=n∧Mem.le M M'∧(∀x∈L1,ItOK M' x)∧(∀x∈L2,ItOK M' x)∧NumOK A B cost∧L1.length=s∧L1.length+1+L2.length+n=N∧p'+9*n≤p+1+9*N∧z=itQ31 M' u p' n (L1.length+1+L2.length) L1 L2 pk ts cost A B),
  ⟨N,itSt31 M u (p+1) N 0 [],(le_nil 5 37 46 5 rfl (.inl (by simp[awayB,mentE,mentH,mentL,AV.ment,hasK]))).trans (le_sub ⟨rfl,rfl,rfl,rfl,trivial⟩ ⟨by simp[lkH,itSt31,irC],by simp[lkH,itSt31],trivial⟩ rfl rfl rfl (by simp[keepLt,itSt31,lkH])),.inl ⟨M,[],p+1,N,rfl,Mem.le.refl _,by simp,by simp,by simp,by omega,rfl⟩⟩,?_⟩
 clear hx0 hx1
 rintro n z (⟨M1,L,p',n',rfl,hM,hL,hLs,hLn,hpn,rfl⟩|⟨M1,L1,L2,pk0,ts0,cost0,A0,B0,p',n',rfl,hM,hL1,hL2,hAB,hs1,hLn,hpn,rfl⟩)
 ·have hu1:=hu.le hM
  have hcl:(irC L).length=L.length*5:=irC_len L
  rcases Nat.eq_zero_or_pos n with rfl|hn0
  ·have d1:decide ((0:Int)<((0:Nat):Int))=false:=by decide
   obtain rfl:L=[]:=by
    cases L with
    | nil=>rfl
    | cons x L=>exfalso;simp only[List.length_cons]at hLs hLn;have:=hsl (by omega);omega
   (try with_reducible refine Fz.of ?_);(replace hb0:=true_and True);refine Go1.mk ?_;repeat' ((first|(with_reducible refine Go1.go ?_)|((with_reducible first|refine brv_mk ?_ ?_|refine gsplitD ?_ ?_|refine gsplitG ?_ ?_)<;>intro h<;>(try simp only[Bool.not_eq_true',Bool.not_eq_false']at h)<;>replace hb0:=h)|(refine And.intro ?_ ?_;(try simp only[sxO]at *);omega)|fail)<;>(try simp (maxSteps:=1000000) only [hb0,itSt31,d1,irC_ment,irC_kill,hasK_nil,hu.one,bs_mk,bs_app,bs_ext,bs_size,bs_toList,bs_at,bs_cells,List.take_length,imp_ga,guard_pk,guard_pk2,↓hold_pre,awayP,runOps,regK,step1,newK,genR,appR,obl,buildR,Value.cells,closeK,keepH,outV,retK,ret1,retC,RetV,Option.getD,runD,stepD,afterK,undef,simprocAttr,sxB,↓sxD,sxE,sxTab]))
   exact hK0 M1 p' hM (by omega)
  have d1:decide ((0:Int)<(n:Int))=true:=by rw[decide_eq_true_eq];omega
  (try with_reducible refine Fz.of ?_);(replace hb0:=true_and True);refine Go1.mk ?_;repeat' ((first|(with_reducible refine Go1.go ?_)|((with_reducible first|refine brv_mk ?_ ?_|refine gsplitD ?_ ?_|refine gsplitG ?_ ?_)<;>intro h<;>(try simp only[Bool.not_eq_true',Bool.not_eq_false']at h)<;>replace hb0:=h)|((with_reducible refine isCall (f:=34) ?_);refine callA ?_)|((with_reducible refine isCallS (f:=34) ?_);refine (one31a_ok u l p' [[97],[98],[99],[100]] rfl hu1 (by omega) (fun ts _=>Stop.mk ?_)))|(refine And.intro ?_ ?_;(try simp only[sxO]at *);omega)|fail)<;>(try simp (maxSteps:=1000000) only [hb0,d1,itSt31,cE_ment,cE_kill,irC_ment,irC_kill,hasK_nil,hu.one,bs_mk,bs_app,bs_ext,bs_size,bs_toList,bs_at,bs_cells,List.take_length,imp_ga,guard_pk,guard_pk2,↓hold_pre,awayP,runOps,regK,step1,newK,genR,appR,obl,buildR,Value.cells,closeK,keepH,outV,retK,ret1,retC,RetV,Option.getD,runD,stepD,afterK,undef,simprocAttr,sxB,↓sxD,sxE,sxTab]))
  refine Stop.go ?_
  (try with_reducible refine Fz.of ?_);(replace hb0:=true_and True);refine Go1.mk ?_;repeat' ((first|(with_reducible refine Go1.go ?_)|((with_reducible first|refine brv_mk ?_ ?_|refine gsplitD ?_ ?_|refine gsplitG ?_ ?_)<;>intro h<;>(try simp only[Bool.not_eq_true',Bool.not_eq_false']at h)<;>replace hb0:=h)|((with_reducible refine isCall (f:=18) ?_);refine callA ?_)|((with_reducible refine isCallS (f:=18) ?_);refine (nextI_ok 31 u l (p'+1) 9 hu1 (by omega) (by omega) (by omega) (fun x1 x10 x11=>Stop.mk ?_)))|(refine And.intro ?_ ?_;(try simp only[sxO]at *);omega)|fail)<;>(try simp (maxSteps:=1000000) only [hb0,cE_ment,cE_kill,irC_ment,irC_kill,hasK_nil,hu.one,bs_mk,bs_app,bs_ext,bs_size,bs_toList,bs_at,bs_cells,List.take_length,imp_ga,guard_pk,guard_pk2,↓hold_pre,awayP,runOps,regK,step1,newK,genR,appR,obl,buildR,Value.cells,closeK,keepH,outV,retK,ret1,retC,RetV,Option.getD,runD,stepD,afterK,undef,simprocAttr,sxB,↓sxD,sxE,sxTab]))
  obtain ⟨num,rfl⟩:=Int.eq_ofNat_of_zero_le x10
  refine Stop.go ?_
  (try with_reducible refine Fz.of ?_);(replace hb0:=true_and True);refine Go1.mk ?_;repeat' ((first|(with_reducible refine Go1.go ?_)|((with_reducible first|refine brv_mk ?_ ?_|refine gsplitD ?_ ?_|refine gsplitG ?_ ?_)<;>intro h<;>(try simp only[Bool.not_eq_true',Bool.not_eq_false']at h)<;>replace hb0:=h)|((with_reducible refine isCall (f:=18) ?_);refine callA ?_)|((with_reducible refine isCallS (f:=18) ?_);refine (nextI_ok 31 u l (p'+1+1) 8 hu1 (by omega) (by omega) (by omega) (fun x2 x20 x21=>Stop.mk ?_)))|(refine And.intro ?_ ?_;(try simp only[sxO]at *);omega)|fail)<;>(try simp (maxSteps:=1000000) only [hb0,cE_ment,cE_kill,irC_ment,irC_kill,hasK_nil,hu.one,bs_mk,bs_app,bs_ext,bs_size,bs_toList,bs_at,bs_cells,List.take_length,imp_ga,guard_pk,guard_pk2,↓hold_pre,awayP,runOps,regK,step1,newK,genR,appR,obl,buildR,Value.cells,closeK,keepH,outV,retK,ret1,retC,RetV,Option.getD,runD,stepD,afterK,undef,simprocAttr,sxB,↓sxD,sxE,sxTab]))
  obtain ⟨den,rfl⟩:=Int.eq_ofNat_of_zero_le x20
  obtain ⟨D,hD⟩:∃D,D=den+1:=⟨_,rfl⟩
  have w1:IntKind.i64.wrap (1+(den:Int))=(D:Int):=by rw[wrap_id (by omega) (by omega)];omega
  refine Stop.go ?_
  (try with_reducible refine Fz.of ?_);(replace hb0:=true_and True);refine Go1.mk ?_;repeat' ((first|(with_reducible refine Go1.go ?_)|((with_reducible first|refine brv_mk ?_ ?_|refine gsplitD ?_ ?_|refine gsplitG ?_ ?_)<;>intro h<;>(try simp only[Bool.not_eq_true',Bool.not_eq_false']at h)<;>replace hb0:=h)|((with_reducible refine isCall (f:=18) ?_);refine callA ?_)|((with_reducible refine isCallS (f:=18) ?_);refine (nextI_ok 31 u l (p'+1+1+1) 8 hu1 (by omega) (by omega) (by omega) (fun x3 x30 x31=>Stop.mk ?_)))|(refine And.intro ?_ ?_;(try simp only[sxO]at *);omega)|fail)<;>(try simp (maxSteps:=1000000) only [hb0,w1,cE_ment,cE_kill,irC_ment,irC_kill,hasK_nil,hu.one,bs_mk,bs_app,bs_ext,bs_size,bs_toList,bs_at,bs_cells,List.take_length,imp_ga,guard_pk,guard_pk2,↓hold_pre,awayP,runOps,regK,step1,newK,genR,appR,obl,buildR,Value.cells,closeK,keepH,outV,retK,ret1,retC,RetV,Option.getD,runD,stepD,afterK,undef,simprocAttr,sxB,↓sxD,sxE,sxTab]))
  obtain ⟨cos,rfl⟩:=Int.eq_ofNat_of_zero_le x30
  obtain ⟨C,hC⟩:∃C,C=cos+1:=⟨_,rfl⟩
  have w2:IntKind.i64.wrap (1+(cos:Int))=(C:Int):=by rw[wrap_id (by omega) (by omega)];omega
  by_cases hch:L.length=s
  ·refine Stop.go ?_
   (try with_reducible refine Fz.of ?_);(replace hb0:=true_and True);refine Go1.mk ?_;repeat' ((first|(with_reducible refine Go1.go ?_)|((with_reducible first|refine brv_mk ?_ ?_|refine gsplitD ?_ ?_|refine gsplitG ?_ ?_)<;>intro h<;>(try simp only[Bool.not_eq_true',Bool.not_eq_false']at h)<;>replace hb0:=h)|(((with_reducible refine isCall (f:=19) ?_);refine callA_nil (by kernel_rfl) ?_;refine (itemO_ok ts num D C (by omega) (by omega) (by omega) (fun A B hA hB=>Stop.mk ?_))))|(refine And.intro ?_ ?_;(try simp only[sxO]at *);omega)|fail)<;>(try simp (maxSteps:=1000000) only [hb0,w2,cE_ment,cE_kill,irC_ment,irC_kill,hasK_nil,hu.one,bs_mk,bs_app,bs_ext,bs_size,bs_toList,bs_at,bs_cells,List.take_length,imp_ga,guard_pk,guard_pk2,↓hold_pre,awayP,runOps,regK,step1,newK,genR,appR,obl,buildR,Value.cells,closeK,keepH,outV,retK,ret1,retC,RetV,Option.getD,runD,stepD,afterK,undef,simprocAttr,sxB,↓sxD,sxE,sxTab]))
   have hA:A=ofN (num / Nat.gcd num D):=hA
   have hB:B=ofN (D / Nat.gcd num D):=hB
   have hAB:=numOK_of hA hB (by omega) (by omega) (by omega)
   refine Stop.go ?_
   (try with_reducible refine Fz.of ?_);(replace hb0:=true_and True);refine Go1.mk ?_;repeat' ((first|(with_reducible refine Go1.go ?_)|((with_reducible first|refine brv_mk ?_ ?_|refine gsplitD ?_ ?_|refine gsplitG ?_ ?_)<;>intro h<;>(try simp only[Bool.not_eq_true',Bool.not_eq_false']at h)<;>replace hb0:=h)|((with_reducible refine isCall (f:=34) ?_);refine callA ?_)|((with_reducible refine isCallS (f:=34) ?_);refine (one31b_ok u l (p'+1+1+1+1) [[112],[113]] rfl hu1 (by omega) (fun pk _=>Stop.mk ?_)))|(refine And.intro ?_ ?_;(try simp only[sxO]at *);omega)|fail)<;>(try simp (maxSteps:=1000000) only [hb0,cE_ment,cE_kill,irC_ment,irC_kill,hasK_nil,hu.one,bs_mk,bs_app,bs_ext,bs_size,bs_toList,bs_at,bs_cells,List.take_length,imp_ga,guard_pk,guard_pk2,↓hold_pre,awayP,runOps,regK,step1,newK,genR,appR,obl,buildR,Value.cells,closeK,keepH,outV,retK,ret1,retC,RetV,Option.getD,runD,stepD,afterK,undef,simprocAttr,sxB,↓sxD,sxE,sxTab]))
   refine Stop.go ?_
   (try with_reducible refine Fz.of ?_);(replace hb0:=true_and True);refine Go1.mk ?_;repeat' ((first|(with_reducible refine Go1.go ?_)|((with_reducible first|refine brv_mk ?_ ?_|refine gsplitD ?_ ?_|refine gsplitG ?_ ?_)<;>intro h<;>(try simp only[Bool.not_eq_true',Bool.not_eq_false']at h)<;>replace hb0:=h)|(refine And.intro ?_ ?_;(try simp only[sxO]at *);omega)|fail)<;>(try simp (maxSteps:=1000000) only [hb0,cE_ment,cE_kill,irC_ment,irC_kill,hasK_nil,hu.one,bs_mk,bs_app,bs_ext,bs_size,bs_toList,bs_at,bs_cells,List.take_length,imp_ga,guard_pk,guard_pk2,↓hold_pre,awayP,runOps,regK,step1,newK,genR,appR,obl,buildR,Value.cells,closeK,keepH,outV,retK,ret1,retC,RetV,Option.getD,runD,stepD,afterK,undef,simprocAttr,sxB,↓sxD,sxE,sxTab]))
   refine ⟨fun z=>∃p2 A B cost,NumOK A B cost∧p2≤p'+8∧z=icQ31 M1 u p2 n L.length L pk ts cost A B,?_,?_⟩
   ·(try with_reducible refine Fz.of ?_);(replace hb0:=true_and True);refine Go1.mk ?_;repeat' ((first|(with_reducible refine Go1.go ?_)|((with_reducible first|refine brv_mk ?_ ?_|refine gsplitD ?_ ?_|refine gsplitG ?_ ?_)<;>intro h<;>(try simp only[Bool.not_eq_true',Bool.not_eq_false']at h)<;>replace hb0:=h)|((with_reducible refine isCall (f:=18) ?_);refine callA ?_)|((with_reducible refine isCallS (f:=18) ?_);refine (nextI_ok 31 u l (p'+1+1+1+1+1) 8 hu1 (by omega) (by omega) (by omega) (fun x4 x40 x41=>Stop.mk ?_)))|(refine And.intro ?_ ?_;(try simp only[sxO]at *);omega)|fail)<;>(try simp (maxSteps:=1000000) only [hb0,cE_ment,cE_kill,irC_ment,irC_kill,hasK_nil,hu.one,bs_mk,bs_app,bs_ext,bs_size,bs_toList,bs_at,bs_cells,List.take_length,imp_ga,guard_pk,guard_pk2,↓hold_pre,awayP,runOps,regK,step1,newK,genR,appR,obl,buildR,Value.cells,closeK,keepH,outV,retK,ret1,retC,RetV,Option.getD,runD,stepD,afterK,undef,simprocAttr,sxB,↓sxD,sxE,sxTab]))
    obtain ⟨sw,rfl⟩:=Int.eq_ofNat_of_zero_le x40
    by_cases s0:sw=0
    ·have e0:decide ((sw:Int)=0)=true:=by rw[decide_eq_true_eq];omega
     refine Stop.go ?_
     (try with_reducible refine Fz.of ?_);(replace hb0:=true_and True);refine Go1.mk ?_;repeat' ((first|(with_reducible refine Go1.go ?_)|((with_reducible first|refine brv_mk ?_ ?_|refine gsplitD ?_ ?_|refine gsplitG ?_ ?_)<;>intro h<;>(try simp only[Bool.not_eq_true',Bool.not_eq_false']at h)<;>replace hb0:=h)|((with_reducible refine isCall (f:=18) ?_);refine callA ?_)|((with_reducible refine isCallS (f:=18) ?_);refine (nextI_ok 31 u l (p'+1+1+1+1+1+1) 3 hu1 (by omega) (by omega) (by omega) (fun x5 x50 x51=>Stop.mk ?_)))|(refine And.intro ?_ ?_;(try simp only[sxO]at *);omega)|fail)<;>(try simp (maxSteps:=1000000) only [hb0,e0,cE_ment,cE_kill,irC_ment,irC_kill,hasK_nil,hu.one,bs_mk,bs_app,bs_ext,bs_size,bs_toList,bs_at,bs_cells,List.take_length,imp_ga,guard_pk,guard_pk2,↓hold_pre,awayP,runOps,regK,step1,newK,genR,appR,obl,buildR,Value.cells,closeK,keepH,outV,retK,ret1,retC,RetV,Option.getD,runD,stepD,afterK,undef,simprocAttr,sxB,↓sxD,sxE,sxTab]))
     obtain ⟨y,rfl⟩:=Int.eq_ofNat_of_zero_le x50
     obtain ⟨C2,hC2⟩:∃C2,C2=1048576-y:=⟨_,rfl⟩
     have w3:IntKind.i64.wrap (1048576-(y:Int))=(C2:Int):=by rw[wrap_id (by omega) (by omega)];omega
     refine Stop.go ?_
     (try with_reducible refine Fz.of ?_);(replace hb0:=true_and True);refine Go1.mk ?_;repeat' ((first|(with_reducible refine Go1.go ?_)|((with_reducible first|refine brv_mk ?_ ?_|refine gsplitD ?_ ?_|refine gsplitG ?_ ?_)<;>intro h<;>(try simp only[Bool.not_eq_true',Bool.not_eq_false']at h)<;>replace hb0:=h)|(refine And.intro ?_ ?_;(try simp only[sxO]at *);omega)|fail)<;>(try simp (maxSteps:=1000000) only [hb0,w3,cE_ment,cE_kill,irC_ment,irC_kill,hasK_nil,hu.one,bs_mk,bs_app,bs_ext,bs_size,bs_toList,bs_at,bs_cells,List.take_length,imp_ga,guard_pk,guard_pk2,↓hold_pre,awayP,runOps,regK,step1,newK,genR,appR,obl,buildR,Value.cells,closeK,keepH,outV,retK,ret1,retC,RetV,Option.getD,runD,stepD,afterK,undef,simprocAttr,sxB,↓sxD,sxE,sxTab]))
     exact ⟨icQ31 M1 u (p'+1+1+1+1+1+1+1) n L.length L pk ts (C2:Int) A B,le_sub ⟨rfl,rfl,rfl,rfl,rfl,trivial⟩ ⟨rfl,rfl,rfl,rfl,rfl,trivial⟩ rfl rfl rfl (keepLt_of rfl),_,A,B,(C2:Int),hAB.cost (by omega) (by omega),by omega,rfl⟩
    have e0:decide ((sw:Int)=0)=false:=by rw[decide_eq_false_iff_not];omega
    by_cases s1:sw=1
    ·have e1:decide ((sw:Int)=1)=true:=by rw[decide_eq_true_eq];omega
     refine Stop.go ?_
     (try with_reducible refine Fz.of ?_);(replace hb0:=true_and True);refine Go1.mk ?_;repeat' ((first|(with_reducible refine Go1.go ?_)|((with_reducible first|refine brv_mk ?_ ?_|refine gsplitD ?_ ?_|refine gsplitG ?_ ?_)<;>intro h<;>(try simp only[Bool.not_eq_true',Bool.not_eq_false']at h)<;>replace hb0:=h)|((with_reducible refine isCall (f:=18) ?_);refine callA ?_)|((with_reducible refine isCallS (f:=18) ?_);refine (nextI_ok 31 u l (p'+1+1+1+1+1+1) 1048576 hu1 (by omega) (by omega) (by omega) (fun x5 x50 x51=>Stop.mk ?_)))|(refine And.intro ?_ ?_;(try simp only[sxO]at *);omega)|fail)<;>(try simp (maxSteps:=1000000) only [hb0,e0,e1,cE_ment,cE_kill,irC_ment,irC_kill,hasK_nil,hu.one,bs_mk,bs_app,bs_ext,bs_size,bs_toList,bs_at,bs_cells,List.take_length,imp_ga,guard_pk,guard_pk2,↓hold_pre,awayP,runOps,regK,step1,newK,genR,appR,obl,buildR,Value.cells,closeK,keepH,outV,retK,ret1,retC,RetV,Option.getD,runD,stepD,afterK,undef,simprocAttr,sxB,↓sxD,sxE,sxTab]))
     obtain ⟨y,rfl⟩:=Int.eq_ofNat_of_zero_le x50
     obtain ⟨Y,hY⟩:∃Y,Y=y+1:=⟨_,rfl⟩
     have w3:IntKind.i64.wrap (1+(y:Int))=(Y:Int):=by rw[wrap_id (by omega) (by omega)];omega
     refine Stop.go ?_
     (try with_reducible refine Fz.of ?_);(replace hb0:=true_and True);refine Go1.mk ?_;repeat' ((first|(with_reducible refine Go1.go ?_)|((with_reducible first|refine brv_mk ?_ ?_|refine gsplitD ?_ ?_|refine gsplitG ?_ ?_)<;>intro h<;>(try simp only[Bool.not_eq_true',Bool.not_eq_false']at h)<;>replace hb0:=h)|((with_reducible refine isCall (f:=18) ?_);refine callA ?_)|((with_reducible refine isCallS (f:=18) ?_);refine (nextI_ok 31 u l (p'+1+1+1+1+1+1+1) 1048576 hu1 (by omega) (by omega) (by omega) (fun x6 x60 x61=>Stop.mk ?_)))|(refine And.intro ?_ ?_;(try simp only[sxO]at *);omega)|fail)<;>(try simp (maxSteps:=1000000) only [hb0,w3,cE_ment,cE_kill,irC_ment,irC_kill,hasK_nil,hu.one,bs_mk,bs_app,bs_ext,bs_size,bs_toList,bs_at,bs_cells,List.take_length,imp_ga,guard_pk,guard_pk2,↓hold_pre,awayP,runOps,regK,step1,newK,genR,appR,obl,buildR,Value.cells,closeK,keepH,outV,retK,ret1,retC,RetV,Option.getD,runD,stepD,afterK,undef,simprocAttr,sxB,↓sxD,sxE,sxTab]))
     obtain ⟨z,rfl⟩:=Int.eq_ofNat_of_zero_le x60
     obtain ⟨Z,hZ⟩:∃Z,Z=z+1:=⟨_,rfl⟩
     have w4:IntKind.i64.wrap (1+(z:Int))=(Z:Int):=by rw[wrap_id (by omega) (by omega)];omega
     refine Stop.go ?_
     (try with_reducible refine Fz.of ?_);(replace hb0:=true_and True);refine Go1.mk ?_;repeat' ((first|(with_reducible refine Go1.go ?_)|((with_reducible first|refine brv_mk ?_ ?_|refine gsplitD ?_ ?_|refine gsplitG ?_ ?_)<;>intro h<;>(try simp only[Bool.not_eq_true',Bool.not_eq_false']at h)<;>replace hb0:=h)|(((with_reducible refine isCall (f:=22) ?_);refine callA_nil (by kernel_rfl) ?_;refine (smlO6_ok Y Z (by omega) (by omega) (by omega) (fun A2 B2 hA2 hB2=>Stop.mk ?_))))|(refine And.intro ?_ ?_;(try simp only[sxO]at *);omega)|fail)<;>(try simp (maxSteps:=1000000) only [hb0,w4,cE_ment,cE_kill,irC_ment,irC_kill,hasK_nil,hu.one,bs_mk,bs_app,bs_ext,bs_size,bs_toList,bs_at,bs_cells,List.take_length,imp_ga,guard_pk,guard_pk2,↓hold_pre,awayP,runOps,regK,step1,newK,genR,appR,obl,buildR,Value.cells,closeK,keepH,outV,retK,ret1,retC,RetV,Option.getD,runD,stepD,afterK,undef,simprocAttr,sxB,↓sxD,sxE,sxTab]))
     have hA2:A2=ofN (Y / Nat.gcd Y Z):=hA2
     have hB2:B2=ofN (Z / Nat.gcd Y Z):=hB2
     have hAB2:=numOK_of hA2 hB2 (by omega) (by omega) (by omega)
     refine Stop.go ?_
     (try with_reducible refine Fz.of ?_);(replace hb0:=true_and True);refine Go1.mk ?_;repeat' ((first|(with_reducible refine Go1.go ?_)|((with_reducible first|refine brv_mk ?_ ?_|refine gsplitD ?_ ?_|refine gsplitG ?_ ?_)<;>intro h<;>(try simp only[Bool.not_eq_true',Bool.not_eq_false']at h)<;>replace hb0:=h)|(refine And.intro ?_ ?_;(try simp only[sxO]at *);omega)|fail)<;>(try simp (maxSteps:=1000000) only [hb0,cE_ment,cE_kill,irC_ment,irC_kill,hasK_nil,hu.one,bs_mk,bs_app,bs_ext,bs_size,bs_toList,bs_at,bs_cells,List.take_length,imp_ga,guard_pk,guard_pk2,↓hold_pre,awayP,runOps,regK,step1,newK,genR,appR,obl,buildR,Value.cells,closeK,keepH,outV,retK,ret1,retC,RetV,Option.getD,runD,stepD,afterK,undef,simprocAttr,sxB,↓sxD,sxE,sxTab]))
     refine ⟨icQ31 M1 u (p'+1+1+1+1+1+1+1+1) n L.length L pk ts (C:Int) A2 B2,Le.trans ?_ (Le.trans (le_sw (s:=icQ6 M1 u (p'+1+1+1+1+1+1+1+1) n L.length L pk ts (C:Int) A2 B2) sw56 sw56_two (fun k hk=>sw56_lt (by have:k<32:=hk;omega)) (fun k hk=>sw56_lt (by have:=List.mem_singleton.1 hk;omega))) ?_),_,A2,B2,_,hAB2.cost (by omega) (by omega),by omega,rfl⟩
     ·exact le_sub ⟨rfl,rfl,rfl,rfl,rfl,trivial⟩ ⟨rfl,rfl,rfl,rfl,rfl,trivial⟩ rfl rfl rfl (keepLt_of rfl)
     ·exact le_sub ⟨rfl,rfl,rfl,rfl,rfl,trivial⟩ ⟨rfl,by simp[lkH,icQ6,swH,sw56,swL_cE],by simp[lkH,icQ6,swH,sw56,swL_cE],by simp[lkH,icQ6,swH,sw56,swL_irC],rfl,trivial⟩ rfl rfl rfl (keepLt_of rfl)
    have e1:decide ((sw:Int)=1)=false:=by rw[decide_eq_false_iff_not];omega
    refine Stop.go ?_
    (try with_reducible refine Fz.of ?_);(replace hb0:=true_and True);refine Go1.mk ?_;repeat' ((first|(with_reducible refine Go1.go ?_)|((with_reducible first|refine brv_mk ?_ ?_|refine gsplitD ?_ ?_|refine gsplitG ?_ ?_)<;>intro h<;>(try simp only[Bool.not_eq_true',Bool.not_eq_false']at h)<;>replace hb0:=h)|(refine And.intro ?_ ?_;(try simp only[sxO]at *);omega)|fail)<;>(try simp (maxSteps:=1000000) only [hb0,e0,e1,cE_ment,cE_kill,irC_ment,irC_kill,hasK_nil,hu.one,bs_mk,bs_app,bs_ext,bs_size,bs_toList,bs_at,bs_cells,List.take_length,imp_ga,guard_pk,guard_pk2,↓hold_pre,awayP,runOps,regK,step1,newK,genR,appR,obl,buildR,Value.cells,closeK,keepH,outV,retK,ret1,retC,RetV,Option.getD,runD,stepD,afterK,undef,simprocAttr,sxB,↓sxD,sxE,sxTab]))
    exact ⟨icQ31 M1 u (p'+1+1+1+1+1+1) n L.length L pk ts (C:Int) A B,le_sub ⟨rfl,rfl,rfl,rfl,rfl,trivial⟩ ⟨rfl,rfl,rfl,rfl,rfl,trivial⟩ rfl rfl rfl (keepLt_of rfl),_,A,B,(C:Int),hAB.cost (by omega) (by omega),by omega,rfl⟩
   rintro z ⟨p2,A9,B9,cost,hAB9,hp2,rfl⟩
   have happ:=opN_snoc L pk ts cost A9 B9
   have wn:IntKind.i64.wrap ((n:Int)-1)=((n-1:Nat):Int):=pred_i (by omega) (by omega)
   (try with_reducible refine Fz.of ?_);(replace hb0:=true_and True);refine Go1.mk ?_;repeat' ((first|(with_reducible refine Go1.go ?_)|((with_reducible first|refine brv_mk ?_ ?_|refine gsplitD ?_ ?_|refine gsplitG ?_ ?_)<;>intro h<;>(try simp only[Bool.not_eq_true',Bool.not_eq_false']at h)<;>replace hb0:=h)|(refine And.intro ?_ ?_;(try simp only[sxO]at *);omega)|fail)<;>(try simp (maxSteps:=1000000) only [hb0,icQ31,happ,hcl,wn,cE_ment,cE_kill,irC_ment,irC_kill,hasK_nil,hu.one,bs_mk,bs_app,bs_ext,bs_size,bs_toList,bs_at,bs_cells,List.take_length,imp_ga,guard_pk,guard_pk2,↓hold_pre,awayP,runOps,regK,step1,newK,genR,appR,obl,buildR,Value.cells,closeK,keepH,outV,retK,ret1,retC,RetV,Option.getD,runD,stepD,afterK,undef,simprocAttr,sxB,↓sxD,sxE,sxTab]))
   exact ⟨n-1,itQ31 M1 u p2 (n-1) (L.length+1) L [] pk ts cost A9 B9,by omega,le_sub ⟨rfl,rfl,rfl,rfl,trivial⟩ ⟨by simp[lkH,itQ31],by simp[lkH,itQ31],by simp[lkH,itQ31],by simp[lkH,itQ31],trivial⟩ rfl rfl rfl (by simp[keepLt,itQ31,lkH]),.inr ⟨M1,L,[],pk,ts,cost,A9,B9,p2,n-1,rfl,hM,hL,by simp,hAB9,by omega,by simp;omega,by omega,rfl⟩⟩
  refine Stop.go ?_
  (try with_reducible refine Fz.of ?_);(replace hb0:=true_and True);refine Go1.mk ?_;repeat' ((first|(with_reducible refine Go1.go ?_)|((with_reducible first|refine brv_mk ?_ ?_|refine gsplitD ?_ ?_|refine gsplitG ?_ ?_)<;>intro h<;>(try simp only[Bool.not_eq_true',Bool.not_eq_false']at h)<;>replace hb0:=h)|(((with_reducible refine isCall (f:=19) ?_);refine callA_nil (by kernel_rfl) ?_;refine (item_ok ts num D C (by omega) (by omega) (by omega) (fun w1 w2 M2 a1 a2 a3 a4 a5=>Stop.mk ?_))))|(refine And.intro ?_ ?_;(try simp only[sxO]at *);omega)|fail)<;>(try simp (maxSteps:=1000000) only [hb0,w2,cE_ment,cE_kill,irC_ment,irC_kill,hasK_nil,hu.one,bs_mk,bs_app,bs_ext,bs_size,bs_toList,bs_at,bs_cells,List.take_length,imp_ga,guard_pk,guard_pk2,↓hold_pre,awayP,runOps,regK,step1,newK,genR,appR,obl,buildR,Value.cells,closeK,keepH,outV,retK,ret1,retC,RetV,Option.getD,runD,stepD,afterK,undef,simprocAttr,sxB,↓sxD,sxE,sxTab]))
  have a1:Mem.le M1 M2:=a1
  have hu2:=hu1.le a1
  obtain ⟨g1,g2,g3,g4⟩:=sml_low num D (by omega) (by omega) (by omega)
  refine Stop.go ?_
  (try with_reducible refine Fz.of ?_);(replace hb0:=true_and True);refine Go1.mk ?_;repeat' ((first|(with_reducible refine Go1.go ?_)|((with_reducible first|refine brv_mk ?_ ?_|refine gsplitD ?_ ?_|refine gsplitG ?_ ?_)<;>intro h<;>(try simp only[Bool.not_eq_true',Bool.not_eq_false']at h)<;>replace hb0:=h)|((with_reducible refine isCall (f:=34) ?_);refine callA ?_)|((with_reducible refine isCallS (f:=34) ?_);refine (one31b_ok u l (p'+1+1+1+1) [[112],[113]] rfl hu2 (by omega) (fun pk _=>Stop.mk ?_)))|(refine And.intro ?_ ?_;(try simp only[sxO]at *);omega)|fail)<;>(try simp (maxSteps:=1000000) only [hb0,a2.one,a3.one,cE_ment,cE_kill,irC_ment,irC_kill,hasK_nil,hu.one,bs_mk,bs_app,bs_ext,bs_size,bs_toList,bs_at,bs_cells,List.take_length,imp_ga,guard_pk,guard_pk2,↓hold_pre,awayP,runOps,regK,step1,newK,genR,appR,obl,buildR,Value.cells,closeK,keepH,outV,retK,ret1,retC,RetV,Option.getD,runD,stepD,afterK,undef,simprocAttr,sxB,↓sxD,sxE,sxTab]))
  have hit:=itOK_of pk ts C a2 a3 g1 g2 g3 g4 (by omega) (by omega)
  refine Stop.go ?_
  (try with_reducible refine Fz.of ?_);(replace hb0:=true_and True);refine Go1.mk ?_;repeat' ((first|(with_reducible refine Go1.go ?_)|((with_reducible first|refine brv_mk ?_ ?_|refine gsplitD ?_ ?_|refine gsplitG ?_ ?_)<;>intro h<;>(try simp only[Bool.not_eq_true',Bool.not_eq_false']at h)<;>replace hb0:=h)|(refine And.intro ?_ ?_;(try simp only[sxO]at *);omega)|fail)<;>(try simp (maxSteps:=1000000) only [hb0,a2.one,a3.one,cE_ment,cE_kill,irC_ment,irC_kill,hasK_nil,hu.one,bs_mk,bs_app,bs_ext,bs_size,bs_toList,bs_at,bs_cells,List.take_length,imp_ga,guard_pk,guard_pk2,↓hold_pre,awayP,runOps,regK,step1,newK,genR,appR,obl,buildR,Value.cells,closeK,keepH,outV,retK,ret1,retC,RetV,Option.getD,runD,stepD,afterK,undef,simprocAttr,sxB,↓sxD,sxE,sxTab]))
  refine ⟨fun z=>∃M' p2 x,Mem.le M1 M'∧ItOK M' x∧p2≤p'+8∧z=icSt31 M' u p2 n L.length L x,?_,?_⟩
  ·(try with_reducible refine Fz.of ?_);(replace hb0:=true_and True);refine Go1.mk ?_;repeat' ((first|(with_reducible refine Go1.go ?_)|((with_reducible first|refine brv_mk ?_ ?_|refine gsplitD ?_ ?_|refine gsplitG ?_ ?_)<;>intro h<;>(try simp only[Bool.not_eq_true',Bool.not_eq_false']at h)<;>replace hb0:=h)|((with_reducible refine isCall (f:=18) ?_);refine callA ?_)|((with_reducible refine isCallS (f:=18) ?_);refine (nextI_ok 31 u l (p'+1+1+1+1+1) 8 hu2 (by omega) (by omega) (by omega) (fun x4 x40 x41=>Stop.mk ?_)))|(refine And.intro ?_ ?_;(try simp only[sxO]at *);omega)|fail)<;>(try simp (maxSteps:=1000000) only [hb0,a2.one,a3.one,cE_ment,cE_kill,irC_ment,irC_kill,hasK_nil,hu.one,bs_mk,bs_app,bs_ext,bs_size,bs_toList,bs_at,bs_cells,List.take_length,imp_ga,guard_pk,guard_pk2,↓hold_pre,awayP,runOps,regK,step1,newK,genR,appR,obl,buildR,Value.cells,closeK,keepH,outV,retK,ret1,retC,RetV,Option.getD,runD,stepD,afterK,undef,simprocAttr,sxB,↓sxD,sxE,sxTab]))
   obtain ⟨sw,rfl⟩:=Int.eq_ofNat_of_zero_le x40
   by_cases s0:sw=0
   ·have e0:decide ((sw:Int)=0)=true:=by rw[decide_eq_true_eq];omega
    refine Stop.go ?_
    (try with_reducible refine Fz.of ?_);(replace hb0:=true_and True);refine Go1.mk ?_;repeat' ((first|(with_reducible refine Go1.go ?_)|((with_reducible first|refine brv_mk ?_ ?_|refine gsplitD ?_ ?_|refine gsplitG ?_ ?_)<;>intro h<;>(try simp only[Bool.not_eq_true',Bool.not_eq_false']at h)<;>replace hb0:=h)|((with_reducible refine isCall (f:=18) ?_);refine callA ?_)|((with_reducible refine isCallS (f:=18) ?_);refine (nextI_ok 31 u l (p'+1+1+1+1+1+1) 3 hu2 (by omega) (by omega) (by omega) (fun x5 x50 x51=>Stop.mk ?_)))|(refine And.intro ?_ ?_;(try simp only[sxO]at *);omega)|fail)<;>(try simp (maxSteps:=1000000) only [hb0,e0,a2.one,a3.one,cE_ment,cE_kill,irC_ment,irC_kill,hasK_nil,hu.one,bs_mk,bs_app,bs_ext,bs_size,bs_toList,bs_at,bs_cells,List.take_length,imp_ga,guard_pk,guard_pk2,↓hold_pre,awayP,runOps,regK,step1,newK,genR,appR,obl,buildR,Value.cells,closeK,keepH,outV,retK,ret1,retC,RetV,Option.getD,runD,stepD,afterK,undef,simprocAttr,sxB,↓sxD,sxE,sxTab]))
    obtain ⟨y,rfl⟩:=Int.eq_ofNat_of_zero_le x50
    obtain ⟨C2,hC2⟩:∃C2,C2=1048576-y:=⟨_,rfl⟩
    have w3:IntKind.i64.wrap (1048576-(y:Int))=(C2:Int):=by rw[wrap_id (by omega) (by omega)];omega
    have hit:=itOK_of pk ts C2 a2 a3 g1 g2 g3 g4 (by omega) (by omega)
    refine Stop.go ?_
    (try with_reducible refine Fz.of ?_);(replace hb0:=true_and True);refine Go1.mk ?_;repeat' ((first|(with_reducible refine Go1.go ?_)|((with_reducible first|refine brv_mk ?_ ?_|refine gsplitD ?_ ?_|refine gsplitG ?_ ?_)<;>intro h<;>(try simp only[Bool.not_eq_true',Bool.not_eq_false']at h)<;>replace hb0:=h)|(refine And.intro ?_ ?_;(try simp only[sxO]at *);omega)|fail)<;>(try simp (maxSteps:=1000000) only [hb0,w3,a2.one,a3.one,cE_ment,cE_kill,irC_ment,irC_kill,hasK_nil,hu.one,bs_mk,bs_app,bs_ext,bs_size,bs_toList,bs_at,bs_cells,List.take_length,imp_ga,guard_pk,guard_pk2,↓hold_pre,awayP,runOps,regK,step1,newK,genR,appR,obl,buildR,Value.cells,closeK,keepH,outV,retK,ret1,retC,RetV,Option.getD,runD,stepD,afterK,undef,simprocAttr,sxB,↓sxD,sxE,sxTab]))
    exact ⟨icSt31 M2 u (p'+1+1+1+1+1+1+1) n L.length L ⟨pk,ts,w1,w2,_,_,(C2:Int)⟩,le_sub ⟨rfl,rfl,rfl,rfl,rfl,trivial⟩ ⟨by simp[lkH,icSt31,irC_kill],by simp[lkH,icSt31,irC_kill],by simp[lkH,icSt31,irC_kill],trivial⟩ rfl rfl rfl (by simp[keepLt,icSt31,lkH]),M2,_,_,a1,hit,by omega,rfl⟩
   have e0:decide ((sw:Int)=0)=false:=by rw[decide_eq_false_iff_not];omega
   by_cases s1:sw=1
   ·have e1:decide ((sw:Int)=1)=true:=by rw[decide_eq_true_eq];omega
    refine Stop.go ?_
    (try with_reducible refine Fz.of ?_);(replace hb0:=true_and True);refine Go1.mk ?_;repeat' ((first|(with_reducible refine Go1.go ?_)|((with_reducible first|refine brv_mk ?_ ?_|refine gsplitD ?_ ?_|refine gsplitG ?_ ?_)<;>intro h<;>(try simp only[Bool.not_eq_true',Bool.not_eq_false']at h)<;>replace hb0:=h)|((with_reducible refine isCall (f:=18) ?_);refine callA ?_)|((with_reducible refine isCallS (f:=18) ?_);refine (nextI_ok 31 u l (p'+1+1+1+1+1+1) 1048576 hu2 (by omega) (by omega) (by omega) (fun x5 x50 x51=>Stop.mk ?_)))|(refine And.intro ?_ ?_;(try simp only[sxO]at *);omega)|fail)<;>(try simp (maxSteps:=1000000) only [hb0,e0,e1,a2.one,a3.one,cE_ment,cE_kill,irC_ment,irC_kill,hasK_nil,hu.one,bs_mk,bs_app,bs_ext,bs_size,bs_toList,bs_at,bs_cells,List.take_length,imp_ga,guard_pk,guard_pk2,↓hold_pre,awayP,runOps,regK,step1,newK,genR,appR,obl,buildR,Value.cells,closeK,keepH,outV,retK,ret1,retC,RetV,Option.getD,runD,stepD,afterK,undef,simprocAttr,sxB,↓sxD,sxE,sxTab]))
    obtain ⟨y,rfl⟩:=Int.eq_ofNat_of_zero_le x50
    obtain ⟨Y,hY⟩:∃Y,Y=y+1:=⟨_,rfl⟩
    have w3:IntKind.i64.wrap (1+(y:Int))=(Y:Int):=by rw[wrap_id (by omega) (by omega)];omega
    refine Stop.go ?_
    (try with_reducible refine Fz.of ?_);(replace hb0:=true_and True);refine Go1.mk ?_;repeat' ((first|(with_reducible refine Go1.go ?_)|((with_reducible first|refine brv_mk ?_ ?_|refine gsplitD ?_ ?_|refine gsplitG ?_ ?_)<;>intro h<;>(try simp only[Bool.not_eq_true',Bool.not_eq_false']at h)<;>replace hb0:=h)|((with_reducible refine isCall (f:=18) ?_);refine callA ?_)|((with_reducible refine isCallS (f:=18) ?_);refine (nextI_ok 31 u l (p'+1+1+1+1+1+1+1) 1048576 hu2 (by omega) (by omega) (by omega) (fun x6 x60 x61=>Stop.mk ?_)))|(refine And.intro ?_ ?_;(try simp only[sxO]at *);omega)|fail)<;>(try simp (maxSteps:=1000000) only [hb0,w3,a2.one,a3.one,cE_ment,cE_kill,irC_ment,irC_kill,hasK_nil,hu.one,bs_mk,bs_app,bs_ext,bs_size,bs_toList,bs_at,bs_cells,List.take_length,imp_ga,guard_pk,guard_pk2,↓hold_pre,awayP,runOps,regK,step1,newK,genR,appR,obl,buildR,Value.cells,closeK,keepH,outV,retK,ret1,retC,RetV,Option.getD,runD,stepD,afterK,undef,simprocAttr,sxB,↓sxD,sxE,sxTab]))
    obtain ⟨z,rfl⟩:=Int.eq_ofNat_of_zero_le x60
    obtain ⟨Z,hZ⟩:∃Z,Z=z+1:=⟨_,rfl⟩
    have w4:IntKind.i64.wrap (1+(z:Int))=(Z:Int):=by rw[wrap_id (by omega) (by omega)];omega
    obtain ⟨f1,f2,f3,f4⟩:=sml_low Y Z (by omega) (by omega) (by omega)
    refine Stop.go ?_
    (try with_reducible refine Fz.of ?_);(replace hb0:=true_and True);refine Go1.mk ?_;repeat' ((first|(with_reducible refine Go1.go ?_)|((with_reducible first|refine brv_mk ?_ ?_|refine gsplitD ?_ ?_|refine gsplitG ?_ ?_)<;>intro h<;>(try simp only[Bool.not_eq_true',Bool.not_eq_false']at h)<;>replace hb0:=h)|(((with_reducible refine isCall (f:=22) ?_);refine callA_nil (by kernel_rfl) ?_;refine (sml_ok Y Z (by omega) (by omega) (by omega) (fun v1 v2 M3 c1 c2 c3 c4 c5=>Stop.mk ?_))))|(refine And.intro ?_ ?_;(try simp only[sxO]at *);omega)|fail)<;>(try simp (maxSteps:=1000000) only [hb0,w4,a2.one,a3.one,cE_ment,cE_kill,irC_ment,irC_kill,hasK_nil,hu.one,bs_mk,bs_app,bs_ext,bs_size,bs_toList,bs_at,bs_cells,List.take_length,imp_ga,guard_pk,guard_pk2,↓hold_pre,awayP,runOps,regK,step1,newK,genR,appR,obl,buildR,Value.cells,closeK,keepH,outV,retK,ret1,retC,RetV,Option.getD,runD,stepD,afterK,undef,simprocAttr,sxB,↓sxD,sxE,sxTab]))
    have c1:Mem.le M2 M3:=c1
    have hit:=itOK_of pk ts C c2 c3 f1 f2 f3 f4 (by omega) (by omega)
    refine Stop.go ?_
    (try with_reducible refine Fz.of ?_);(replace hb0:=true_and True);refine Go1.mk ?_;repeat' ((first|(with_reducible refine Go1.go ?_)|((with_reducible first|refine brv_mk ?_ ?_|refine gsplitD ?_ ?_|refine gsplitG ?_ ?_)<;>intro h<;>(try simp only[Bool.not_eq_true',Bool.not_eq_false']at h)<;>replace hb0:=h)|(refine And.intro ?_ ?_;(try simp only[sxO]at *);omega)|fail)<;>(try simp (maxSteps:=1000000) only [hb0,c2.one,c3.one,a2.one,a3.one,cE_ment,cE_kill,irC_ment,irC_kill,hasK_nil,hu.one,bs_mk,bs_app,bs_ext,bs_size,bs_toList,bs_at,bs_cells,List.take_length,imp_ga,guard_pk,guard_pk2,↓hold_pre,awayP,runOps,regK,step1,newK,genR,appR,obl,buildR,Value.cells,closeK,keepH,outV,retK,ret1,retC,RetV,Option.getD,runD,stepD,afterK,undef,simprocAttr,sxB,↓sxD,sxE,sxTab]))
    exact ⟨icSt31 M3 u (p'+1+1+1+1+1+1+1+1) n L.length L ⟨pk,ts,v1,v2,_,_,(C:Int)⟩,le_sub ⟨rfl,rfl,rfl,rfl,rfl,trivial⟩ ⟨by simp[lkH,icSt31,irC_kill],by simp[lkH,icSt31,irC_kill],by simp[lkH,icSt31,irC_kill],trivial⟩ rfl rfl rfl (by simp[keepLt,icSt31,lkH]),M3,_,_,a1.trans c1,hit,by omega,rfl⟩
   have e1:decide ((sw:Int)=1)=false:=by rw[decide_eq_false_iff_not];omega
   refine Stop.go ?_
   (try with_reducible refine Fz.of ?_);(replace hb0:=true_and True);refine Go1.mk ?_;repeat' ((first|(with_reducible refine Go1.go ?_)|((with_reducible first|refine brv_mk ?_ ?_|refine gsplitD ?_ ?_|refine gsplitG ?_ ?_)<;>intro h<;>(try simp only[Bool.not_eq_true',Bool.not_eq_false']at h)<;>replace hb0:=h)|(refine And.intro ?_ ?_;(try simp only[sxO]at *);omega)|fail)<;>(try simp (maxSteps:=1000000) only [hb0,e0,e1,a2.one,a3.one,cE_ment,cE_kill,irC_ment,irC_kill,hasK_nil,hu.one,bs_mk,bs_app,bs_ext,bs_size,bs_toList,bs_at,bs_cells,List.take_length,imp_ga,guard_pk,guard_pk2,↓hold_pre,awayP,runOps,regK,step1,newK,genR,appR,obl,buildR,Value.cells,closeK,keepH,outV,retK,ret1,retC,RetV,Option.getD,runD,stepD,afterK,undef,simprocAttr,sxB,↓sxD,sxE,sxTab]))
   exact ⟨icSt31 M2 u (p'+1+1+1+1+1+1) n L.length L ⟨pk,ts,w1,w2,_,_,(C:Int)⟩,le_sub ⟨rfl,rfl,rfl,rfl,rfl,trivial⟩ ⟨by simp[lkH,icSt31,irC_kill],by simp[lkH,icSt31,irC_kill],by simp[lkH,icSt31,irC_kill],trivial⟩ rfl rfl rfl (by simp[keepLt,icSt31,lkH]),M2,_,_,a1,hit,by omega,rfl⟩
  clear hit a2 a3 a4 a5 w1 w2
  rintro z ⟨M3,p2,x,hM3,hx,hp2,rfl⟩
  have happ:=irC_app L x
  have o1:=hx.ok.f.n.one
  have o2:=hx.ok.f.d.one
  have wn:IntKind.i64.wrap ((n:Int)-1)=((n-1:Nat):Int):=pred_i (by omega) (by omega)
  (try with_reducible refine Fz.of ?_);(replace hb0:=true_and True);refine Go1.mk ?_;repeat' ((first|(with_reducible refine Go1.go ?_)|((with_reducible first|refine brv_mk ?_ ?_|refine gsplitD ?_ ?_|refine gsplitG ?_ ?_)<;>intro h<;>(try simp only[Bool.not_eq_true',Bool.not_eq_false']at h)<;>replace hb0:=h)|(refine And.intro ?_ ?_;(try simp only[sxO]at *);omega)|fail)<;>(try simp (maxSteps:=1000000) only [hb0,icSt31,happ,hcl,wn,o1,o2,cE_ment,cE_kill,irC_ment,irC_kill,hasK_nil,hu.one,bs_mk,bs_app,bs_ext,bs_size,bs_toList,bs_at,bs_cells,List.take_length,imp_ga,guard_pk,guard_pk2,↓hold_pre,awayP,runOps,regK,step1,newK,genR,appR,obl,buildR,Value.cells,closeK,keepH,outV,retK,ret1,retC,RetV,Option.getD,runD,stepD,afterK,undef,simprocAttr,sxB,↓sxD,sxE,sxTab]))
  exact ⟨n-1,itSt31 M3 u p2 (n-1) (L.length+1) (L++[x]),by omega,le_sub ⟨rfl,rfl,rfl,rfl,trivial⟩ ⟨by simp[lkH,itSt31],by simp[lkH,itSt31],trivial⟩ rfl rfl rfl (by simp[keepLt,itSt31,lkH]),.inl ⟨M3,L++[x],p2,n-1,rfl,hM.trans hM3,fun y hy=>by
   rcases List.mem_append.1 hy with hy|hy
   ·exact (hL y hy).le hM3
   ·rw[List.mem_singleton.1 hy];exact hx,by rw[List.length_append,List.length_singleton];omega,by rw[List.length_append,List.length_singleton];omega,by omega,by rw[List.length_append,List.length_singleton]⟩⟩
 have hu1:=hu.le hM
 have hcl:=opN_len L1 L2 pk0 ts0 cost0 A0 B0
 obtain ⟨m,hm1⟩:∃m,m=L1.length+1+L2.length:=⟨_,rfl⟩
 rw[←hm1]at hcl hLn
 rw[←hm1]
 rcases Nat.eq_zero_or_pos n with rfl|hn0
 ·have d1:decide ((0:Int)<((0:Nat):Int))=false:=by decide
  (try with_reducible refine Fz.of ?_);(replace hb0:=true_and True);refine Go1.mk ?_;repeat' ((first|(with_reducible refine Go1.go ?_)|((with_reducible first|refine brv_mk ?_ ?_|refine gsplitD ?_ ?_|refine gsplitG ?_ ?_)<;>intro h<;>(try simp only[Bool.not_eq_true',Bool.not_eq_false']at h)<;>replace hb0:=h)|(refine And.intro ?_ ?_;(try simp only[sxO]at *);omega)|fail)<;>(try simp (maxSteps:=1000000) only [hb0,itQ31,d1,opN_ment,hasK_nil,cE_ment,cE_kill,hu.one,bs_mk,bs_app,bs_ext,bs_size,bs_toList,bs_at,bs_cells,List.take_length,imp_ga,guard_pk,guard_pk2,↓hold_pre,awayP,runOps,regK,step1,newK,genR,appR,obl,buildR,Value.cells,closeK,keepH,outV,retK,ret1,retC,RetV,Option.getD,runD,stepD,afterK,undef,simprocAttr,sxB,↓sxD,sxE,sxTab]))
  exact hK L1 L2 pk0 ts0 cost0 A0 B0 M1 p' m hM hL1 hL2 hAB hm1 (by rw[hs1,hsN];congr 1;omega) (by omega) (by omega)
 have d1:decide ((0:Int)<(n:Int))=true:=by rw[decide_eq_true_eq];omega
 (try with_reducible refine Fz.of ?_);(replace hb0:=true_and True);refine Go1.mk ?_;repeat' ((first|(with_reducible refine Go1.go ?_)|((with_reducible first|refine brv_mk ?_ ?_|refine gsplitD ?_ ?_|refine gsplitG ?_ ?_)<;>intro h<;>(try simp only[Bool.not_eq_true',Bool.not_eq_false']at h)<;>replace hb0:=h)|((with_reducible refine isCall (f:=34) ?_);refine callA ?_)|((with_reducible refine isCallS (f:=34) ?_);refine (one31a_ok u l p' [[97],[98],[99],[100]] rfl hu1 (by omega) (fun ts _=>Stop.mk ?_)))|(refine And.intro ?_ ?_;(try simp only[sxO]at *);omega)|fail)<;>(try simp (maxSteps:=1000000) only [hb0,d1,itQ31,opN_ment,opN_k37,opN_k31,opN_k39,opN_k49,opN_k61,cE_ment,cE_kill,irC_ment,irC_kill,hasK_nil,hu.one,bs_mk,bs_app,bs_ext,bs_size,bs_toList,bs_at,bs_cells,List.take_length,imp_ga,guard_pk,guard_pk2,↓hold_pre,awayP,runOps,regK,step1,newK,genR,appR,obl,buildR,Value.cells,closeK,keepH,outV,retK,ret1,retC,RetV,Option.getD,runD,stepD,afterK,undef,simprocAttr,sxB,↓sxD,sxE,sxTab]))
 refine Stop.go ?_
 (try with_reducible refine Fz.of ?_);(replace hb0:=true_and True);refine Go1.mk ?_;repeat' ((first|(with_reducible refine Go1.go ?_)|((with_reducible first|refine brv_mk ?_ ?_|refine gsplitD ?_ ?_|refine gsplitG ?_ ?_)<;>intro h<;>(try simp only[Bool.not_eq_true',Bool.not_eq_false']at h)<;>replace hb0:=h)|((with_reducible refine isCall (f:=18) ?_);refine callA ?_)|((with_reducible refine isCallS (f:=18) ?_);refine (nextI_ok 31 u l (p'+1) 9 hu1 (by omega) (by omega) (by omega) (fun x1 x10 x11=>Stop.mk ?_)))|(refine And.intro ?_ ?_;(try simp only[sxO]at *);omega)|fail)<;>(try simp (maxSteps:=1000000) only [hb0,opN_ment,opN_k37,opN_k31,opN_k39,opN_k49,opN_k61,cE_ment,cE_kill,irC_ment,irC_kill,hasK_nil,hu.one,bs_mk,bs_app,bs_ext,bs_size,bs_toList,bs_at,bs_cells,List.take_length,imp_ga,guard_pk,guard_pk2,↓hold_pre,awayP,runOps,regK,step1,newK,genR,appR,obl,buildR,Value.cells,closeK,keepH,outV,retK,ret1,retC,RetV,Option.getD,runD,stepD,afterK,undef,simprocAttr,sxB,↓sxD,sxE,sxTab]))
 obtain ⟨num,rfl⟩:=Int.eq_ofNat_of_zero_le x10
 refine Stop.go ?_
 (try with_reducible refine Fz.of ?_);(replace hb0:=true_and True);refine Go1.mk ?_;repeat' ((first|(with_reducible refine Go1.go ?_)|((with_reducible first|refine brv_mk ?_ ?_|refine gsplitD ?_ ?_|refine gsplitG ?_ ?_)<;>intro h<;>(try simp only[Bool.not_eq_true',Bool.not_eq_false']at h)<;>replace hb0:=h)|((with_reducible refine isCall (f:=18) ?_);refine callA ?_)|((with_reducible refine isCallS (f:=18) ?_);refine (nextI_ok 31 u l (p'+1+1) 8 hu1 (by omega) (by omega) (by omega) (fun x2 x20 x21=>Stop.mk ?_)))|(refine And.intro ?_ ?_;(try simp only[sxO]at *);omega)|fail)<;>(try simp (maxSteps:=1000000) only [hb0,opN_ment,opN_k37,opN_k31,opN_k39,opN_k49,opN_k61,cE_ment,cE_kill,irC_ment,irC_kill,hasK_nil,hu.one,bs_mk,bs_app,bs_ext,bs_size,bs_toList,bs_at,bs_cells,List.take_length,imp_ga,guard_pk,guard_pk2,↓hold_pre,awayP,runOps,regK,step1,newK,genR,appR,obl,buildR,Value.cells,closeK,keepH,outV,retK,ret1,retC,RetV,Option.getD,runD,stepD,afterK,undef,simprocAttr,sxB,↓sxD,sxE,sxTab]))
 obtain ⟨den,rfl⟩:=Int.eq_ofNat_of_zero_le x20
 obtain ⟨D,hD⟩:∃D,D=den+1:=⟨_,rfl⟩
 have w1:IntKind.i64.wrap (1+(den:Int))=(D:Int):=by rw[wrap_id (by omega) (by omega)];omega
 refine Stop.go ?_
 (try with_reducible refine Fz.of ?_);(replace hb0:=true_and True);refine Go1.mk ?_;repeat' ((first|(with_reducible refine Go1.go ?_)|((with_reducible first|refine brv_mk ?_ ?_|refine gsplitD ?_ ?_|refine gsplitG ?_ ?_)<;>intro h<;>(try simp only[Bool.not_eq_true',Bool.not_eq_false']at h)<;>replace hb0:=h)|((with_reducible refine isCall (f:=18) ?_);refine callA ?_)|((with_reducible refine isCallS (f:=18) ?_);refine (nextI_ok 31 u l (p'+1+1+1) 8 hu1 (by omega) (by omega) (by omega) (fun x3 x30 x31=>Stop.mk ?_)))|(refine And.intro ?_ ?_;(try simp only[sxO]at *);omega)|fail)<;>(try simp (maxSteps:=1000000) only [hb0,w1,opN_ment,opN_k37,opN_k31,opN_k39,opN_k49,opN_k61,cE_ment,cE_kill,irC_ment,irC_kill,hasK_nil,hu.one,bs_mk,bs_app,bs_ext,bs_size,bs_toList,bs_at,bs_cells,List.take_length,imp_ga,guard_pk,guard_pk2,↓hold_pre,awayP,runOps,regK,step1,newK,genR,appR,obl,buildR,Value.cells,closeK,keepH,outV,retK,ret1,retC,RetV,Option.getD,runD,stepD,afterK,undef,simprocAttr,sxB,↓sxD,sxE,sxTab]))
 obtain ⟨cos,rfl⟩:=Int.eq_ofNat_of_zero_le x30
 obtain ⟨C,hC⟩:∃C,C=cos+1:=⟨_,rfl⟩
 have w2:IntKind.i64.wrap (1+(cos:Int))=(C:Int):=by rw[wrap_id (by omega) (by omega)];omega
 refine Stop.go ?_
 (try with_reducible refine Fz.of ?_);(replace hb0:=true_and True);refine Go1.mk ?_;repeat' ((first|(with_reducible refine Go1.go ?_)|((with_reducible first|refine brv_mk ?_ ?_|refine gsplitD ?_ ?_|refine gsplitG ?_ ?_)<;>intro h<;>(try simp only[Bool.not_eq_true',Bool.not_eq_false']at h)<;>replace hb0:=h)|(((with_reducible refine isCall (f:=19) ?_);refine callA_nil (by kernel_rfl) ?_;refine (item_ok ts num D C (by omega) (by omega) (by omega) (fun w1 w2 M2 a1 a2 a3 a4 a5=>Stop.mk ?_))))|(refine And.intro ?_ ?_;(try simp only[sxO]at *);omega)|fail)<;>(try simp (maxSteps:=1000000) only [hb0,w2,opN_ment,opN_k37,opN_k31,opN_k39,opN_k49,opN_k61,cE_ment,cE_kill,irC_ment,irC_kill,hasK_nil,hu.one,bs_mk,bs_app,bs_ext,bs_size,bs_toList,bs_at,bs_cells,List.take_length,imp_ga,guard_pk,guard_pk2,↓hold_pre,awayP,runOps,regK,step1,newK,genR,appR,obl,buildR,Value.cells,closeK,keepH,outV,retK,ret1,retC,RetV,Option.getD,runD,stepD,afterK,undef,simprocAttr,sxB,↓sxD,sxE,sxTab]))
 have a1:Mem.le M1 M2:=a1
 have hu2:=hu1.le a1
 obtain ⟨g1,g2,g3,g4⟩:=sml_low num D (by omega) (by omega) (by omega)
 refine Stop.go ?_
 (try with_reducible refine Fz.of ?_);(replace hb0:=true_and True);refine Go1.mk ?_;repeat' ((first|(with_reducible refine Go1.go ?_)|((with_reducible first|refine brv_mk ?_ ?_|refine gsplitD ?_ ?_|refine gsplitG ?_ ?_)<;>intro h<;>(try simp only[Bool.not_eq_true',Bool.not_eq_false']at h)<;>replace hb0:=h)|((with_reducible refine isCall (f:=34) ?_);refine callA ?_)|((with_reducible refine isCallS (f:=34) ?_);refine (one31b_ok u l (p'+1+1+1+1) [[112],[113]] rfl hu2 (by omega) (fun pk _=>Stop.mk ?_)))|(refine And.intro ?_ ?_;(try simp only[sxO]at *);omega)|fail)<;>(try simp (maxSteps:=1000000) only [hb0,a2.one,a3.one,opN_ment,opN_k37,opN_k31,opN_k39,opN_k49,opN_k61,cE_ment,cE_kill,irC_ment,irC_kill,hasK_nil,hu.one,bs_mk,bs_app,bs_ext,bs_size,bs_toList,bs_at,bs_cells,List.take_length,imp_ga,guard_pk,guard_pk2,↓hold_pre,awayP,runOps,regK,step1,newK,genR,appR,obl,buildR,Value.cells,closeK,keepH,outV,retK,ret1,retC,RetV,Option.getD,runD,stepD,afterK,undef,simprocAttr,sxB,↓sxD,sxE,sxTab]))
 have hit:=itOK_of pk ts C a2 a3 g1 g2 g3 g4 (by omega) (by omega)
 refine Stop.go ?_
 (try with_reducible refine Fz.of ?_);(replace hb0:=true_and True);refine Go1.mk ?_;repeat' ((first|(with_reducible refine Go1.go ?_)|((with_reducible first|refine brv_mk ?_ ?_|refine gsplitD ?_ ?_|refine gsplitG ?_ ?_)<;>intro h<;>(try simp only[Bool.not_eq_true',Bool.not_eq_false']at h)<;>replace hb0:=h)|(refine And.intro ?_ ?_;(try simp only[sxO]at *);omega)|fail)<;>(try simp (maxSteps:=1000000) only [hb0,a2.one,a3.one,opN_ment,opN_k37,opN_k31,opN_k39,opN_k49,opN_k61,cE_ment,cE_kill,irC_ment,irC_kill,hasK_nil,hu.one,bs_mk,bs_app,bs_ext,bs_size,bs_toList,bs_at,bs_cells,List.take_length,imp_ga,guard_pk,guard_pk2,↓hold_pre,awayP,runOps,regK,step1,newK,genR,appR,obl,buildR,Value.cells,closeK,keepH,outV,retK,ret1,retC,RetV,Option.getD,runD,stepD,afterK,undef,simprocAttr,sxB,↓sxD,sxE,sxTab]))
 refine ⟨fun z=>∃M' p2 x,Mem.le M1 M'∧ItOK M' x∧p2≤p'+8∧z=icR31 M' u p2 n m L1 L2 pk0 ts0 cost0 A0 B0 x,?_,?_⟩
 ·(try with_reducible refine Fz.of ?_);(replace hb0:=true_and True);refine Go1.mk ?_;repeat' ((first|(with_reducible refine Go1.go ?_)|((with_reducible first|refine brv_mk ?_ ?_|refine gsplitD ?_ ?_|refine gsplitG ?_ ?_)<;>intro h<;>(try simp only[Bool.not_eq_true',Bool.not_eq_false']at h)<;>replace hb0:=h)|((with_reducible refine isCall (f:=18) ?_);refine callA ?_)|((with_reducible refine isCallS (f:=18) ?_);refine (nextI_ok 31 u l (p'+1+1+1+1+1) 8 hu2 (by omega) (by omega) (by omega) (fun x4 x40 x41=>Stop.mk ?_)))|(refine And.intro ?_ ?_;(try simp only[sxO]at *);omega)|fail)<;>(try simp (maxSteps:=1000000) only [hb0,a2.one,a3.one,opN_ment,opN_k37,opN_k31,opN_k39,opN_k49,opN_k61,cE_ment,cE_kill,irC_ment,irC_kill,hasK_nil,hu.one,bs_mk,bs_app,bs_ext,bs_size,bs_toList,bs_at,bs_cells,List.take_length,imp_ga,guard_pk,guard_pk2,↓hold_pre,awayP,runOps,regK,step1,newK,genR,appR,obl,buildR,Value.cells,closeK,keepH,outV,retK,ret1,retC,RetV,Option.getD,runD,stepD,afterK,undef,simprocAttr,sxB,↓sxD,sxE,sxTab]))
  obtain ⟨sw,rfl⟩:=Int.eq_ofNat_of_zero_le x40
  by_cases s0:sw=0
  ·have e0:decide ((sw:Int)=0)=true:=by rw[decide_eq_true_eq];omega
   refine Stop.go ?_
   (try with_reducible refine Fz.of ?_);(replace hb0:=true_and True);refine Go1.mk ?_;repeat' ((first|(with_reducible refine Go1.go ?_)|((with_reducible first|refine brv_mk ?_ ?_|refine gsplitD ?_ ?_|refine gsplitG ?_ ?_)<;>intro h<;>(try simp only[Bool.not_eq_true',Bool.not_eq_false']at h)<;>replace hb0:=h)|((with_reducible refine isCall (f:=18) ?_);refine callA ?_)|((with_reducible refine isCallS (f:=18) ?_);refine (nextI_ok 31 u l (p'+1+1+1+1+1+1) 3 hu2 (by omega) (by omega) (by omega) (fun x5 x50 x51=>Stop.mk ?_)))|(refine And.intro ?_ ?_;(try simp only[sxO]at *);omega)|fail)<;>(try simp (maxSteps:=1000000) only [hb0,e0,a2.one,a3.one,opN_ment,opN_k37,opN_k31,opN_k39,opN_k49,opN_k61,cE_ment,cE_kill,irC_ment,irC_kill,hasK_nil,hu.one,bs_mk,bs_app,bs_ext,bs_size,bs_toList,bs_at,bs_cells,List.take_length,imp_ga,guard_pk,guard_pk2,↓hold_pre,awayP,runOps,regK,step1,newK,genR,appR,obl,buildR,Value.cells,closeK,keepH,outV,retK,ret1,retC,RetV,Option.getD,runD,stepD,afterK,undef,simprocAttr,sxB,↓sxD,sxE,sxTab]))
   obtain ⟨y,rfl⟩:=Int.eq_ofNat_of_zero_le x50
   obtain ⟨C2,hC2⟩:∃C2,C2=1048576-y:=⟨_,rfl⟩
   have w3:IntKind.i64.wrap (1048576-(y:Int))=(C2:Int):=by rw[wrap_id (by omega) (by omega)];omega
   have hit:=itOK_of pk ts C2 a2 a3 g1 g2 g3 g4 (by omega) (by omega)
   refine Stop.go ?_
   (try with_reducible refine Fz.of ?_);(replace hb0:=true_and True);refine Go1.mk ?_;repeat' ((first|(with_reducible refine Go1.go ?_)|((with_reducible first|refine brv_mk ?_ ?_|refine gsplitD ?_ ?_|refine gsplitG ?_ ?_)<;>intro h<;>(try simp only[Bool.not_eq_true',Bool.not_eq_false']at h)<;>replace hb0:=h)|(refine And.intro ?_ ?_;(try simp only[sxO]at *);omega)|fail)<;>(try simp (maxSteps:=1000000) only [hb0,w3,a2.one,a3.one,opN_ment,opN_k37,opN_k31,opN_k39,opN_k49,opN_k61,cE_ment,cE_kill,irC_ment,irC_kill,hasK_nil,hu.one,bs_mk,bs_app,bs_ext,bs_size,bs_toList,bs_at,bs_cells,List.take_length,imp_ga,guard_pk,guard_pk2,↓hold_pre,awayP,runOps,regK,step1,newK,genR,appR,obl,buildR,Value.cells,closeK,keepH,outV,retK,ret1,retC,RetV,Option.getD,runD,stepD,afterK,undef,simprocAttr,sxB,↓sxD,sxE,sxTab]))
   exact ⟨icR31 M2 u (p'+1+1+1+1+1+1+1) n m L1 L2 pk0 ts0 cost0 A0 B0 ⟨pk,ts,w1,w2,_,_,(C2:Int)⟩,le_sub ⟨rfl,rfl,rfl,rfl,rfl,trivial⟩ ⟨by simp[lkH,icR31],by simp[lkH,icR31],by simp[lkH,icR31],by simp[lkH,icR31],by simp[lkH,icR31],trivial⟩ rfl rfl rfl (by simp[keepLt,icR31,lkH]),M2,_,_,a1,hit,by omega,rfl⟩
  have e0:decide ((sw:Int)=0)=false:=by rw[decide_eq_false_iff_not];omega
  by_cases s1:sw=1
  ·have e1:decide ((sw:Int)=1)=true:=by rw[decide_eq_true_eq];omega
   refine Stop.go ?_
   (try with_reducible refine Fz.of ?_);(replace hb0:=true_and True);refine Go1.mk ?_;repeat' ((first|(with_reducible refine Go1.go ?_)|((with_reducible first|refine brv_mk ?_ ?_|refine gsplitD ?_ ?_|refine gsplitG ?_ ?_)<;>intro h<;>(try simp only[Bool.not_eq_true',Bool.not_eq_false']at h)<;>replace hb0:=h)|((with_reducible refine isCall (f:=18) ?_);refine callA ?_)|((with_reducible refine isCallS (f:=18) ?_);refine (nextI_ok 31 u l (p'+1+1+1+1+1+1) 1048576 hu2 (by omega) (by omega) (by omega) (fun x5 x50 x51=>Stop.mk ?_)))|(refine And.intro ?_ ?_;(try simp only[sxO]at *);omega)|fail)<;>(try simp (maxSteps:=1000000) only [hb0,e0,e1,a2.one,a3.one,opN_ment,opN_k37,opN_k31,opN_k39,opN_k49,opN_k61,cE_ment,cE_kill,irC_ment,irC_kill,hasK_nil,hu.one,bs_mk,bs_app,bs_ext,bs_size,bs_toList,bs_at,bs_cells,List.take_length,imp_ga,guard_pk,guard_pk2,↓hold_pre,awayP,runOps,regK,step1,newK,genR,appR,obl,buildR,Value.cells,closeK,keepH,outV,retK,ret1,retC,RetV,Option.getD,runD,stepD,afterK,undef,simprocAttr,sxB,↓sxD,sxE,sxTab]))
   obtain ⟨y,rfl⟩:=Int.eq_ofNat_of_zero_le x50
   obtain ⟨Y,hY⟩:∃Y,Y=y+1:=⟨_,rfl⟩
   have w3:IntKind.i64.wrap (1+(y:Int))=(Y:Int):=by rw[wrap_id (by omega) (by omega)];omega
   refine Stop.go ?_
   (try with_reducible refine Fz.of ?_);(replace hb0:=true_and True);refine Go1.mk ?_;repeat' ((first|(with_reducible refine Go1.go ?_)|((with_reducible first|refine brv_mk ?_ ?_|refine gsplitD ?_ ?_|refine gsplitG ?_ ?_)<;>intro h<;>(try simp only[Bool.not_eq_true',Bool.not_eq_false']at h)<;>replace hb0:=h)|((with_reducible refine isCall (f:=18) ?_);refine callA ?_)|((with_reducible refine isCallS (f:=18) ?_);refine (nextI_ok 31 u l (p'+1+1+1+1+1+1+1) 1048576 hu2 (by omega) (by omega) (by omega) (fun x6 x60 x61=>Stop.mk ?_)))|(refine And.intro ?_ ?_;(try simp only[sxO]at *);omega)|fail)<;>(try simp (maxSteps:=1000000) only [hb0,w3,a2.one,a3.one,opN_ment,opN_k37,opN_k31,opN_k39,opN_k49,opN_k61,cE_ment,cE_kill,irC_ment,irC_kill,hasK_nil,hu.one,bs_mk,bs_app,bs_ext,bs_size,bs_toList,bs_at,bs_cells,List.take_length,imp_ga,guard_pk,guard_pk2,↓hold_pre,awayP,runOps,regK,step1,newK,genR,appR,obl,buildR,Value.cells,closeK,keepH,outV,retK,ret1,retC,RetV,Option.getD,runD,stepD,afterK,undef,simprocAttr,sxB,↓sxD,sxE,sxTab]))
   obtain ⟨z,rfl⟩:=Int.eq_ofNat_of_zero_le x60
   obtain ⟨Z,hZ⟩:∃Z,Z=z+1:=⟨_,rfl⟩
   have w4:IntKind.i64.wrap (1+(z:Int))=(Z:Int):=by rw[wrap_id (by omega) (by omega)];omega
   obtain ⟨f1,f2,f3,f4⟩:=sml_low Y Z (by omega) (by omega) (by omega)
   refine Stop.go ?_
   (try with_reducible refine Fz.of ?_);(replace hb0:=true_and True);refine Go1.mk ?_;repeat' ((first|(with_reducible refine Go1.go ?_)|((with_reducible first|refine brv_mk ?_ ?_|refine gsplitD ?_ ?_|refine gsplitG ?_ ?_)<;>intro h<;>(try simp only[Bool.not_eq_true',Bool.not_eq_false']at h)<;>replace hb0:=h)|(((with_reducible refine isCall (f:=22) ?_);refine callA_nil (by kernel_rfl) ?_;refine (sml_ok Y Z (by omega) (by omega) (by omega) (fun v1 v2 M3 c1 c2 c3 c4 c5=>Stop.mk ?_))))|(refine And.intro ?_ ?_;(try simp only[sxO]at *);omega)|fail)<;>(try simp (maxSteps:=1000000) only [hb0,w4,a2.one,a3.one,opN_ment,opN_k37,opN_k31,opN_k39,opN_k49,opN_k61,cE_ment,cE_kill,irC_ment,irC_kill,hasK_nil,hu.one,bs_mk,bs_app,bs_ext,bs_size,bs_toList,bs_at,bs_cells,List.take_length,imp_ga,guard_pk,guard_pk2,↓hold_pre,awayP,runOps,regK,step1,newK,genR,appR,obl,buildR,Value.cells,closeK,keepH,outV,retK,ret1,retC,RetV,Option.getD,runD,stepD,afterK,undef,simprocAttr,sxB,↓sxD,sxE,sxTab]))
   have c1:Mem.le M2 M3:=c1
   have hit:=itOK_of pk ts C c2 c3 f1 f2 f3 f4 (by omega) (by omega)
   refine Stop.go ?_
   (try with_reducible refine Fz.of ?_);(replace hb0:=true_and True);refine Go1.mk ?_;repeat' ((first|(with_reducible refine Go1.go ?_)|((with_reducible first|refine brv_mk ?_ ?_|refine gsplitD ?_ ?_|refine gsplitG ?_ ?_)<;>intro h<;>(try simp only[Bool.not_eq_true',Bool.not_eq_false']at h)<;>replace hb0:=h)|(refine And.intro ?_ ?_;(try simp only[sxO]at *);omega)|fail)<;>(try simp (maxSteps:=1000000) only [hb0,c2.one,c3.one,a2.one,a3.one,opN_ment,opN_k37,opN_k31,opN_k39,opN_k49,opN_k61,cE_ment,cE_kill,irC_ment,irC_kill,hasK_nil,hu.one,bs_mk,bs_app,bs_ext,bs_size,bs_toList,bs_at,bs_cells,List.take_length,imp_ga,guard_pk,guard_pk2,↓hold_pre,awayP,runOps,regK,step1,newK,genR,appR,obl,buildR,Value.cells,closeK,keepH,outV,retK,ret1,retC,RetV,Option.getD,runD,stepD,afterK,undef,simprocAttr,sxB,↓sxD,sxE,sxTab]))
   exact ⟨icR31 M3 u (p'+1+1+1+1+1+1+1+1) n m L1 L2 pk0 ts0 cost0 A0 B0 ⟨pk,ts,v1,v2,_,_,(C:Int)⟩,le_sub ⟨rfl,rfl,rfl,rfl,rfl,trivial⟩ ⟨by simp[lkH,icR31],by simp[lkH,icR31],by simp[lkH,icR31],by simp[lkH,icR31],by simp[lkH,icR31],trivial⟩ rfl rfl rfl (by simp[keepLt,icR31,lkH]),M3,_,_,a1.trans c1,hit,by omega,rfl⟩
  have e1:decide ((sw:Int)=1)=false:=by rw[decide_eq_false_iff_not];omega
  refine Stop.go ?_
  (try with_reducible refine Fz.of ?_);(replace hb0:=true_and True);refine Go1.mk ?_;repeat' ((first|(with_reducible refine Go1.go ?_)|((with_reducible first|refine brv_mk ?_ ?_|refine gsplitD ?_ ?_|refine gsplitG ?_ ?_)<;>intro h<;>(try simp only[Bool.not_eq_true',Bool.not_eq_false']at h)<;>replace hb0:=h)|(refine And.intro ?_ ?_;(try simp only[sxO]at *);omega)|fail)<;>(try simp (maxSteps:=1000000) only [hb0,e0,e1,a2.one,a3.one,opN_ment,opN_k37,opN_k31,opN_k39,opN_k49,opN_k61,cE_ment,cE_kill,irC_ment,irC_kill,hasK_nil,hu.one,bs_mk,bs_app,bs_ext,bs_size,bs_toList,bs_at,bs_cells,List.take_length,imp_ga,guard_pk,guard_pk2,↓hold_pre,awayP,runOps,regK,step1,newK,genR,appR,obl,buildR,Value.cells,closeK,keepH,outV,retK,ret1,retC,RetV,Option.getD,runD,stepD,afterK,undef,simprocAttr,sxB,↓sxD,sxE,sxTab]))
  exact ⟨icR31 M2 u (p'+1+1+1+1+1+1) n m L1 L2 pk0 ts0 cost0 A0 B0 ⟨pk,ts,w1,w2,_,_,(C:Int)⟩,le_sub ⟨rfl,rfl,rfl,rfl,rfl,trivial⟩ ⟨by simp[lkH,icR31],by simp[lkH,icR31],by simp[lkH,icR31],by simp[lkH,icR31],by simp[lkH,icR31],trivial⟩ rfl rfl rfl (by simp[keepLt,icR31,lkH]),M2,_,_,a1,hit,by omega,rfl⟩
 clear hit a2 a3 a4 a5 w1 w2
 rintro z ⟨M3,p2,x,hM3,hx,hp2,rfl⟩
 have happ:=opN_app L1 L2 pk0 ts0 cost0 A0 B0 x
 have o1:=hx.ok.f.n.one
 have o2:=hx.ok.f.d.one
 have wn:IntKind.i64.wrap ((n:Int)-1)=((n-1:Nat):Int):=pred_i (by omega) (by omega)
 (try with_reducible refine Fz.of ?_);(replace hb0:=true_and True);refine Go1.mk ?_;repeat' ((first|(with_reducible refine Go1.go ?_)|((with_reducible first|refine brv_mk ?_ ?_|refine gsplitD ?_ ?_|refine gsplitG ?_ ?_)<;>intro h<;>(try simp only[Bool.not_eq_true',Bool.not_eq_false']at h)<;>replace hb0:=h)|(refine And.intro ?_ ?_;(try simp only[sxO]at *);omega)|fail)<;>(try simp (maxSteps:=1000000) only [hb0,icR31,happ,hcl,wn,o1,o2,opN_ment,opN_k37,opN_k31,opN_k39,opN_k49,opN_k61,cE_ment,cE_kill,irC_ment,irC_kill,hasK_nil,hu.one,bs_mk,bs_app,bs_ext,bs_size,bs_toList,bs_at,bs_cells,List.take_length,imp_ga,guard_pk,guard_pk2,↓hold_pre,awayP,runOps,regK,step1,newK,genR,appR,obl,buildR,Value.cells,closeK,keepH,outV,retK,ret1,retC,RetV,Option.getD,runD,stepD,afterK,undef,simprocAttr,sxB,↓sxD,sxE,sxTab]))
 exact ⟨n-1,itQ31 M3 u p2 (n-1) (m+1) L1 (L2++[x]) pk0 ts0 cost0 A0 B0,by omega,le_sub ⟨rfl,rfl,rfl,rfl,trivial⟩ ⟨by simp[lkH,itQ31],by simp[lkH,itQ31],by simp[lkH,itQ31],by simp[lkH,itQ31],trivial⟩ rfl rfl rfl (by simp[keepLt,itQ31,lkH]),.inr ⟨M3,L1,L2++[x],pk0,ts0,cost0,A0,B0,p2,n-1,rfl,hM.trans hM3,fun y hy=>(hL1 y hy).le hM3,fun y hy=>by
  rcases List.mem_append.1 hy with hy|hy
  ·exact (hL2 y hy).le hM3
  ·rw[List.mem_singleton.1 hy];exact hx,hAB,hs1,by rw[List.length_append,List.length_singleton];omega,by omega,by rw[List.length_append,List.length_singleton,hm1];rfl⟩⟩
end
end Go.Proofs.Ytjapnklocibgaaa.Sx
