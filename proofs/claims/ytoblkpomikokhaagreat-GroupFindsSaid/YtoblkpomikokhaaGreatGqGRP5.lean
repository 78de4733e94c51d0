/- Part 30 of the texts of this claim: a symbolic executor and contracts of functions. -/
import Derived.Test.YtoblkpomikokhaaGreatGqGRP4
namespace Go.Proofs.YtoblkpomikokhaaGreat.Sx
open Go Go.RowKit
set_option linter.unusedVariables false
set_option linter.unusedSimpArgs false
set_option maxRecDepth 100000
set_option maxHeartbeats 8000000
attribute [local congr] fin_congr finG_congr stepG_congr step1_congr runOps_congr brv_congr obl_congr condK_congr LoopK_congr seqK_congr CutK_congr vc_congr DrawK_congr regK_congr CallK_congr AskK_congr newK_congr retC_congr ret1_congr retK_congr outV_congr closeK_congr genR_congr appR_congr finD_congr finGD_congr stepGD_congr stepD_congr CallK0_congr runD_congr okR_congr CallS_congr vcX_congr
attribute [local congr] Stop_congr
section
variable {M:Mem}{K:AV→Hp→Mem→Prop}
theorem rsign1_ok(f:Fa)(he:faE f=0)(hf:faOk M f)(hK:∀u' M',Mem.le M M'→IsL M' sbV u' (faB f).2→K (.ext (sgT (faB f).1 u' 0)) [] M'):CallS Tryz.prog 32 [.ext (faV f.1 f.2.1 f.2.2.1 f.2.2.2.1 f.2.2.2.2.1)] [] M [] K:=by
 obtain ⟨p,t,e,m,u,X⟩:=f
 obtain ⟨a1,a2,a3,a4⟩:=hf
 have he:(if (usB p t&&plB e)=true then (if 64<X.length then (2:Int) else 0) else 1)=0:=he
 have e3:(usB p t&&plB e)=true:=by
  cases h:(usB p t&&plB e) with
  | true=>rfl
  | false=>rw[h,if_neg (by decide)]at he;cases he
 rw[e3,if_pos rfl]at he
 have e4:¬64<X.length:=fun h=>by rw[if_pos h]at he;cases he
 exact refSign_ok p t e m u X a1 a2 a3 a4 (fun h=>by rw[e3]at h;cases h) (fun _ h=>absurd h e4) fun _ _ u' M' c1 c2=>hK u' M' c1 c2
def rfA(M:Mem)(g v cu:Value)(m0:Bst)(d:Int)(i:Nat)(X:List Nat):St:={env:=[(16,.ext (.int .i64 (i:Int))),(15,.slo 86 0 X.length 1),(13,.ext v),(12,.own 12 0),(3,.ext (.int .i64 d)),(0,.ext g)],hp:=[(86,3,cE natV X),(12,41,[.ext (.string (bs m0)),.ext cu])],M:=M,kb:=0,fx:=[]}
def rfB(M:Mem)(g v cu:Value)(m0:Bst)(d:Int)(i k:Nat)(b:Bool)(X:List Nat):St:={env:=[(18,.ext (.int .i64 (k:Int))),(17,.ext (.bool b)),(16,.ext (.int .i64 (i:Int))),(15,.slo 86 0 X.length 1),(13,.ext v),(12,.own 12 0),(3,.ext (.int .i64 d)),(0,.ext g)],hp:=[(86,3,cE natV X),(12,41,[.ext (.string (bs m0)),.ext cu])],M:=M,kb:=0,fx:=[]}
theorem rfind_ok(g u:Value)(O2:List GO)(L:List Fa)(f:Fa)(d:Int)(hg:GRV M g O2)(hO2:okO O2)(hu:IsR M 5 faC u L)(ho:∀f∈L,faOk M f)(hb:L.length<64)(hf:faOk M f)(hfe:faE f=0)
  (hK1:∀O M',Mem.le M M'→AnsG L d O→fndE L d O O2≠0→K (.ext (.tuple #[.slice none 0 0,.int .i64 (fndE L d O O2)])) [] M')
  (hK2:∀O M' U,Mem.le M M'→AnsG L d O→fndE L d O O2=0→IsL M' natV U (fndR L f d O2)→K (.ext (.tuple #[U,.int .i64 0])) [] M') :
  CallS Tryz.prog 10 [.ext g,.ext u,.ext (faV f.1 f.2.1 f.2.2.1 f.2.2.2.1 f.2.2.2.2.1),.ext (.int .i64 d)] [] M [] K:=by
 refine CallS.frzF ?_
 refine inlS (cs:=[]) Tryz.mixed Tryz.func10 rfl (by kernel_rfl) 0 rfl rfl ?_
 simp only[Tryz.f10]
 have uo:=hu.one
 have ul:=hu.len
 have us:=hu.sl
 have go:=hg.one
 have so:=hf.1.one
 by_cases he:sgnE L d=0
 case neg=>
  have d1:decide (sgnE L d=0)=false:=decide_eq_false he
  (replace hb0:=true_and True);refine Go1.mk ?_;repeat' ((first|(with_reducible refine Go1.go ?_)|((with_reducible first|refine brv_mk ?_ ?_|refine gsplitD ?_ ?_|refine gsplitG ?_ ?_)<;>intro h<;>(try simp only[Bool.not_eq_true',Bool.not_eq_false']at h)<;>replace hb0:=h)|(((with_reducible refine isCall (f:=30) ?_);refine callA_nil (by kernel_rfl) ?_;refine (qsplit_ok u L d hu ho (by omega) (fun u1 M1 O m1 hA hG=>Stop.mk ?_))))|(refine And.intro ?_ ?_;(try simp only[sxO]at *);omega)|fail)<;>(try simp (maxSteps:=1000000) only [hb0,faV,uo,ul,us,go,so,hasK_nil,bs_mk,bs_app,bs_ext,bs_size,bs_toList,bs_at,bs_cells,List.take_length,imp_ga,guard_pk,guard_pk2,↓hold_pre,awayP,runOps,regK,step1,newK,genR,appR,obl,buildR,Value.cells,closeK,keepH,outV,retK,ret1,retC,RetV,Option.getD,runD,stepD,afterK,undef,simprocAttr,sxB,↓sxD,sxE,sxTab]))
  have m1:Mem.le M M1:=m1
  have g1:=hG.one
  have e:fndE L d O O2=sgnE L d:=by unfold fndE;rw[if_neg he]
  have hk:=hK1 O M1 m1 hA (by rw[e];exact he)
  rw[e]at hk
  refine Stop.go ?_
  (replace hb0:=true_and True);refine Go1.mk ?_;repeat' ((first|(with_reducible refine Go1.go ?_)|((with_reducible first|refine brv_mk ?_ ?_|refine gsplitD ?_ ?_|refine gsplitG ?_ ?_)<;>intro h<;>(try simp only[Bool.not_eq_true',Bool.not_eq_false']at h)<;>replace hb0:=h)|(refine And.intro ?_ ?_;(try simp only[sxO]at *);omega)|fail)<;>(try simp (maxSteps:=1000000) only [hb0,d1,uo,ul,us,go,so,g1,hasK_nil,↓hold_pre,awayP,runOps,regK,step1,newK,genR,appR,obl,buildR,Value.cells,closeK,keepH,outV,retK,ret1,retC,RetV,Option.getD,runD,stepD,afterK,undef,simprocAttr,sxB,↓sxD,sxE,sxTab]))
  exact .inl hk
 (replace hb0:=true_and True);refine Go1.mk ?_;repeat' ((first|(with_reducible refine Go1.go ?_)|((with_reducible first|refine brv_mk ?_ ?_|refine gsplitD ?_ ?_|refine gsplitG ?_ ?_)<;>intro h<;>(try simp only[Bool.not_eq_true',Bool.not_eq_false']at h)<;>replace hb0:=h)|(((with_reducible refine isCall (f:=30) ?_);refine callA_nil (by kernel_rfl) ?_;refine (qsplit_ok u L d hu ho (by omega) (fun u1 M1 O m1 hA hG=>Stop.mk ?_))))|(refine And.intro ?_ ?_;(try simp only[sxO]at *);omega)|fail)<;>(try simp (maxSteps:=1000000) only [hb0,faV,uo,ul,us,go,so,hasK_nil,bs_mk,bs_app,bs_ext,bs_size,bs_toList,bs_at,bs_cells,List.take_length,imp_ga,guard_pk,guard_pk2,↓hold_pre,awayP,runOps,regK,step1,newK,genR,appR,obl,buildR,Value.cells,closeK,keepH,outV,retK,ret1,retC,RetV,Option.getD,runD,stepD,afterK,undef,simprocAttr,sxB,↓sxD,sxE,sxTab]))
 have m1:Mem.le M M1:=m1
 have g1:=hG.one
 have kO:=hA.good ho
 by_cases hO:O=O2
 case neg=>
  have d2:decide (O=O2)=false:=decide_eq_false hO
  have e:fndE L d O O2=1:=by unfold fndE;rw[if_pos he,if_neg (fun h=>hO h.symm)]
  have hk:=hK1 O M1 m1 hA (by rw[e];decide)
  rw[e]at hk
  refine Stop.go ?_
  (replace hb0:=true_and True);refine Go1.mk ?_;repeat' ((first|(with_reducible refine Go1.go ?_)|((with_reducible first|refine brv_mk ?_ ?_|refine gsplitD ?_ ?_|refine gsplitG ?_ ?_)<;>intro h<;>(try simp only[Bool.not_eq_true',Bool.not_eq_false']at h)<;>replace hb0:=h)|(((with_reducible refine isCall (f:=31) ?_);refine callA_nil (by kernel_rfl) ?_;refine (rsame_ok u1 g O O2 hG (hg.le m1) kO hO2 ?_)))|(refine And.intro ?_ ?_;(try simp only[sxO]at *);omega)|fail)<;>(try simp (maxSteps:=1000000) only [hb0,he,d2,uo,ul,us,go,so,g1,hasK_nil,↓hold_pre,awayP,runOps,regK,step1,newK,genR,appR,obl,buildR,Value.cells,closeK,keepH,outV,retK,ret1,retC,RetV,Option.getD,runD,stepD,afterK,undef,simprocAttr,sxB,↓sxD,sxE,sxTab]))
  exact .inl hk
 have d2:decide (O=O2)=true:=decide_eq_true hO
 have d3:decide ((L.length:Int)=64)=false:=by rw[decide_eq_false_iff_not];omega
 refine Stop.go ?_
 (replace hb0:=true_and True);refine Go1.mk ?_;repeat' ((first|(with_reducible refine Go1.go ?_)|((with_reducible first|refine brv_mk ?_ ?_|refine gsplitD ?_ ?_|refine gsplitG ?_ ?_)<;>intro h<;>(try simp only[Bool.not_eq_true',Bool.not_eq_false']at h)<;>replace hb0:=h)|(((with_reducible refine isCall (f:=31) ?_);refine callA_nil (by kernel_rfl) ?_;refine (rsame_ok u1 g O O2 hG (hg.le m1) kO hO2 ?_)))|(((with_reducible refine isCall (f:=32) ?_);refine callA_nil (by kernel_rfl) ?_;refine (rsign1_ok f hfe (hf.le m1) (fun cu M2 m2 g2=>Stop.mk ?_))))|(refine And.intro ?_ ?_;(try simp only[sxO]at *);omega)|fail)<;>(try simp (maxSteps:=1000000) only [hb0,he,d2,uo,ul,us,go,so,g1,hasK_nil,↓hold_pre,awayP,runOps,regK,step1,newK,genR,appR,obl,buildR,Value.cells,closeK,keepH,outV,retK,ret1,retC,RetV,Option.getD,runD,stepD,afterK,undef,simprocAttr,sxB,↓sxD,sxE,sxTab]))
 have m2:Mem.le M1 M2:=m2
 have co:=g2.one
 have hB:=okB_fa hf
 have m12:=m1.trans m2
 refine Stop.go ?_
 (replace hb0:=true_and True);refine Go1.mk ?_;repeat' ((first|(with_reducible refine Go1.go ?_)|((with_reducible first|refine brv_mk ?_ ?_|refine gsplitD ?_ ?_|refine gsplitG ?_ ?_)<;>intro h<;>(try simp only[Bool.not_eq_true',Bool.not_eq_false']at h)<;>replace hb0:=h)|(((with_reducible refine isCall (f:=33) ?_);refine callA_nil (by kernel_rfl) ?_;refine (rsigns_ok u L d (hu.le m12) (fun x h=>(ho x h).le m12) (by omega) (fun h=>absurd he h) (fun _ v S M4 m4 h1 h2 h3 _=>Stop.mk ?_))))|(refine And.intro ?_ ?_;(try simp only[sxO]at *);omega)|fail)<;>(try simp (maxSteps:=1000000) only [hb0,sgT,d3,uo,ul,us,go,so,g1,co,hasK_nil,↓hold_pre,awayP,runOps,regK,step1,newK,genR,appR,obl,buildR,Value.cells,closeK,keepH,outV,retK,ret1,retC,RetV,Option.getD,runD,stepD,afterK,undef,simprocAttr,sxB,↓sxD,sxE,sxTab]))
 have m4:Mem.le M2 M4:=m4
 have vo:=h1.one
 have vl:=h1.len
 have vs:=h1.sl
 have m14:=m12.trans m4
 have g4:=g2.le m4
 have hg7:=hg.le m14
 have hSl:S.length=L.length:=by have:=congrArg List.length h3;rw[List.length_map,List.length_map]at this;exact this
 obtain ⟨fl,_,hfl⟩:=hA.ok he
 have hmem:∀o∈O2,∀j∈o.2,j<S.length:=fun o h j hj=>by
  rw[←hO,hfl]at h
  have:=mem_grpO o h j hj
  rw[List.length_map]at this;omega
 have e:fndE L d O O2=0:=by unfold fndE;rw[if_pos he,if_pos hO.symm]
 obtain ⟨G,b1,b2,b3⟩:=hg7
 have hOl:O2.length=G.length:=by rw[←b3,List.length_map]
 have hn64:=hO2.len
 have bl:=b1.len
 have bs':=b1.sl
 unfold fndR at hK2
 rw[hOl]at hK2
 have hcat:∀j (hj:j<S.length),okB S[j].m S[j].C∧lkB (keysB (faB f).1 (faB f).2 d) (keysB S[j].m S[j].C d)=mlk (L.map faB) d (keysB (faB f).1 (faB f).2 d) j:=fun j hj=>by
  have hjT:j<(L.map faB).length:=by rw[←h3,List.length_map];exact hj
  have e1:(L.map faB)[j]=S[j].t:=by simp only[←h3,List.getElem_map]
  refine ⟨?_,?_⟩
  ·have h5:S[j].t∈L.map faB:=by rw[←e1];exact List.getElem_mem hjT
   obtain ⟨x,hx,e2⟩:=List.mem_map.1 h5
   have:=okB_fa (ho x hx)
   rw[e2]at this;exact this
  ·unfold mlk
   rw[sgK_at hjT,e1,lkB_comm];rfl
 generalize hc:mlk (L.map faB) d (keysB (faB f).1 (faB f).2 d)=c at *
 generalize (faB f).1=m0 at *
 generalize (faB f).2=C0 at *
 refine Stop.go ?_
 (replace hb0:=true_and True);refine Go1.mk ?_;repeat' ((first|(with_reducible refine Go1.go ?_)|((with_reducible first|refine brv_mk ?_ ?_|refine gsplitD ?_ ?_|refine gsplitG ?_ ?_)<;>intro h<;>(try simp only[Bool.not_eq_true',Bool.not_eq_false']at h)<;>replace hb0:=h)|(refine And.intro ?_ ?_;(try simp only[sxO]at *);omega)|fail)<;>(try simp (maxSteps:=1000000) only [hb0,uo,ul,us,go,so,g1,co,vo,hasK_nil,↓hold_pre,awayP,runOps,regK,step1,newK,genR,appR,obl,buildR,Value.cells,closeK,keepH,outV,retK,ret1,retC,RetV,Option.getD,runD,stepD,afterK,undef,simprocAttr,sxB,↓sxD,sxE,sxTab]))
 refine ⟨fun k z=>∃M' i,k=G.length-i∧i≤G.length∧Mem.le M4 M'∧z=rfA M' g v cu m0 d i (finN O2 c i),
  ⟨G.length,rfA M4 g v cu m0 d 0 [],(le_nil 15 86 3 1 rfl (.inl rfl)).trans (le_sub ⟨rfl,rfl,rfl,rfl,rfl,rfl,trivial⟩ ⟨rfl,rfl,trivial⟩ rfl rfl rfl (keepLt0 _)),⟨M4,0,by omega,by omega,Mem.le.refl _,rfl⟩⟩,?_⟩
 rintro k z ⟨M8,i,rfl,hi,m8,rfl⟩
 have hcl:(cE natV (finN O2 c i)).length=(finN O2 c i).length:=cE_len _ _
 by_cases hlt:i<G.length
 case neg=>
  obtain rfl:i=G.length:=by omega
  have y1:decide ((G.length:Int)<(G.length:Int))=false:=by simp
  (replace hb0:=true_and True);refine Go1.mk ?_;repeat' ((first|(with_reducible refine Go1.go ?_)|((with_reducible first|refine brv_mk ?_ ?_|refine gsplitD ?_ ?_|refine gsplitG ?_ ?_)<;>intro h<;>(try simp only[Bool.not_eq_true',Bool.not_eq_false']at h)<;>replace hb0:=h)|(refine And.intro ?_ ?_;(try simp only[sxO]at *);omega)|fail)<;>(try simp (maxSteps:=1000000) only [hb0,rfA,y1,go,bl,bs',co,vo,hcl,cE_ment,cE_kill,hasK_nil,bs_mk,bs_app,bs_ext,bs_size,bs_toList,bs_at,bs_cells,List.take_length,imp_ga,guard_pk,guard_pk2,↓hold_pre,awayP,runOps,regK,step1,newK,genR,appR,obl,buildR,Value.cells,closeK,keepH,outV,retK,ret1,retC,RetV,Option.getD,runD,stepD,afterK,undef,simprocAttr,sxB,↓sxD,sxE,sxTab]))
  refine FrzF.tup [] [.int .i64 0] ((finN O2 c G.length).map natV) rfl (by rw[List.length_map,Nat.mul_one]) fun w M9 n1 n2 n3=>hK2 O M9 w ((m14.trans m8).trans n1) hA e (by unfold IsL;exact n2)
 have y1:decide ((i:Int)<(G.length:Int))=true:=by rw[decide_eq_true_eq];omega
 have y2:(0:Int)≤(i:Int):=by omega
 have y3:(i:Int)<(G.length:Int):=by omega
 have wi:IntKind.i64.wrap ((i:Int)+1)=((i+1:Nat):Int):=by rw[wrap_id (by omega) (by omega)];omega
 have hmi:∀j∈(GX.o G[i]).2,j<S.length:=fun j hj=>hmem _ (by rw[←b3];exact List.mem_map_of_mem (List.getElem_mem hlt)) j hj
 have hl64:(GX.o G[i]).2.length≤64:=(hO2.at_ _ (by rw[←b3];exact List.mem_map_of_mem (List.getElem_mem hlt))).2.1
 have hOi:O2.getD i (([],[]),[])=GX.o G[i]:=by
  rw[←b3,List.getD_eq_getElem?_getD,List.getElem?_map,List.getElem?_eq_getElem hlt];rfl
 have hsu:=finN_succ (O:=O2) (c:=c) (k:=i)
 have hle:=finN_le (O:=O2) (c:=c) (k:=i)
 rw[hOi]at hsu
 have hnn:=b1.nn hlt
 have hpt:=b1.pt hlt
 have at1:lookM Tryz.prog 22 M4 (addP (elemP g 3 i) 2)=some G[i].u:=b1.atF (P:=Tryz.prog) (T:=22) (fun _=>rfl) tk22 tz22 hlt (o:=2) (v:=G[i].u) rfl
 have l1:IsL M4 natV G[i].u G[i].l:=(b2 _ (List.getElem_mem hlt)).2
 have hmi:∀j∈G[i].l,j<S.length:=hmi
 have hl64:G[i].l.length≤64:=hl64
 have hsu:finN O2 c (i+1)=if G[i].l.any c=true then finN O2 c i++[i] else finN O2 c i:=hsu
 generalize G[i].l=gl at *
 generalize G[i].u=gu at *
 have lo:=l1.one
 have ll:=l1.len
 have ls:=l1.sl
 have at8:=lookM_le m8 at1
 (replace hb0:=true_and True);refine Go1.mk ?_;repeat' ((first|(with_reducible refine Go1.go ?_)|((with_reducible first|refine brv_mk ?_ ?_|refine gsplitD ?_ ?_|refine gsplitG ?_ ?_)<;>intro h<;>(try simp only[Bool.not_eq_true',Bool.not_eq_false']at h)<;>replace hb0:=h)|(refine And.intro ?_ ?_;(try simp only[sxO]at *);omega)|fail)<;>(try simp (maxSteps:=1000000) only [hb0,rfA,y1,go,bl,bs',co,vo,hcl,cE_ment,cE_kill,hasK_nil,bs_mk,bs_app,bs_ext,bs_size,bs_toList,bs_at,bs_cells,List.take_length,imp_ga,guard_pk,guard_pk2,↓hold_pre,awayP,runOps,regK,step1,newK,genR,appR,obl,buildR,Value.cells,closeK,keepH,outV,retK,ret1,retC,RetV,Option.getD,runD,stepD,afterK,undef,simprocAttr,sxB,↓sxD,sxE,sxTab]))
 refine ⟨fun q z=>∃M' k,q=gl.length-k∧k≤gl.length∧Mem.le M8 M'∧z=rfB M' g v cu m0 d i k ((gl.take k).any c) (finN O2 c i),
  ⟨gl.length,rfB M8 g v cu m0 d i 0 false (finN O2 c i),le_sub ⟨rfl,rfl,rfl,rfl,rfl,rfl,rfl,rfl,trivial⟩ ⟨rfl,rfl,trivial⟩ rfl rfl rfl (keepLt0 _),⟨M8,0,by omega,by omega,Mem.le.refl _,rfl⟩⟩,?_⟩
 rintro q z ⟨M9,k,rfl,hk,m9,rfl⟩
 have m89:=m8.trans m9
 have at9:=lookM_le m89 at1
 by_cases hkl:k<gl.length
 case neg=>
  obtain rfl:k=gl.length:=by omega
  have y4:decide ((gl.length:Int)<(gl.length:Int))=false:=by simp
  rw[List.take_length]
  cases ha:gl.any c with
  | false=>
   rw[ha,if_neg (by decide)]at hsu
   (replace hb0:=true_and True);refine Go1.mk ?_;repeat' ((first|(with_reducible refine Go1.go ?_)|((with_reducible first|refine brv_mk ?_ ?_|refine gsplitD ?_ ?_|refine gsplitG ?_ ?_)<;>intro h<;>(try simp only[Bool.not_eq_true',Bool.not_eq_false']at h)<;>replace hb0:=h)|(refine And.intro ?_ ?_;(try simp only[sxO]at *);omega)|fail)<;>(try simp (maxSteps:=1000000) only [hb0,rfB,ha,y2,y3,y4,wi,hnn,hpt,at9,lo,ll,ls,go,bl,bs',co,vo,hcl,cE_ment,cE_kill,hasK_nil,bs_mk,bs_app,bs_ext,bs_size,bs_toList,bs_at,bs_cells,List.take_length,imp_ga,guard_pk,guard_pk2,↓hold_pre,awayP,runOps,regK,step1,newK,genR,appR,obl,buildR,Value.cells,closeK,keepH,outV,retK,ret1,retC,RetV,Option.getD,runD,stepD,afterK,undef,simprocAttr,sxB,↓sxD,sxE,sxTab]))
   exact ⟨G.length-(i+1),rfA M9 g v cu m0 d (i+1) (finN O2 c (i+1)),by omega,le_sub ⟨rfl,by rw[hsu];rfl,rfl,rfl,rfl,rfl,trivial⟩ ⟨by rw[hsu];rfl,rfl,trivial⟩ rfl rfl rfl (keepLt0 _),M9,i+1,rfl,by omega,m89,rfl⟩
  | true=>
   rw[ha,if_pos rfl]at hsu
   have hap:cE natV (finN O2 c i)++[.ext (.int .i64 (i:Int))]=cE natV (finN O2 c i++[i]):=cE_snoc natV _ _
   have hl1:(finN O2 c (i+1)).length=(finN O2 c i).length+1:=by rw[hsu,List.length_append];rfl
   (replace hb0:=true_and True);refine Go1.mk ?_;repeat' ((first|(with_reducible refine Go1.go ?_)|((with_reducible first|refine brv_mk ?_ ?_|refine gsplitD ?_ ?_|refine gsplitG ?_ ?_)<;>intro h<;>(try simp only[Bool.not_eq_true',Bool.not_eq_false']at h)<;>replace hb0:=h)|(refine And.intro ?_ ?_;(try simp only[sxO]at *);omega)|fail)<;>(try simp (maxSteps:=1000000) only [hb0,rfB,ha,hap,maxLen,y2,y3,y4,wi,hnn,hpt,at9,lo,ll,ls,go,bl,bs',co,vo,hcl,cE_ment,cE_kill,hasK_nil,bs_mk,bs_app,bs_ext,bs_size,bs_toList,bs_at,bs_cells,List.take_length,imp_ga,guard_pk,guard_pk2,↓hold_pre,awayP,runOps,regK,step1,newK,genR,appR,obl,buildR,Value.cells,closeK,keepH,outV,retK,ret1,retC,RetV,Option.getD,runD,stepD,afterK,undef,simprocAttr,sxB,↓sxD,sxE,sxTab]))
   exact ⟨G.length-(i+1),rfA M9 g v cu m0 d (i+1) (finN O2 c (i+1)),by omega,le_sub ⟨rfl,by simp[lk,rfA,hl1],rfl,rfl,rfl,rfl,trivial⟩ ⟨by rw[hsu];rfl,rfl,trivial⟩ rfl rfl rfl (keepLt0 _),M9,i+1,rfl,by omega,m89,rfl⟩
 have y4:decide ((k:Int)<(gl.length:Int))=true:=by rw[decide_eq_true_eq];omega
 have z2:(0:Int)≤(k:Int):=by omega
 have z3:(k:Int)<(gl.length:Int):=by omega
 have wk:IntKind.i64.wrap ((k:Int)+1)=((k+1:Nat):Int):=by rw[wrap_id (by omega) (by omega)];omega
 have htk:(gl.take (k+1)).any c=((gl.take k).any c || c gl[k]):=by
  rw[List.take_succ_eq_append_getElem hkl,List.any_append];simp
 have l9:=l1.le m89
 have n9:=l9.nn hkl
 have a9:=l9.at (P:=Tryz.prog) (T:=3) tk3 tz3 hkl
 have hj:=hmi _ (List.getElem_mem hkl)
 generalize gl[k]=j at *
 have z4:(0:Int)≤(j:Int):=by omega
 have z5:(j:Int)<(S.length:Int):=by omega
 obtain ⟨okj,lkj⟩:=hcat j hj
 have v9:=SlM.le h1 m89
 have v9:IsR M9 2 SG.c v S:=v9
 have nv:=v9.nn hj
 have q9:lookM Tryz.prog 41 M9 (elemP v 2 j)=some (.agg #[.string (bs S[j].m),S[j].u]):=v9.at (P:=Tryz.prog) (T:=41) (fun _=>rfl) tk41 tz41 hj
 have s9:IsL M9 sbV S[j].u S[j].C:=(h2 _ (List.getElem_mem hj)).le m89
 have sjo:=s9.one
 cases hbv:(gl.take k).any c with
 | true=>
  rw[hbv,Bool.true_or]at htk
  (replace hb0:=true_and True);refine Go1.mk ?_;repeat' ((first|(with_reducible refine Go1.go ?_)|((with_reducible first|refine brv_mk ?_ ?_|refine gsplitD ?_ ?_|refine gsplitG ?_ ?_)<;>intro h<;>(try simp only[Bool.not_eq_true',Bool.not_eq_false']at h)<;>replace hb0:=h)|(((with_reducible refine isCall0 (f:=34) ?_);refine callA0_nil (by kernel_rfl) ?_;refine (rlinked_ok m0 S[j].m cu S[j].u C0 S[j].C d (g4.le m89) s9 hB okj (fun M10 m10=>?_))))|((with_reducible refine isDraw [some 65,some 66,some 67,some 68,some 69,some 70,some 71,some 72,some 73,some 74,some 75,some 76,some 77,some 78,some 79,some 80,some 81,some 17] (by decide) ?_);refine draw_rule [(0,[]),(1,[]),(2,[]),(3,[2]),(4,[2]),(5,[2]),(6,[2]),(7,[2]),(8,[2]),(9,[2,8]),(10,[2]),(11,[2]),(12,[2]),(13,[2]),(14,[2,8,11,13]),(15,[]),(16,[]),(17,[])] [[],[0],[0,1],[0,1],[0,1],[0,1],[0,1,4,5],[0,1,4,5,6],[0,1,4,5,6,7],[0,1],[0,1,4,5,6,7,8,9],[0,1,4,5,6,7,8,9,10],[0,1,3,4,5,6,7,8,9,10,11],[0,1,3,4,5,6,7,8,9,10,11,12],[0,1],[0,1,2,3,4,5,6,7,8,9,10,11,12,13,14],[0,1,2,3,4,5,6,7,8,9,10,11,12,13,14,15],[0,1,2,3,4,5,6,7,8,9,10,11,12,13,14,15,16]] [67,68,69,70,71,72,73,74,75,76,77,78,79] [] (by kernel_rfl) (by kernel_rfl) (by kernel_rfl) (by kernel_rfl) (by exact trivial) ?_)|(refine And.intro ?_ ?_;(try simp only[sxO]at *);omega)|fail)<;>(try simp (maxSteps:=1000000) only [hb0,rfB,hbv,y2,y3,y4,z2,z3,wk,hnn,hpt,at9,lo,ll,ls,go,bl,bs',co,vo,hcl,cE_ment,cE_kill,hasK_nil,bs_mk,bs_app,bs_ext,bs_size,bs_toList,bs_at,bs_cells,List.take_length,imp_ga,guard_pk,guard_pk2,↓hold_pre,awayP,runOps,regK,step1,newK,genR,appR,obl,buildR,Value.cells,closeK,keepH,outV,retK,ret1,retC,RetV,Option.getD,runD,stepD,afterK,undef,simprocAttr,sxB,↓sxD,sxE,sxTab]))
  exact ⟨gl.length-(k+1),rfB M9 g v cu m0 d i (k+1) ((gl.take (k+1)).any c) (finN O2 c i),by omega,le_sub ⟨rfl,by rw[htk];rfl,rfl,rfl,rfl,rfl,rfl,rfl,trivial⟩ ⟨rfl,rfl,trivial⟩ rfl rfl rfl (keepLt0 _),M9,k+1,rfl,by omega,m9,rfl⟩
 | false=>
  rw[hbv,Bool.false_or]at htk
  (replace hb0:=true_and True);refine Go1.mk ?_;repeat' ((first|(with_reducible refine Go1.go ?_)|((with_reducible first|refine brv_mk ?_ ?_|refine gsplitD ?_ ?_|refine gsplitG ?_ ?_)<;>intro h<;>(try simp only[Bool.not_eq_true',Bool.not_eq_false']at h)<;>replace hb0:=h)|(((with_reducible refine isCall0 (f:=34) ?_);refine callA0_nil (by kernel_rfl) ?_;refine (rlinked_ok m0 S[j].m cu S[j].u C0 S[j].C d (g4.le m89) s9 hB okj (fun M10 m10=>Stop.mk ?_))))|((with_reducible refine isDraw [some 65,some 66,some 67,some 68,some 69,some 70,some 71,some 72,some 73,some 74,some 75,some 76,some 77,some 78,some 79,some 80,some 81,some 17] (by decide) ?_);refine draw_rule [(0,[]),(1,[]),(2,[]),(3,[2]),(4,[2]),(5,[2]),(6,[2]),(7,[2]),(8,[2]),(9,[2,8]),(10,[2]),(11,[2]),(12,[2]),(13,[2]),(14,[2,8,11,13]),(15,[]),(16,[]),(17,[])] [[],[0],[0,1],[0,1],[0,1],[0,1],[0,1,4,5],[0,1,4,5,6],[0,1,4,5,6,7],[0,1],[0,1,4,5,6,7,8,9],[0,1,4,5,6,7,8,9,10],[0,1,3,4,5,6,7,8,9,10,11],[0,1,3,4,5,6,7,8,9,10,11,12],[0,1],[0,1,2,3,4,5,6,7,8,9,10,11,12,13,14],[0,1,2,3,4,5,6,7,8,9,10,11,12,13,14,15],[0,1,2,3,4,5,6,7,8,9,10,11,12,13,14,15,16]] [67,68,69,70,71,72,73,74,75,76,77,78,79] [] (by kernel_rfl) (by kernel_rfl) (by kernel_rfl) (by kernel_rfl) (by exact trivial) ?_)|(refine And.intro ?_ ?_;(try simp only[sxO]at *);omega)|fail)<;>(try simp (maxSteps:=1000000) only [hb0,rfB,natV,hbv,y2,y3,y4,z2,z3,z4,z5,wk,hnn,hpt,at9,n9,a9,nv,q9,sjo,vl,vs,lo,ll,ls,go,bl,bs',co,vo,hcl,cE_ment,cE_kill,hasK_nil,bs_mk,bs_app,bs_ext,bs_size,bs_toList,bs_at,bs_cells,List.take_length,imp_ga,guard_pk,guard_pk2,↓hold_pre,awayP,runOps,regK,step1,newK,genR,appR,obl,buildR,Value.cells,closeK,keepH,outV,retK,ret1,retC,RetV,Option.getD,runD,stepD,afterK,undef,simprocAttr,sxB,↓sxD,sxE,sxTab]))
  have m10:Mem.le M9 M10:=m10
  rw[lkj]
  refine Stop.go ?_
  (replace hb0:=true_and True);refine Go1.mk ?_;repeat' ((first|(with_reducible refine Go1.go ?_)|((with_reducible first|refine brv_mk ?_ ?_|refine gsplitD ?_ ?_|refine gsplitG ?_ ?_)<;>intro h<;>(try simp only[Bool.not_eq_true',Bool.not_eq_false']at h)<;>replace hb0:=h)|(refine And.intro ?_ ?_;(try simp only[sxO]at *);omega)|fail)<;>(try simp (maxSteps:=1000000) only [hb0,y2,y3,y4,z2,z3,wk,lo,ll,ls,go,bl,bs',co,vo,hcl,cE_ment,cE_kill,hasK_nil,bs_mk,bs_app,bs_ext,bs_size,bs_toList,bs_at,bs_cells,List.take_length,imp_ga,guard_pk,guard_pk2,↓hold_pre,awayP,runOps,regK,step1,newK,genR,appR,obl,buildR,Value.cells,closeK,keepH,outV,retK,ret1,retC,RetV,Option.getD,runD,stepD,afterK,undef,simprocAttr,sxB,↓sxD,sxE,sxTab]))
  exact ⟨gl.length-(k+1),rfB M10 g v cu m0 d i (k+1) ((gl.take (k+1)).any c) (finN O2 c i),by omega,le_sub ⟨rfl,by rw[htk];rfl,rfl,rfl,rfl,rfl,rfl,rfl,trivial⟩ ⟨rfl,rfl,trivial⟩ rfl rfl rfl (keepLt0 _),M10,k+1,rfl,by omega,m9.trans m10,rfl⟩
end
theorem filt_sum{α:Type}(p:α→Bool):∀l:List α,(l.filter p).length+(l.filter fun x=>!p x).length=l.length
 | []=>rfl
 | x :: l=>by
  have:=filt_sum p l
  cases h:p x<;>simp[h]<;>omega
theorem contains_int{l:List Nat}{a:Nat}:(l.map fun (x:Nat)=>(x:Int)).contains (a:Int)=l.contains a:=by
 rw[Bool.eq_iff_iff,List.contains_iff_mem,List.contains_iff_mem,List.mem_map]
 constructor
 ·rintro ⟨x,h1,h2⟩
  have:x=a:=by omega
  exact this▸h1
 ·exact fun h=>⟨a,h,rfl⟩
theorem find_law{T:List (Bst×List Bst)}{s:Bst×List Bst}{d:Int}{O O3:List GO}{c:Nat→Bool}(h:GrpO T d O)(h3:GrpO (T++[s]) d O3)(hc:c=mlk T d (keysB s.1 s.2 d)) :
  O3.length+(finN O c O.length).length=O.length+1∧∀a (ha:a<O.length),∀i∈O[a].2,i<T.length∧togO O3 i T.length=(finN O c O.length).contains a:=by
 obtain ⟨f,hf,rfl⟩:=h
 obtain ⟨g,hg',rfl⟩:=h3
 have hlen:(T++[s]).length=T.length+1:=by simp
 have hg:=hg'
 rw[hlen]at hg
 have hS:∀i k,lnkR (T++[s]) d i k→lnkR (T++[s]) d k i:=lnkR_symm
 have hsg:∀i,i<T.length→sgK (T++[s]) d i=sgK T d i:=fun i hi=>by unfold sgK;rw[List.getElem?_append_left hi]
 have hsn:sgK (T++[s]) d T.length=keysB s.1 s.2 d:=by unfold sgK;simp
 have hRS:∀i k,i<T.length→k<T.length→(lnkR (T++[s]) d i k↔lnkR T d i k):=fun i k hi hk=>by unfold lnkR;rw[hsg i hi,hsg k hk]
 have hcm:∀m,m<T.length→(c m=true↔lnkR (T++[s]) d m T.length):=fun m hm=>by
  rw[hc];unfold mlk lnkR;rw[hsg m hm,hsn];exact lkB_iff
 obtain ⟨p,hpe⟩:∃p:Nat→Bool,p=fun k=>(memU f T.length (f k)).any c:=⟨_,rfl⟩
 have hp:∀k,k<T.length→(p k=true↔hasA T.length (lnkR (T++[s]) d) f k):=fun k hk=>by
  rw[hpe]
  show (memU f T.length (f k)).any c=true↔_
  rw[List.any_eq_true]
  constructor
  ·rintro ⟨m,hm,hm2⟩
   obtain ⟨h1,h2⟩:=memU_in.1 hm
   exact ⟨m,h1,(hcm m h1).1 hm2,h2⟩
  ·rintro ⟨m,h1,h2,h3⟩
   exact ⟨m,memU_in.2 ⟨h1,h3⟩,(hcm m h1).2 h2⟩
 have hcnt:=new_count hf hg hS hRS hp
 have e1:=grpO_len (T:=T) (f:=f)
 have e4:=grpO_len (T:=T++[s]) (f:=g)
 rw[hlen]at e4
 have e2:((grpO T f).filter fun o=>o.2.any c).length=((rootsU f T.length).filter p).length:=by
  unfold grpO outU
  rw[List.map_map,List.filter_map,List.length_map]
  congr 1
  refine List.filter_congr fun r hr=>?_
  have h2:=(rootsU_in.1 hr).2
  rw[hpe]
  show (memU f T.length r).any c=(memU f T.length (f r)).any c
  rw[h2]
 have e3:=filt_sum p (rootsU f T.length)
 have e5:=finN_count (O:=grpO T f) (c:=c) (grpO T f).length (Nat.le_refl _)
 rw[List.take_length,e2]at e5
 refine ⟨by omega,fun a ha i hi=>?_⟩
 have ha2:a<(rootsU f T.length).length:=by omega
 have hra:=rootsU_in.1 (List.getElem_mem ha2)
 have hat:=grpO_at (T:=T) (f:=f) ha2
 rw[hat]at hi
 have hi:i∈memU f T.length (rootsU f T.length)[a]:=hi
 obtain ⟨hi1,hi2⟩:=memU_in.1 hi
 refine ⟨hi1,?_⟩
 rw[tog_lab hg' (by rw[hlen];omega) (by rw[hlen];omega),finN_in ha,List.getD_eq_getElem?_getD,List.getElem?_eq_getElem ha,Option.getD_some,hat]
 have e6:(memU f T.length (rootsU f T.length)[a]).any c=p i:=by rw[hpe,←hi2]
 show decide (g i=g T.length)=(memU f T.length (rootsU f T.length)[a]).any c
 rw[e6,Bool.eq_iff_iff,decide_eq_true_eq]
 exact (new_iff hf hg hS hRS hi1).trans (hp i hi1).symm
section
variable {M:Mem}{K:AV→Hp→Mem→Prop}
def hiSt(M:Mem)(u:Value)(x:Int)(i:Nat):St:={env:=[(5,.ext (.int .i64 (i:Int))),(1,.ext (.int .i64 x)),(0,.ext u)],hp:=[],M:=M,kb:=0,fx:=[]}
theorem hasInt_ok(u:Value)(l:List Int)(x:Int)(hu:IsL M intV64 u l)(hb:l.length<1000000000)(hK:K (.ext (.bool (l.contains x))) [] M):CallS Tryz.prog 14 [.ext u,.ext (.int .i64 x)] [] M [] K:=by
 refine inlS (cs:=[]) Tryz.mixed Tryz.func14 rfl (by kernel_rfl) 0 rfl rfl ?_
 simp only[Tryz.f14]
 (replace hb0:=true_and True);refine Go1.mk ?_;repeat' ((first|(with_reducible refine Go1.go ?_)|((with_reducible first|refine brv_mk ?_ ?_|refine gsplitD ?_ ?_|refine gsplitG ?_ ?_)<;>intro h<;>(try simp only[Bool.not_eq_true',Bool.not_eq_false']at h)<;>replace hb0:=h)|(refine And.intro ?_ ?_;(try simp only[sxO]at *);omega)|fail)<;>(try simp (maxSteps:=1000000) only [hb0,hu.one,hu.len,hu.sl,↓hold_pre,awayP,runOps,regK,step1,newK,genR,appR,obl,buildR,Value.cells,closeK,keepH,outV,retK,ret1,retC,RetV,Option.getD,runD,stepD,afterK,undef,simprocAttr,sxB,↓sxD,sxE,sxTab]))
 refine ⟨fun m z=>∃i,i≤l.length∧(∀y∈l.take i,y≠x)∧m=l.length-i∧z=hiSt M u x i,⟨l.length,hiSt M u x 0,le_sub ⟨rfl,rfl,rfl,trivial⟩ trivial rfl rfl rfl (keepLt0 _),⟨0,by omega,by simp,rfl,rfl⟩⟩,?_⟩
 rintro m z ⟨i,hi,hno,rfl,rfl⟩
 by_cases hlt:i<l.length
 case neg=>
  have f1:=hu.fin hlt
  obtain rfl:i=l.length:=by omega
  have e:l.contains x=false:=by
   rw[List.take_length]at hno
   cases h:l.contains x with
   | false=>rfl
   | true=>exact absurd rfl (hno x (by simpa using h))
  rw[e]at hK
  (replace hb0:=true_and True);refine Go1.mk ?_;repeat' ((first|(with_reducible refine Go1.go ?_)|((with_reducible first|refine brv_mk ?_ ?_|refine gsplitD ?_ ?_|refine gsplitG ?_ ?_)<;>intro h<;>(try simp only[Bool.not_eq_true',Bool.not_eq_false']at h)<;>replace hb0:=h)|(refine And.intro ?_ ?_;(try simp only[sxO]at *);omega)|fail)<;>(try simp (maxSteps:=1000000) only [hb0,hiSt,f1,↓hold_pre,awayP,runOps,regK,step1,newK,genR,appR,obl,buildR,Value.cells,closeK,keepH,outV,retK,ret1,retC,RetV,Option.getD,runD,stepD,afterK,undef,simprocAttr,sxB,↓sxD,sxE,sxTab]))
  exact hK
 have f1:=hu.idx (P:=Tryz.prog) (T:=3) tk3 tz3 (by omega) hlt
 have htk:l.take (i+1)=l.take i++[l[i]]:=by rw[List.take_add_one,List.getElem?_eq_getElem hlt];rfl
 by_cases hx:l[i]=x
 ·have d1:decide (l[i]=x)=true:=decide_eq_true hx
  have e:l.contains x=true:=by rw[List.contains_iff_mem];exact hx▸List.getElem_mem hlt
  rw[e]at hK
  (replace hb0:=true_and True);refine Go1.mk ?_;repeat' ((first|(with_reducible refine Go1.go ?_)|((with_reducible first|refine brv_mk ?_ ?_|refine gsplitD ?_ ?_|refine gsplitG ?_ ?_)<;>intro h<;>(try simp only[Bool.not_eq_true',Bool.not_eq_false']at h)<;>replace hb0:=h)|(refine And.intro ?_ ?_;(try simp only[sxO]at *);omega)|fail)<;>(try simp (maxSteps:=1000000) only [hb0,hiSt,f1,intV64,d1,↓hold_pre,awayP,runOps,regK,step1,newK,genR,appR,obl,buildR,Value.cells,closeK,keepH,outV,retK,ret1,retC,RetV,Option.getD,runD,stepD,afterK,undef,simprocAttr,sxB,↓sxD,sxE,sxTab]))
  exact hK
 ·have d1:decide (l[i]=x)=false:=decide_eq_false hx
  (replace hb0:=true_and True);refine Go1.mk ?_;repeat' ((first|(with_reducible refine Go1.go ?_)|((with_reducible first|refine brv_mk ?_ ?_|refine gsplitD ?_ ?_|refine gsplitG ?_ ?_)<;>intro h<;>(try simp only[Bool.not_eq_true',Bool.not_eq_false']at h)<;>replace hb0:=h)|(refine And.intro ?_ ?_;(try simp only[sxO]at *);omega)|fail)<;>(try simp (maxSteps:=1000000) only [hb0,hiSt,f1,intV64,d1,↓hold_pre,awayP,runOps,regK,step1,newK,genR,appR,obl,buildR,Value.cells,closeK,keepH,outV,retK,ret1,retC,RetV,Option.getD,runD,stepD,afterK,undef,simprocAttr,sxB,↓sxD,sxE,sxTab]))
  refine ⟨l.length-(i+1),hiSt M u x (i+1),by omega,le_sub ⟨rfl,rfl,rfl,trivial⟩ trivial rfl rfl rfl (keepLt0 _),i+1,by omega,?_,rfl,rfl⟩
  rw[htk]
  intro y hy
  rcases List.mem_append.1 hy with hy|hy
  ·exact hno y hy
  ·rw[List.mem_singleton.1 hy];exact hx
end
theorem Fz.via'{z:St}{J B:St→Prop}(h:Fz z J)(hB:∀y,J y→B y):Fz z B:=fun c n a w hcx g=>by
 obtain ⟨y,g1,h1⟩:=h c n a w hcx g
 exact ⟨y,g1,hB y h1⟩
def gF(L:List GX):List AV:=(L.flatMap GX.c).map .ext
theorem gF_len(L:List GX):(gF L).length=L.length*3:=by
 unfold gF;rw[List.length_map,flat_len (z:=3) (fun _=>rfl)]
theorem gF_ment(L:List GX):mentL (gF L)=[]:=mentL_ext _
theorem gF_kill(k:Nat)(L:List GX):killL k (gF L)=gF L:=killL_exts _ _
theorem GRV.len{M:Mem}{u:Value}{O:List GO}(h:GRV M u O):slen u=O.length∧isSl u=true:=by
 obtain ⟨L,h1,_,h3⟩:=h
 rw[←h3,List.length_map]
 exact ⟨h1.len,h1.sl⟩
theorem faF_one{M:Mem}:∀{L:List Fa},(∀q∈L,faOk M q)→allOne (faF L)
 | [],_=>trivial
 | x :: L,h=>by
  have:=faF_one (L:=L) fun q hq=>h q (List.mem_cons_of_mem _ hq)
  have hx:=(h x List.mem_cons_self).1.one
  have e:faF (x :: L)=[.ext (.string (bs x.1)),.ext (.string (bs x.2.1)),.ext (.int .i64 x.2.2.1),.ext (.string (bs x.2.2.2.1)),.ext x.2.2.2.2.1]++faF L:=by simp[faF,faC]
  rw[e]
  exact ⟨rfl,rfl,rfl,rfl,hx,this⟩
def reG(g:GX):GX:={g with m:=g.m++[120]}
theorem gF_cons(g:GX)(L:List GX):gF (g :: L)=[.ext (.string (bs g.m)),.ext g.y,.ext g.u]++gF L:=by simp[gF,GX.c]
theorem gF_one{M:Mem}:∀{L:List GX},(∀q∈L,okGX M q)→allOne (gF L)
 | [],_=>trivial
 | x :: L,h=>by
  have:=gF_one (L:=L) fun q hq=>h q (List.mem_cons_of_mem _ hq)
  have hx:=h x List.mem_cons_self
  rw[gF_cons]
  exact ⟨rfl,hx.1.one,hx.2.one,this⟩
theorem gF_get:∀{L:List GX} {i:Nat} (h:i<L.length),(gF L)[i*3]? = some (.ext (.string (bs L[i].m)))
 | x :: L,0,_=>by rw[gF_cons];rfl
 | x :: L,i+1,h=>by
  have:=gF_get (L:=L) (i:=i) (Nat.lt_of_succ_lt_succ h)
  rw[gF_cons,List.getElem?_append_right (by simp;omega),show (i+1)*3-[AV.ext (.string (bs x.m)),.ext x.y,.ext x.u].length=i*3 by simp;omega,this]
  rfl
theorem gF_set:∀{L:List GX} {i:Nat} (h:i<L.length),(gF L).set (i*3) (.ext (.string (bs (L[i].m++[120]))))=gF (L.set i (reG L[i]))
 | x :: L,0,_=>by simp[gF,GX.c,reG]
 | x :: L,i+1,h=>by
  have:=gF_set (L:=L) (i:=i) (Nat.lt_of_succ_lt_succ h)
  rw[List.set_cons_succ,gF_cons,gF_cons,List.set_append_right _ _ (by simp;omega),show (i+1)*3-[AV.ext (.string (bs x.m)),.ext x.y,.ext x.u].length=i*3 by simp;omega]
  have h2:=Nat.lt_of_succ_lt_succ h
  show _++(gF L).set (i*3) (.ext (.string (bs ((L[i]'h2).m++[120]))))=_
  rw[this];rfl
theorem AnsG.names{X:List Fa}{d:Int}{O:List GO}(h:AnsG X d O):∀o∈O,o.1.1.length≤512:=fun o ho=>by
 by_cases he:sgnE X d=0
 ·obtain ⟨f,_,rfl⟩:=h.ok he
  unfold grpO at ho
  obtain ⟨p,hp,rfl⟩:=List.mem_map.1 ho
  obtain ⟨h3,_⟩:=outU_bnd (Nat.le_refl _) p hp
  have e:(X.map faB).getD p.1 ([],[])∈X.map faB:=by rw[List.getD_eq_getElem?_getD,List.getElem?_eq_getElem h3];exact List.getElem_mem _
  obtain ⟨x,_,e2⟩:=List.mem_map.1 e
  show ((X.map faB).getD p.1 ([],[])).1.length≤512
  rw[←e2]
  have h1:=norm_len (x.2.2.2.1.take 512)
  rw[List.length_take]at h1
  show (normB (x.2.2.2.1.take 512)).length≤512
  omega
 ·rw[h.no he]at ho;cases ho
abbrev faH(f:Fa):List AV:=[.ext (.string (bs f.1)),.ext (.string (bs f.2.1)),.ext (.int .i64 f.2.2.1),.ext (.string (bs f.2.2.2.1)),.ext f.2.2.2.2.1]
section
variable {M:Mem}{K:AV→Hp→Mem→Prop}
def fdA(M:Mem)(v0 x:Value)(f:Fa)(b:Bool)(dd:Int)(p:Nat):St:={env:=[(9,.own 26 0),(8,.ext x),(7,.own 40 0),(2,.ext (.bool b)),(1,.ext (.int .i64 dd))],hp:=[(26,32,faH f),(40,25,tpH v0 p)],M:=M,kb:=17,fx:=[]}
def fdB(M:Mem)(g x:Value)(f:Fa)(dd:Int):St:={env:=[(10,.ext g),(9,.own 26 0),(8,.ext x),(1,.ext (.int .i64 dd))],hp:=[(26,32,faH f)],M:=M,kb:=17,fx:=[]}
def fdC(M:Mem)(L:List GX)(x:Value)(f:Fa)(dd:Int):St:={env:=[(10,.slo 67 0 L.length 3),(9,.own 26 0),(8,.ext x),(1,.ext (.int .i64 dd))],hp:=[(67,43,gF L),(26,32,faH f)],M:=M,kb:=17,fx:=[]}
def fdL(M:Mem)(g x w U:Value)(a:Nat):St:={env:=[(18,.ext (.int .i64 (a:Int))),(17,.ext U),(12,.ext w),(10,.ext g),(8,.ext x)],hp:=[],M:=M,kb:=17,fx:=[]}
def fdI(M:Mem)(g x w U m:Value)(n a i:Nat):St:={env:=[(132,.ext (.int .i64 (i:Int))),(131,.ext (.int .i64 (n:Int))),(130,.ext m),(18,.ext (.int .i64 (a:Int))),(17,.ext U),(12,.ext w),(10,.ext g),(8,.ext x)],hp:=[],M:=M,kb:=17,fx:=[]}
theorem finds27_ok(v0:Value)(l0:List Int)(d:Int)(b:Bool)(hl:IsL M intV64 v0 l0)(hK:∀M',Mem.le M M'→K (.ext (.bool true)) [] M'):CallS Tryz.prog 3 [.ext v0,.ext (.int .i64 d),.ext (.bool b)] [] M [] K:=by
 refine inlS (cs:=[6,10]) Tryz.mixed Tryz.func3 rfl (by kernel_rfl) 17 rfl rfl ?_
 simp only[Tryz.f3]
 have vo:=hl.one
 (try with_reducible refine Fz.of ?_);(replace hb0:=true_and True);refine Go1.mk ?_;repeat' ((first|(with_reducible refine Go1.go ?_)|((with_reducible first|refine brv_mk ?_ ?_|refine gsplitD ?_ ?_|refine gsplitG ?_ ?_)<;>intro h<;>(try simp only[Bool.not_eq_true',Bool.not_eq_false']at h)<;>replace hb0:=h)|((with_reducible refine isCall (f:=4) ?_);refine callA ?_)|((with_reducible refine isCallS (f:=4) ?_);refine (failures_ok v0 l0 0 14 0 hl (by decide) (by decide) (by decide) (fun x X M1 p m1 hx hX hp hf=>Stop.mk ?_)))|(refine And.intro ?_ ?_;(try simp only[sxO]at *);omega)|fail)<;>(try simp (maxSteps:=1000000) only [hb0,vo,hasK_nil,↓hold_pre,awayP,runOps,regK,step1,newK,genR,appR,obl,buildR,Value.cells,closeK,keepH,outV,retK,ret1,retC,RetV,Option.getD,runD,stepD,afterK,undef,simprocAttr,sxB,↓sxD,sxE,sxTab]))
 have m1:Mem.le M M1:=m1
 have xo:=hx.one
 have xl:=hx.len
 have xs:=hx.sl
 refine Stop.go ?_
 (try with_reducible refine Fz.of ?_);(replace hb0:=true_and True);refine Go1.mk ?_;repeat' ((first|(with_reducible refine Go1.go ?_)|((with_reducible first|refine brv_mk ?_ ?_|refine gsplitD ?_ ?_|refine gsplitG ?_ ?_)<;>intro h<;>(try simp only[Bool.not_eq_true',Bool.not_eq_false']at h)<;>replace hb0:=h)|((with_reducible refine isCall (f:=5) ?_);refine callA ?_)|((with_reducible refine isCallS (f:=5) ?_);refine (failure_ok v0 l0 p 0 (hl.le m1) (by omega) (by decide) (fun f M2 p2 m2 hp2 hdf hfo _=>Stop.mk ?_)))|(refine And.intro ?_ ?_;(try simp only[sxO]at *);omega)|fail)<;>(try simp (maxSteps:=1000000) only [hb0,tpH,vo,xo,xl,xs,hasK_nil,↓hold_pre,awayP,runOps,regK,step1,newK,genR,appR,obl,buildR,Value.cells,closeK,keepH,outV,retK,ret1,retC,RetV,Option.getD,runD,stepD,afterK,undef,simprocAttr,sxB,↓sxD,sxE,sxTab]))
 have m2:Mem.le M1 M2:=m2
 have fo:=hfo.1.one
 have hfe:=hdf.noE (by decide)
 have hx2:=hx.le m2
 have hXo:∀q∈X,faOk M2 q:=fun q h=>(hf q h).2.le m2
 have hl2:=(hl.le m1).le m2
 have m02:=m1.trans m2
 refine Stop.go ?_
 (try with_reducible refine Fz.of ?_);(replace hb0:=true_and True);refine Go1.mk ?_;repeat' ((first|(with_reducible refine Go1.go ?_)|((with_reducible first|refine brv_mk ?_ ?_|refine gsplitD ?_ ?_|refine gsplitG ?_ ?_)<;>intro h<;>(try simp only[Bool.not_eq_true',Bool.not_eq_false']at h)<;>replace hb0:=h)|(refine And.intro ?_ ?_;(try simp only[sxO]at *);omega)|fail)<;>(try simp (maxSteps:=1000000) only [hb0,faV,tpH,vo,xo,xl,xs,fo,hasK_nil,↓hold_pre,awayP,runOps,regK,step1,newK,genR,appR,obl,buildR,Value.cells,closeK,keepH,outV,retK,ret1,retC,RetV,Option.getD,runD,stepD,afterK,undef,simprocAttr,sxB,↓sxD,sxE,sxTab]))
 refine ⟨fun z=>∃dd:Int,z=fdA M2 v0 x f b dd p2,?_,?_⟩
 ·by_cases h1:d < -2
  ·have c1:decide (d < -2)=true:=decide_eq_true h1
   (try with_reducible refine Fz.of ?_);(replace hb0:=true_and True);refine Go1.mk ?_;repeat' ((first|(with_reducible refine Go1.go ?_)|((with_reducible first|refine brv_mk ?_ ?_|refine gsplitD ?_ ?_|refine gsplitG ?_ ?_)<;>intro h<;>(try simp only[Bool.not_eq_true',Bool.not_eq_false']at h)<;>replace hb0:=h)|(((with_reducible refine isCall (f:=6) ?_);refine callA_nil (by kernel_rfl) ?_;refine (fold_ok _ _ (Stop.mk ?_))))|(refine And.intro ?_ ?_;(try simp only[sxO]at *);omega)|fail)<;>(try simp (maxSteps:=1000000) only [hb0,c1,gt_iff_lt,vo,xo,xl,xs,fo,hasK_nil,↓hold_pre,awayP,runOps,regK,step1,newK,genR,appR,obl,buildR,Value.cells,closeK,keepH,outV,retK,ret1,retC,RetV,Option.getD,runD,stepD,afterK,undef,simprocAttr,sxB,↓sxD,sxE,sxTab]))
   obtain ⟨q0,q1⟩:=foldI_bd1 d 4 (by decide) (by decide)
   obtain ⟨y,hy⟩:=Int.eq_ofNat_of_zero_le q0
   rw[hy]at q1 ⊢
   have wy:IntKind.i64.wrap (1+(y:Int))=((1+y:Nat):Int):=by rw[wrap_id (by omega) (by omega)];omega
   refine Stop.go ?_
   (try with_reducible refine Fz.of ?_);(replace hb0:=true_and True);refine Go1.mk ?_;repeat' ((first|(with_reducible refine Go1.go ?_)|((with_reducible first|refine brv_mk ?_ ?_|refine gsplitD ?_ ?_|refine gsplitG ?_ ?_)<;>intro h<;>(try simp only[Bool.not_eq_true',Bool.not_eq_false']at h)<;>replace hb0:=h)|(refine And.intro ?_ ?_;(try simp only[sxO]at *);omega)|fail)<;>(try simp (maxSteps:=1000000) only [hb0,wy,vo,xo,xl,xs,fo,hasK_nil,↓hold_pre,awayP,runOps,regK,step1,newK,genR,appR,obl,buildR,Value.cells,closeK,keepH,outV,retK,ret1,retC,RetV,Option.getD,runD,stepD,afterK,undef,simprocAttr,sxB,↓sxD,sxE,sxTab]))
   exact ⟨fdA M2 v0 x f b ((1+y:Nat):Int) p2,le_sub ⟨rfl,rfl,rfl,rfl,rfl,trivial⟩ ⟨rfl,rfl,trivial⟩ rfl rfl rfl (keepLt_of rfl),_,rfl⟩
  have c1:decide (d < -2)=false:=decide_eq_false h1
  by_cases h2:18<d
  ·have c2:decide (18<d)=true:=decide_eq_true h2
   (try with_reducible refine Fz.of ?_);(replace hb0:=true_and True);refine Go1.mk ?_;repeat' ((first|(with_reducible refine Go1.go ?_)|((with_reducible first|refine brv_mk ?_ ?_|refine gsplitD ?_ ?_|refine gsplitG ?_ ?_)<;>intro h<;>(try simp only[Bool.not_eq_true',Bool.not_eq_false']at h)<;>replace hb0:=h)|(((with_reducible refine isCall (f:=6) ?_);refine callA_nil (by kernel_rfl) ?_;refine (fold_ok _ _ (Stop.mk ?_))))|(refine And.intro ?_ ?_;(try simp only[sxO]at *);omega)|fail)<;>(try simp (maxSteps:=1000000) only [hb0,c1,c2,gt_iff_lt,vo,xo,xl,xs,fo,hasK_nil,↓hold_pre,awayP,runOps,regK,step1,newK,genR,appR,obl,buildR,Value.cells,closeK,keepH,outV,retK,ret1,retC,RetV,Option.getD,runD,stepD,afterK,undef,simprocAttr,sxB,↓sxD,sxE,sxTab]))
   obtain ⟨q0,q1⟩:=foldI_bd1 d 4 (by decide) (by decide)
   obtain ⟨y,hy⟩:=Int.eq_ofNat_of_zero_le q0
   rw[hy]at q1 ⊢
   have wy:IntKind.i64.wrap (1+(y:Int))=((1+y:Nat):Int):=by rw[wrap_id (by omega) (by omega)];omega
   refine Stop.go ?_
   (try with_reducible refine Fz.of ?_);(replace hb0:=true_and True);refine Go1.mk ?_;repeat' ((first|(with_reducible refine Go1.go ?_)|((with_reducible first|refine brv_mk ?_ ?_|refine gsplitD ?_ ?_|refine gsplitG ?_ ?_)<;>intro h<;>(try simp only[Bool.not_eq_true',Bool.not_eq_false']at h)<;>replace hb0:=h)|(refine And.intro ?_ ?_;(try simp only[sxO]at *);omega)|fail)<;>(try simp (maxSteps:=1000000) only [hb0,wy,vo,xo,xl,xs,fo,hasK_nil,↓hold_pre,awayP,runOps,regK,step1,newK,genR,appR,obl,buildR,Value.cells,closeK,keepH,outV,retK,ret1,retC,RetV,Option.getD,runD,stepD,afterK,undef,simprocAttr,sxB,↓sxD,sxE,sxTab]))
   exact ⟨fdA M2 v0 x f b ((1+y:Nat):Int) p2,le_sub ⟨rfl,rfl,rfl,rfl,rfl,trivial⟩ ⟨rfl,rfl,trivial⟩ rfl rfl rfl (keepLt_of rfl),_,rfl⟩
  have c2:decide (18<d)=false:=decide_eq_false h2
  (try with_reducible refine Fz.of ?_);(replace hb0:=true_and True);refine Go1.mk ?_;repeat' ((first|(with_reducible refine Go1.go ?_)|((with_reducible first|refine brv_mk ?_ ?_|refine gsplitD ?_ ?_|refine gsplitG ?_ ?_)<;>intro h<;>(try simp only[Bool.not_eq_true',Bool.not_eq_false']at h)<;>replace hb0:=h)|(refine And.intro ?_ ?_;(try simp only[sxO]at *);omega)|fail)<;>(try simp (maxSteps:=1000000) only [hb0,c1,c2,gt_iff_lt,vo,xo,xl,xs,fo,hasK_nil,↓hold_pre,awayP,runOps,regK,step1,newK,genR,appR,obl,buildR,Value.cells,closeK,keepH,outV,retK,ret1,retC,RetV,Option.getD,runD,stepD,afterK,undef,simprocAttr,sxB,↓sxD,sxE,sxTab]))
  exact ⟨fdA M2 v0 x f b d p2,le_sub ⟨rfl,rfl,rfl,rfl,rfl,trivial⟩ ⟨rfl,rfl,trivial⟩ rfl rfl rfl (keepLt_of rfl),_,rfl⟩
 rintro z ⟨dd,rfl⟩
 refine Fz.of ?_
 (try with_reducible refine Fz.of ?_);(replace hb0:=true_and True);refine Go1.mk ?_;repeat' ((first|(with_reducible refine Go1.go ?_)|((with_reducible first|refine brv_mk ?_ ?_|refine gsplitD ?_ ?_|refine gsplitG ?_ ?_)<;>intro h<;>(try simp only[Bool.not_eq_true',Bool.not_eq_false']at h)<;>replace hb0:=h)|((first|((with_reducible refine isCall (f:=7) ?_);refine callA_nil (by kernel_rfl) ?_)|((with_reducible refine isCall0 (f:=7) ?_);refine callA0_nil (by kernel_rfl) ?_));refine (psplit_ok x X dd hx2 hXo (by omega) (fun g M3 O m3 hA hG=>Stop.mk ?_)))|(refine And.intro ?_ ?_;(try simp only[sxO]at *);omega)|fail)<;>(try simp (maxSteps:=1000000) only [hb0,fdA,tpH,vo,xo,xl,xs,fo,hasK_nil,↓hold_pre,awayP,runOps,regK,step1,newK,genR,appR,obl,buildR,Value.cells,closeK,keepH,outV,retK,ret1,retC,RetV,Option.getD,runD,stepD,afterK,undef,simprocAttr,sxB,↓sxD,sxE,sxTab]))
 have m3:Mem.le M2 M3:=m3
 have go:=hG.one
 have kO:=hA.good hXo
 have hnm:=hA.names
 refine Stop.go ?_
 (try with_reducible refine Fz.of ?_);(replace hb0:=true_and True);refine Go1.mk ?_;repeat' ((first|(with_reducible refine Go1.go ?_)|((with_reducible first|refine brv_mk ?_ ?_|refine gsplitD ?_ ?_|refine gsplitG ?_ ?_)<;>intro h<;>(try simp only[Bool.not_eq_true',Bool.not_eq_false']at h)<;>replace hb0:=h)|(refine And.intro ?_ ?_;(try simp only[sxO]at *);omega)|fail)<;>(try simp (maxSteps:=1000000) only [hb0,tpH,vo,xo,xl,xs,fo,go,hasK_nil,↓hold_pre,awayP,runOps,regK,step1,newK,genR,appR,obl,buildR,Value.cells,closeK,keepH,outV,retK,ret1,retC,RetV,Option.getD,runD,stepD,afterK,undef,simprocAttr,sxB,↓sxD,sxE,sxTab]))
 refine ⟨fun z=>z=fdB M3 g x f dd∨∃L',(∀q∈L',okGX M3 q)∧okO (L'.map GX.o)∧z=fdC M3 L' x f dd,?_,?_⟩
 ·obtain ⟨L,g1,g2,g3⟩:=hG
  have hOl:O.length=L.length:=by rw[←g3,List.length_map]
  have gl:=g1.len
  have gs:=g1.sl
  have gr:rowS M3 3 g=some (L.flatMap GX.c):=SlM.row g1
  have n64:=kO.len
  have hfl:(L.flatMap GX.c).map AV.ext=gF L:=rfl
  have lG:=gF_len L
  cases b with
  | false=>
   (try with_reducible refine Fz.of ?_);(replace hb0:=true_and True);refine Go1.mk ?_;repeat' ((first|(with_reducible refine Go1.go ?_)|((with_reducible first|refine brv_mk ?_ ?_|refine gsplitD ?_ ?_|refine gsplitG ?_ ?_)<;>intro h<;>(try simp only[Bool.not_eq_true',Bool.not_eq_false']at h)<;>replace hb0:=h)|(refine And.intro ?_ ?_;(try simp only[sxO]at *);omega)|fail)<;>(try simp (maxSteps:=1000000) only [hb0,tpH,vo,xo,xl,xs,fo,go,gl,gs,hasK_nil,↓hold_pre,awayP,runOps,regK,step1,newK,genR,appR,obl,buildR,Value.cells,closeK,keepH,outV,retK,ret1,retC,RetV,Option.getD,runD,stepD,afterK,undef,simprocAttr,sxB,↓sxD,sxE,sxTab]))
   exact ⟨fdB M3 g x f dd,le_sub ⟨rfl,rfl,rfl,rfl,trivial⟩ ⟨rfl,trivial⟩ rfl rfl rfl (keepLt_of rfl),.inl rfl⟩
  | true=>
   by_cases hL:0<L.length
   case neg=>
    have c1:decide ((0:Int)<(L.length:Int))=false:=by rw[decide_eq_false_iff_not];omega
    (try with_reducible refine Fz.of ?_);(replace hb0:=true_and True);refine Go1.mk ?_;repeat' ((first|(with_reducible refine Go1.go ?_)|((with_reducible first|refine brv_mk ?_ ?_|refine gsplitD ?_ ?_|refine gsplitG ?_ ?_)<;>intro h<;>(try simp only[Bool.not_eq_true',Bool.not_eq_false']at h)<;>replace hb0:=h)|(refine And.intro ?_ ?_;(try simp only[sxO]at *);omega)|fail)<;>(try simp (maxSteps:=1000000) only [hb0,c1,gt_iff_lt,tpH,vo,xo,xl,xs,fo,go,gl,gs,hasK_nil,↓hold_pre,awayP,runOps,regK,step1,newK,genR,appR,obl,buildR,Value.cells,closeK,keepH,outV,retK,ret1,retC,RetV,Option.getD,runD,stepD,afterK,undef,simprocAttr,sxB,↓sxD,sxE,sxTab]))
    exact ⟨fdB M3 g x f dd,le_sub ⟨rfl,rfl,rfl,rfl,trivial⟩ ⟨rfl,trivial⟩ rfl rfl rfl (keepLt_of rfl),.inl rfl⟩
   have c1:decide ((0:Int)<(L.length:Int))=true:=by rw[decide_eq_true_eq];omega
   have hao:=eq_true (gF_one g2)
   (try with_reducible refine Fz.of ?_);(replace hb0:=true_and True);refine Go1.mk ?_;repeat' ((first|(with_reducible refine Go1.go ?_)|((with_reducible first|refine brv_mk ?_ ?_|refine gsplitD ?_ ?_|refine gsplitG ?_ ?_)<;>intro h<;>(try simp only[Bool.not_eq_true',Bool.not_eq_false']at h)<;>replace hb0:=h)|((with_reducible refine isCall (f:=8) ?_);refine callA ?_)|((with_reducible refine isCallS (f:=8) ?_);refine (nextI_ok 40 v0 l0 _ _ (hl2.le m3) (by omega) (by omega) (by omega) (fun x hx0 hx1=>Stop.mk ?_)))|(refine And.intro ?_ ?_;(try simp only[sxO]at *);omega)|fail)<;>(try simp (maxSteps:=1000000) only [hb0,c1,gt_iff_lt,gr,hfl,hao,lG,gF_ment,gF_kill,maxLen,tpH,vo,xo,xl,xs,fo,go,gl,gs,hasK_nil,↓hold_pre,awayP,runOps,regK,step1,newK,genR,appR,obl,buildR,Value.cells,closeK,keepH,outV,retK,ret1,retC,RetV,Option.getD,runD,stepD,afterK,undef,simprocAttr,sxB,↓sxD,sxE,sxTab]))
   obtain ⟨y,rfl⟩:=Int.eq_ofNat_of_zero_le hx0
   have hy:y<L.length:=by omega
   have z2:(0:Int)≤(y:Int):=by omega
   have z3:(y:Int)<(L.length:Int):=by omega
   have z4:y*3<L.length*3:=by omega
   have hget:=gF_get hy
   have hset:=gF_set hy
   have hmO:GX.o L[y]∈O:=by rw[←g3];exact List.mem_map_of_mem (List.getElem_mem hy)
   have hml:L[y].m.length≤512:=hnm _ hmO
   refine Stop.go ?_
   (try with_reducible refine Fz.of ?_);(replace hb0:=true_and True);refine Go1.mk ?_;repeat' ((first|(with_reducible refine Go1.go ?_)|((with_reducible first|refine brv_mk ?_ ?_|refine gsplitD ?_ ?_|refine gsplitG ?_ ?_)<;>intro h<;>(try simp only[Bool.not_eq_true',Bool.not_eq_false']at h)<;>replace hb0:=h)|(refine And.intro ?_ ?_;(try simp only[sxO]at *);omega)|fail)<;>(try simp (maxSteps:=1000000) only [hb0,z2,z3,z4,hy,hget,hset,lG,gF_ment,gF_kill,maxLen,tpH,vo,xo,xl,xs,fo,go,gl,gs,hasK_nil,bs_mk,bs_app,bs_ext,bs_size,bs_toList,bs_at,bs_cells,List.take_length,imp_ga,guard_pk,guard_pk2,↓hold_pre,awayP,runOps,regK,step1,newK,genR,appR,obl,buildR,Value.cells,closeK,keepH,outV,retK,ret1,retC,RetV,Option.getD,runD,stepD,afterK,undef,simprocAttr,sxB,↓sxD,sxE,sxTab]))
   refine ⟨fdC M3 (L.set y (reG L[y])) x f dd,le_sub ⟨by simp[lk,fdC],rfl,rfl,rfl,trivial⟩ ⟨rfl,rfl,trivial⟩ rfl rfl rfl (keepLt_of rfl),.inr ⟨L.set y (reG L[y]),fun q hq=>?_,?_,rfl⟩⟩
   ·rcases List.mem_or_eq_of_mem_set hq with h|h
    ·exact g2 q h
    ·rw[h];have h5:=g2 _ (List.getElem_mem hy);exact h5
   ·refine ⟨by rw[List.length_map,List.length_set];omega,fun o ho=>?_⟩
    obtain ⟨q,hq,rfl⟩:=List.mem_map.1 ho
    rcases List.mem_or_eq_of_mem_set hq with h|h
    ·exact kO.at_ _ (by rw[←g3];exact List.mem_map_of_mem h)
    ·rw[h]
     obtain ⟨a1,a2,a3⟩:=kO.at_ _ hmO
     have a4:=hnm _ hmO
     refine ⟨⟨?_,a1.2.1,a1.2.2⟩,a2,a3⟩
     show (L[y].m++[120]).length<_
     rw[List.length_append]
     have a4:L[y].m.length≤512:=a4
     simp only[List.length_singleton];omega
 intro z hz0
 refine Fz.via' (J:=fun y=>∃M4 g' O2,Mem.le M3 M4∧GRV M4 g' O2∧okO O2∧y=fdB M4 g' x f dd) ?_ ?_
 ·rcases hz0 with rfl|⟨L',hL1,hL2,rfl⟩
  ·exact Fz.of ⟨M3,g,O,.refl _,hG,kO,rfl⟩
  ·refine Fz.flat (k:=67) (n:=L'.length) (w:=3) (T:=43) 10 (L'.flatMap GX.c) [(9,.own 26 0),(8,.ext x),(1,.ext (.int .i64 dd))] [(26,32,faH f)] rfl rfl (by rw[flat_len (z:=3) (fun _=>rfl)]) (show 17≤67 by decide) ⟨rfl,rfl,rfl,trivial⟩ rfl ⟨rfl,trivial⟩ rfl (keepLt_of rfl) (fun j hj hj2=>?_) (fun M4 g' m4 hg' _=>?_)
   ·exfalso
    revert hj2
    simp only[fdC,lkH]
    have hj:j<17:=hj
    rw[if_neg (by omega),if_neg (by omega)];simp
   ·exact ⟨M4,g',L'.map GX.o,m4,⟨L',hg',fun q h=>(hL1 q h).le m4,rfl⟩,hL2,rfl⟩
 clear hz0 z
 rintro y ⟨M4,g',O2,m4,hG4,kO2,rfl⟩
 have m4:Mem.le M3 M4:=m4
 have m24:=m3.trans m4
 have go2:=hG4.one
 have hx4:=hx2.le m24
 have hX4:∀q∈X,faOk M4 q:=fun q h=>(hXo q h).le m24
 have hf4:=hfo.le m24
 clear go kO hnm hG
 by_cases hz:fndE X dd O O2=0
 case neg=>
  have d0:decide (fndE X dd O O2=0)=false:=decide_eq_false hz
  have e1:decide (fndE X dd O O2=fndE X dd O O2)=true:=by simp
  have e2:decide (([]:List Int)=[])=true:=rfl
  (try with_reducible refine Fz.of ?_);(replace hb0:=true_and True);refine Go1.mk ?_;repeat' ((first|(with_reducible refine Go1.go ?_)|((with_reducible first|refine brv_mk ?_ ?_|refine gsplitD ?_ ?_|refine gsplitG ?_ ?_)<;>intro h<;>(try simp only[Bool.not_eq_true',Bool.not_eq_false']at h)<;>replace hb0:=h)|(((with_reducible refine isCall (f:=9) ?_);refine callA_nil (by kernel_rfl) ?_;refine (pfind_ok g' x O2 X f dd hG4 kO2 hx4 hX4 (by omega) hf4 hfe (fun O' M5 m5 hA' hne=>Stop.mk ?_) (fun O' M5 U m5 hA' h0 _=>absurd (hA'.uniq hA▸h0) hz))))|(refine And.intro ?_ ?_;(try simp only[sxO]at *);omega)|fail)<;>(try simp (maxSteps:=1000000) only [hb0,fdB,faV,xo,xl,xs,fo,go2,hasK_nil,↓hold_pre,awayP,runOps,regK,step1,newK,genR,appR,obl,buildR,Value.cells,closeK,keepH,outV,retK,ret1,retC,RetV,Option.getD,runD,stepD,afterK,undef,simprocAttr,sxB,↓sxD,sxE,sxTab]))
  have m5:Mem.le M4 M5:=m5
  rw[hA'.uniq hA]
  refine Stop.go ?_
  (try with_reducible refine Fz.of ?_);(replace hb0:=true_and True);refine Go1.mk ?_;repeat' ((first|(with_reducible refine Go1.go ?_)|((with_reducible first|refine brv_mk ?_ ?_|refine gsplitD ?_ ?_|refine gsplitG ?_ ?_)<;>intro h<;>(try simp only[Bool.not_eq_true',Bool.not_eq_false']at h)<;>replace hb0:=h)|(((with_reducible refine isCall (f:=10) ?_);refine callA_nil (by kernel_rfl) ?_;refine (rfind_ok g' x O2 X f dd (hG4.le m5) kO2 (hx4.le m5) (fun q h=>(hX4 q h).le m5) (by omega) (hf4.le m5) hfe (fun O'' M6 m6 hA'' hne2=>Stop.mk ?_) (fun O'' M6 U m6 hA'' h0 _=>absurd (hA''.uniq hA▸h0) hz))))|(refine And.intro ?_ ?_;(try simp only[sxO]at *);omega)|fail)<;>(try simp (maxSteps:=1000000) only [hb0,faV,xo,xl,xs,fo,go2,hasK_nil,↓hold_pre,awayP,runOps,regK,step1,newK,genR,appR,obl,buildR,Value.cells,closeK,keepH,outV,retK,ret1,retC,RetV,Option.getD,runD,stepD,afterK,undef,simprocAttr,sxB,↓sxD,sxE,sxTab]))
  have m6:Mem.le M5 M6:=m6
  rw[hA''.uniq hA]
  refine Stop.go ?_
  (try with_reducible refine Fz.of ?_);(replace hb0:=true_and True);refine Go1.mk ?_;repeat' ((first|(with_reducible refine Go1.go ?_)|((with_reducible first|refine brv_mk ?_ ?_|refine gsplitD ?_ ?_|refine gsplitG ?_ ?_)<;>intro h<;>(try simp only[Bool.not_eq_true',Bool.not_eq_false']at h)<;>replace hb0:=h)|(((with_reducible refine isCall (f:=11) ?_);refine callA_nil (by kernel_rfl) ?_;refine (sameInts_ok (.slice none 0 0) (.slice none 0 0) [] [] (slM_nil _ _ _) (slM_nil _ _ _) (by decide) (by decide) ?_)))|(((with_reducible refine isCall (f:=12) ?_);refine callA_nil (by kernel_rfl) ?_;refine (known27_ok (fun M7 m7=>Stop.mk ?_))))|(refine And.intro ?_ ?_;(try simp only[sxO]at *);omega)|fail)<;>(try simp (maxSteps:=1000000) only [hb0,d0,e1,e2,xo,xl,xs,fo,go2,hasK_nil,↓hold_pre,awayP,runOps,regK,step1,newK,genR,appR,obl,buildR,Value.cells,closeK,keepH,outV,retK,ret1,retC,RetV,Option.getD,runD,stepD,afterK,undef,simprocAttr,sxB,↓sxD,sxE,sxTab]))
  have m7:Mem.le M6 M7:=m7
  refine Stop.go ?_
  (try with_reducible refine Fz.of ?_);(replace hb0:=true_and True);refine Go1.mk ?_;repeat' ((first|(with_reducible refine Go1.go ?_)|((with_reducible first|refine brv_mk ?_ ?_|refine gsplitD ?_ ?_|refine gsplitG ?_ ?_)<;>intro h<;>(try simp only[Bool.not_eq_true',Bool.not_eq_false']at h)<;>replace hb0:=h)|(refine And.intro ?_ ?_;(try simp only[sxO]at *);omega)|fail)<;>(try simp (maxSteps:=1000000) only [hb0,hasK_nil,↓hold_pre,awayP,runOps,regK,step1,newK,genR,appR,obl,buildR,Value.cells,closeK,keepH,outV,retK,ret1,retC,RetV,Option.getD,runD,stepD,afterK,undef,simprocAttr,sxB,↓sxD,sxE,sxTab]))
  exact hK _ (((m02.trans m24).trans m5).trans (m6.trans m7))
 obtain ⟨hsg0,hOO⟩:sgnE X dd=0∧O2=O:=by
  unfold fndE at hz
  split at hz
  ·rename_i h
   split at hz
   ·rename_i h2;exact ⟨h,h2⟩
   ·cases hz
  ·rename_i h;exact absurd hz h
 subst hOO
 obtain ⟨d1,d16⟩:1≤dd∧dd≤16:=by
  unfold sgnE at hsg0
  split at hsg0
  ·cases hsg0
  ·split at hsg0
   ·cases hsg0
   ·omega
 obtain ⟨N,hN⟩:∃N,N=fndR X f dd O2:=⟨_,rfl⟩
 have hNO:N.length≤O2.length:=by
  have:=finN_le (O:=O2) (c:=mlk (X.map faB) dd (keysB (faB f).1 (faB f).2 dd)) (k:=O2.length)
  rw[hN];exact this
 have hNl:N.length≤64:=by
  have h2:=kO2.len
  omega
 have e1:decide ((N.map fun (x:Nat)=>(x:Int))=N.map fun (x:Nat)=>(x:Int))=true:=by simp
 (try with_reducible refine Fz.of ?_);(replace hb0:=true_and True);refine Go1.mk ?_;repeat' ((first|(with_reducible refine Go1.go ?_)|((with_reducible first|refine brv_mk ?_ ?_|refine gsplitD ?_ ?_|refine gsplitG ?_ ?_)<;>intro h<;>(try simp only[Bool.not_eq_true',Bool.not_eq_false']at h)<;>replace hb0:=h)|(((with_reducible refine isCall (f:=9) ?_);refine callA_nil (by kernel_rfl) ?_;refine (pfind_ok g' x O2 X f dd hG4 kO2 hx4 hX4 (by omega) hf4 hfe (fun O' M5 m5 hA' h0=>absurd (hA'.uniq hA▸hz) h0) (fun O' M5 w m5 hA' _ hw=>Stop.mk ?_))))|(refine And.intro ?_ ?_;(try simp only[sxO]at *);omega)|fail)<;>(try simp (maxSteps:=1000000) only [hb0,fdB,faV,xo,xl,xs,fo,go2,hasK_nil,↓hold_pre,awayP,runOps,regK,step1,newK,genR,appR,obl,buildR,Value.cells,closeK,keepH,outV,retK,ret1,retC,RetV,Option.getD,runD,stepD,afterK,undef,simprocAttr,sxB,↓sxD,sxE,sxTab]))
 have m5:Mem.le M4 M5:=m5
 rw[←hN]at hw
 have wo:=hw.one
 have wl:=hw.len
 have ws:=hw.sl
 refine Stop.go ?_
 (try with_reducible refine Fz.of ?_);(replace hb0:=true_and True);refine Go1.mk ?_;repeat' ((first|(with_reducible refine Go1.go ?_)|((with_reducible first|refine brv_mk ?_ ?_|refine gsplitD ?_ ?_|refine gsplitG ?_ ?_)<;>intro h<;>(try simp only[Bool.not_eq_true',Bool.not_eq_false']at h)<;>replace hb0:=h)|(((with_reducible refine isCall (f:=10) ?_);refine callA_nil (by kernel_rfl) ?_;refine (rfind_ok g' x O2 X f dd (hG4.le m5) kO2 (hx4.le m5) (fun q h=>(hX4 q h).le m5) (by omega) (hf4.le m5) hfe (fun O'' M6 m6 hA'' h0=>absurd (hA''.uniq hA▸hz) h0) (fun O'' M6 w2 m6 hA'' _ hw2=>Stop.mk ?_))))|(refine And.intro ?_ ?_;(try simp only[sxO]at *);omega)|fail)<;>(try simp (maxSteps:=1000000) only [hb0,faV,xo,xl,xs,fo,go2,wo,hasK_nil,↓hold_pre,awayP,runOps,regK,step1,newK,genR,appR,obl,buildR,Value.cells,closeK,keepH,outV,retK,ret1,retC,RetV,Option.getD,runD,stepD,afterK,undef,simprocAttr,sxB,↓sxD,sxE,sxTab]))
 have m6:Mem.le M5 M6:=m6
 rw[←hN]at hw2
 have w2o:=hw2.one
 have m46:=m5.trans m6
 have hx6:=hx4.le m46
 have xr:rowS M6 5 x=some (X.flatMap faC):=SlM.row hx6
 have hfl:(X.flatMap faC).map AV.ext=faF X:=rfl
 have lX:=faF_len X
 have hap:faF X++[.ext (.string (bs f.1)),.ext (.string (bs f.2.1)),.ext (.int .i64 f.2.2.1),.ext (.string (bs f.2.2.2.1)),.ext f.2.2.2.2.1]=faF (X++[f]):=by simp[faF,faC]
 refine Stop.go ?_
 (try with_reducible refine Fz.of ?_);(replace hb0:=true_and True);refine Go1.mk ?_;repeat' ((first|(with_reducible refine Go1.go ?_)|((with_reducible first|refine brv_mk ?_ ?_|refine gsplitD ?_ ?_|refine gsplitG ?_ ?_)<;>intro h<;>(try simp only[Bool.not_eq_true',Bool.not_eq_false']at h)<;>replace hb0:=h)|(((with_reducible refine isCall (f:=11) ?_);refine callA_nil (by kernel_rfl) ?_;refine (sameInts_ok w w2 _ _ (hw.le m6).nat hw2.nat (by rw[List.length_map];omega) (by rw[List.length_map];omega) (Stop.mk ?_))))|(refine And.intro ?_ ?_;(try simp only[sxO]at *);omega)|fail)<;>(try simp (maxSteps:=1000000) only [hb0,faV,e1,xo,xl,xs,fo,go2,wo,w2o,hasK_nil,↓hold_pre,awayP,runOps,regK,step1,newK,genR,appR,obl,buildR,Value.cells,closeK,keepH,outV,retK,ret1,retC,RetV,Option.getD,runD,stepD,afterK,undef,simprocAttr,sxB,↓sxD,sxE,sxTab]))
 have hao:=eq_true (faF_one hX4)
 have hs0:sgnE (X++[f]) dd=0:=sgnE_0 (fun q h=>by
  rcases List.mem_append.1 h with h|h
  ·exact (hf q h).1.noE (by decide)
  ·rw[List.mem_singleton.1 h];exact hfe) (by rw[List.length_append,List.length_singleton];omega) d1 d16
 have hXf:∀q∈X++[f],faOk M6 q:=fun q h=>by
  rcases List.mem_append.1 h with h|h
  ·exact (hX4 q h).le m46
  ·rw[List.mem_singleton.1 h];exact hf4.le m46
 refine Stop.go ?_
 (try with_reducible refine Fz.of ?_);(replace hb0:=true_and True);refine Go1.mk ?_;repeat' ((first|(with_reducible refine Go1.go ?_)|((with_reducible first|refine brv_mk ?_ ?_|refine gsplitD ?_ ?_|refine gsplitG ?_ ?_)<;>intro h<;>(try simp only[Bool.not_eq_true',Bool.not_eq_false']at h)<;>replace hb0:=h)|((with_reducible refine isCall (f:=7) ?_);refine callA ?_)|((with_reducible refine isCall0 (f:=7) ?_);refine callA0 ?_)|((with_reducible refine isCallS (f:=7) ?_);refine (gsplit_bor 111 _ _ (X++[f]) dd (by simp) hXf (by rw[List.length_append,List.length_singleton];omega) (fun he=>absurd hs0 he) (fun _ u3 M7 O3 m7 hG3 gV3=>Stop.mk ?_)))|((with_reducible refine isDraw [some 93,some 94,some 95,some 96,some 97,some 98,some 99,some 92,some 100,some 101,some 16,some 13] (by decide) ?_);refine draw_rule [(0,[]),(2,[]),(3,[]),(5,[2]),(1,[2,3,5]),(4,[5]),(6,[]),(7,[]),(8,[]),(9,[]),(10,[]),(11,[])] [[],[0],[],[2],[0,1,2,3],[],[0,1,2,3,4,5],[0,1,2,3,4,5,6],[0,1,2,3,4,5,6,7],[0,1,2,3,4,5,6,7],[0,1,2,3,4,5,6,7,8],[0,1,2,3,4,5,6,7,8,9,10]] [93,94,95,96,97,98,100,101,16] [] (by kernel_rfl) (by kernel_rfl) (by kernel_rfl) (by kernel_rfl) (by exact trivial) ?_)|(refine And.intro ?_ ?_;(try simp only[sxO]at *);omega)|fail)<;>(try simp (maxSteps:=1000000) only [hb0,faV,hao,xr,hfl,hap,lX,faF_ment,faF_kill,maxLen,xo,xl,xs,fo,go2,wo,w2o,hasK_nil,↓hold_pre,awayP,runOps,regK,step1,newK,genR,appR,obl,buildR,Value.cells,closeK,keepH,outV,retK,ret1,retC,RetV,Option.getD,runD,stepD,afterK,undef,simprocAttr,sxB,↓sxD,sxE,sxTab]))
 have m7:Mem.le M6 M7:=m7
 have u3o:=gV3.one
 obtain ⟨u3l,u3s⟩:=gV3.len
 obtain ⟨gl,gs⟩:=hG4.len
 have hTe:(X++[f]).map faB=X.map faB++[faB f]:=by rw[List.map_append];rfl
 have hG3':=hG3
 rw[hTe]at hG3'
 obtain ⟨law1,law2⟩:=find_law (hA.ok hsg0) hG3' rfl
 have hN':N=finN O2 (mlk (X.map faB) dd (keysB (faB f).1 (faB f).2 dd)) O2.length:=hN
 rw[←hN']at law1 law2
 have n64:=kO2.len
 have hTl:((X++[f]).map faB).length=X.length+1:=by simp
 have okO3:okO O3:=hG3.ok (fun q hq=>by
  obtain ⟨y,hy,rfl⟩:=List.mem_map.1 hq
  exact okB_fa (hXf y hy)) (by omega)
 have hm3:∀o∈O3,∀j∈o.2,j<X.length+1:=fun o ho j hj=>by
  obtain ⟨f3,_,e3⟩:=hG3
  rw[e3]at ho
  have:=mem_grpO o ho j hj
  omega
 have s1:IntKind.i64.wrap ((O2.length:Int)-(N.length:Int))=((O2.length-N.length:Nat):Int):=by rw[wrap_id (by omega) (by omega)];omega
 have s2:IntKind.i64.wrap (((O2.length-N.length:Nat):Int)+1)=(O3.length:Int):=by rw[wrap_id (by omega) (by omega)];omega
 have s3:decide ((O3.length:Int)=(O3.length:Int))=true:=by simp
 have wx:IntKind.i64.wrap ((X.length:Int)+1)=((X.length+1:Nat):Int):=by rw[wrap_id (by omega) (by omega)];omega
 clear hG3' hN' hG3 hz hA
 refine Stop.go ?_
 (try with_reducible refine Fz.of ?_);(replace hb0:=true_and True);refine Go1.mk ?_;repeat' ((first|(with_reducible refine Go1.go ?_)|((with_reducible first|refine brv_mk ?_ ?_|refine gsplitD ?_ ?_|refine gsplitG ?_ ?_)<;>intro h<;>(try simp only[Bool.not_eq_true',Bool.not_eq_false']at h)<;>replace hb0:=h)|(((with_reducible refine isCall (f:=13) ?_);refine callA_nil (by kernel_rfl) ?_;refine (together_ok u3 O3 (X.length+1) (by omega) gV3 okO3 hm3 (fun U M8 m8 hU=>Stop.mk ?_))))|(refine And.intro ?_ ?_;(try simp only[sxO]at *);omega)|fail)<;>(try simp (maxSteps:=1000000) only [hb0,s1,s2,s3,wx,faF_ment,faF_kill,xo,xl,xs,fo,go2,gl,gs,u3o,u3l,u3s,wo,wl,ws,w2o,hasK_nil,↓hold_pre,awayP,runOps,regK,step1,newK,genR,appR,obl,buildR,Value.cells,closeK,keepH,outV,retK,ret1,retC,RetV,Option.getD,runD,stepD,afterK,undef,simprocAttr,sxB,↓sxD,sxE,sxTab]))
 have m8:Mem.le M7 M8:=m8
 have Uo:U.oneCell'=true:=by obtain ⟨us,h⟩:=hU;exact one_sl h.out.sl
 have m48:=m46.trans (m7.trans m8)
 have m08:=(m02.trans m24).trans m48
 have hw8:=hw.le (m6.trans (m7.trans m8))
 obtain ⟨G,b1,b2,b3⟩:=hG4.le m48
 have hOl:O2.length=G.length:=by rw[←b3,List.length_map]
 have hOG:∀a (h:a<G.length),(O2[a]'(by omega)).2=G[a].l:=fun a h=>by simp only[←b3,List.getElem_map];rfl
 have gnn:=fun (a:Nat) (h:a<G.length)=>b1.nn h
 refine Stop.go ?_
 (try with_reducible refine Fz.of ?_);(replace hb0:=true_and True);refine Go1.mk ?_;repeat' ((first|(with_reducible refine Go1.go ?_)|((with_reducible first|refine brv_mk ?_ ?_|refine gsplitD ?_ ?_|refine gsplitG ?_ ?_)<;>intro h<;>(try simp only[Bool.not_eq_true',Bool.not_eq_false']at h)<;>replace hb0:=h)|(refine And.intro ?_ ?_;(try simp only[sxO]at *);omega)|fail)<;>(try simp (maxSteps:=1000000) only [hb0,faF_ment,faF_kill,xo,xl,xs,fo,go2,gl,gs,u3o,wo,wl,ws,w2o,Uo,hasK_nil,↓hold_pre,awayP,runOps,regK,step1,newK,genR,appR,obl,buildR,Value.cells,closeK,keepH,outV,retK,ret1,retC,RetV,Option.getD,runD,stepD,afterK,undef,simprocAttr,sxB,↓sxD,sxE,sxTab]))
 refine ⟨fun k z=>∃a,k=O2.length-a∧a≤O2.length∧z=fdL M8 g' x w U a,⟨O2.length,fdL M8 g' x w U 0,le_sub ⟨rfl,rfl,rfl,rfl,rfl,trivial⟩ trivial rfl rfl rfl (keepLt_of rfl),0,rfl,Nat.zero_le _,rfl⟩,?_⟩
 rintro k z ⟨a,rfl,ha,rfl⟩
 by_cases hlt:a<O2.length
 case neg=>
  have c1:decide ((a:Int)<(O2.length:Int))=false:=by rw[decide_eq_false_iff_not];omega
  (try with_reducible refine Fz.of ?_);(replace hb0:=true_and True);refine Go1.mk ?_;repeat' ((first|(with_reducible refine Go1.go ?_)|((with_reducible first|refine brv_mk ?_ ?_|refine gsplitD ?_ ?_|refine gsplitG ?_ ?_)<;>intro h<;>(try simp only[Bool.not_eq_true',Bool.not_eq_false']at h)<;>replace hb0:=h)|(((with_reducible refine isCall (f:=12) ?_);refine callA_nil (by kernel_rfl) ?_;refine (known27_ok (fun M9 m9=>Stop.mk ?_))))|(refine And.intro ?_ ?_;(try simp only[sxO]at *);omega)|fail)<;>(try simp (maxSteps:=1000000) only [hb0,fdL,c1,xo,xl,xs,go2,gl,gs,wo,Uo,hasK_nil,↓hold_pre,awayP,runOps,regK,step1,newK,genR,appR,obl,buildR,Value.cells,closeK,keepH,outV,retK,ret1,retC,RetV,Option.getD,runD,stepD,afterK,undef,simprocAttr,sxB,↓sxD,sxE,sxTab]))
  have m9:Mem.le M8 M9:=m9
  refine Stop.go ?_
  (try with_reducible refine Fz.of ?_);(replace hb0:=true_and True);refine Go1.mk ?_;repeat' ((first|(with_reducible refine Go1.go ?_)|((with_reducible first|refine brv_mk ?_ ?_|refine gsplitD ?_ ?_|refine gsplitG ?_ ?_)<;>intro h<;>(try simp only[Bool.not_eq_true',Bool.not_eq_false']at h)<;>replace hb0:=h)|(refine And.intro ?_ ?_;(try simp only[sxO]at *);omega)|fail)<;>(try simp (maxSteps:=1000000) only [hb0,hasK_nil,↓hold_pre,awayP,runOps,regK,step1,newK,genR,appR,obl,buildR,Value.cells,closeK,keepH,outV,retK,ret1,retC,RetV,Option.getD,runD,stepD,afterK,undef,simprocAttr,sxB,↓sxD,sxE,sxTab]))
  exact hK _ (m08.trans m9)
 have hlG:a<G.length:=by omega
 have c1:decide ((a:Int)<(O2.length:Int))=true:=by rw[decide_eq_true_eq];omega
 have z2:(0:Int)≤(a:Int):=by omega
 have z3:(a:Int)<(O2.length:Int):=by omega
 have wa:IntKind.i64.wrap ((a:Int)+1)=((a+1:Nat):Int):=by rw[wrap_id (by omega) (by omega)];omega
 have gn:=gnn a hlG
 have gp:=b1.pt hlG
 have gat:lookM Tryz.prog 22 M8 (addP (elemP g' 3 a) 2)=some G[a].u:=b1.atF (P:=Tryz.prog) (T:=22) (fun _=>rfl) tk22 tz22 hlG (o:=2) (v:=G[a].u) rfl
 have lm:IsL M8 natV G[a].u G[a].l:=(b2 _ (List.getElem_mem hlG)).2
 have lml:G[a].l.length≤64:=by rw[←hOG a hlG];exact (kO2.at_ _ (List.getElem_mem _)).2.1
 have hlaw:=law2 a hlt
 rw[hOG a hlG]at hlaw
 generalize G[a].u=m at *
 generalize G[a].l=ms at *
 have mo:=lm.one
 have ml:=lm.len
 have msl:=lm.sl
 (try with_reducible refine Fz.of ?_);(replace hb0:=true_and True);refine Go1.mk ?_;repeat' ((first|(with_reducible refine Go1.go ?_)|((with_reducible first|refine brv_mk ?_ ?_|refine gsplitD ?_ ?_|refine gsplitG ?_ ?_)<;>intro h<;>(try simp only[Bool.not_eq_true',Bool.not_eq_false']at h)<;>replace hb0:=h)|(refine And.intro ?_ ?_;(try simp only[sxO]at *);omega)|fail)<;>(try simp (maxSteps:=1000000) only [hb0,fdL,c1,z2,z3,gn,gp,gat,mo,ml,msl,xo,xl,xs,go2,gl,gs,wo,Uo,hasK_nil,↓hold_pre,awayP,runOps,regK,step1,newK,genR,appR,obl,buildR,Value.cells,closeK,keepH,outV,retK,ret1,retC,RetV,Option.getD,runD,stepD,afterK,undef,simprocAttr,sxB,↓sxD,sxE,sxTab]))
 refine ⟨fun k z=>∃i,k=ms.length-i∧i≤ms.length∧z=fdI M8 g' x w U m ms.length a i,⟨ms.length,fdI M8 g' x w U m ms.length a 0,le_sub ⟨rfl,rfl,rfl,rfl,rfl,rfl,rfl,rfl,trivial⟩ trivial rfl rfl rfl (keepLt_of rfl),0,rfl,Nat.zero_le _,rfl⟩,?_⟩
 rintro k z ⟨i,rfl,hi,rfl⟩
 by_cases him:i<ms.length
 case neg=>
  have c2:decide ((i:Int)<(ms.length:Int))=false:=by rw[decide_eq_false_iff_not];omega
  (try with_reducible refine Fz.of ?_);(replace hb0:=true_and True);refine Go1.mk ?_;repeat' ((first|(with_reducible refine Go1.go ?_)|((with_reducible first|refine brv_mk ?_ ?_|refine gsplitD ?_ ?_|refine gsplitG ?_ ?_)<;>intro h<;>(try simp only[Bool.not_eq_true',Bool.not_eq_false']at h)<;>replace hb0:=h)|(refine And.intro ?_ ?_;(try simp only[sxO]at *);omega)|fail)<;>(try simp (maxSteps:=1000000) only [hb0,fdI,c2,wa,mo,xo,xl,xs,go2,gl,gs,wo,Uo,hasK_nil,↓hold_pre,awayP,runOps,regK,step1,newK,genR,appR,obl,buildR,Value.cells,closeK,keepH,outV,retK,ret1,retC,RetV,Option.getD,runD,stepD,afterK,undef,simprocAttr,sxB,↓sxD,sxE,sxTab]))
  exact ⟨O2.length-(a+1),fdL M8 g' x w U (a+1),by omega,le_sub ⟨rfl,rfl,rfl,rfl,rfl,trivial⟩ trivial rfl rfl rfl (keepLt_of rfl),a+1,rfl,by omega,rfl⟩
 have c2:decide ((i:Int)<(ms.length:Int))=true:=by rw[decide_eq_true_eq];omega
 have v2:(0:Int)≤(i:Int):=by omega
 have v3:(i:Int)<(ms.length:Int):=by omega
 have wi:IntKind.i64.wrap ((i:Int)+1)=((i+1:Nat):Int):=by rw[wrap_id (by omega) (by omega)];omega
 have mn:=lm.nn him
 have pa:=lm.at (P:=Tryz.prog) (T:=3) tk3 tz3 him
 obtain ⟨hj1,hj2⟩:=hlaw _ (List.getElem_mem him)
 generalize ms[i]=j at *
 rw[List.length_map]at hj1 hj2
 obtain ⟨u1,u2,u3',_,r,w1,w2',w3,w4,w5,w6⟩:=mat_at (P:=Tryz.prog) (T1:=51) (T2:=4) hU tk51 tz51 tk4 tz4 (show j<X.length+1 by omega) (show X.length<X.length+1 by omega)
 rw[hj2]at w6
 have hci:(N.map fun (x:Nat)=>(x:Int)).contains (a:Int)=N.contains a:=contains_int
 have j2:(0:Int)≤(j:Int):=by omega
 have j3:(j:Int)<((X.length+1:Nat):Int):=by omega
 have x2:(0:Int)≤(X.length:Int):=by omega
 have x3:(X.length:Int)<((X.length+1:Nat):Int):=by omega
 cases hbb:N.contains a with
 | false=>
  rw[hbb]at w6 hci
  (try with_reducible refine Fz.of ?_);(replace hb0:=true_and True);refine Go1.mk ?_;repeat' ((first|(with_reducible refine Go1.go ?_)|((with_reducible first|refine brv_mk ?_ ?_|refine gsplitD ?_ ?_|refine gsplitG ?_ ?_)<;>intro h<;>(try simp only[Bool.not_eq_true',Bool.not_eq_false']at h)<;>replace hb0:=h)|(((with_reducible refine isCall0 (f:=14) ?_);refine callA0_nil (by kernel_rfl) ?_;refine (hasInt_ok w (N.map fun (x:Nat)=>(x:Int)) _ hw8.nat (by rw[List.length_map];omega) ?_)))|((with_reducible refine isDraw [some 136,some 137,some 138,some 139,some 140,some 141,some 142,some 143,some 144,some 145,some 146,some 147] (by decide) ?_);refine draw_rule [(0,[]),(1,[]),(2,[]),(3,[]),(4,[3]),(5,[3]),(6,[]),(7,[]),(8,[3,7]),(9,[3,7]),(10,[3,7]),(11,[])] [[],[],[0,1],[0,1,2],[],[4],[0,1,2,3,4,5],[0,1,2,3,4,5,6],[],[],[8,9],[0,1,2,3,4,5,6,7,8,9,10]] [136,137,138,139,140,141,142,143,144,145,146] [] (by kernel_rfl) (by kernel_rfl) (by kernel_rfl) (by kernel_rfl) (by exact trivial) ?_)|(refine And.intro ?_ ?_;(try simp only[sxO]at *);omega)|fail)<;>(try simp (maxSteps:=1000000) only [hb0,fdI,natV,hci,c2,v2,v3,pa,mn,j2,j3,x2,x3,u1,u2,u3',w1,w2',w3,w4,w5,w6,wi,mo,ml,msl,xo,xl,xs,go2,wo,wl,ws,Uo,hasK_nil,↓hold_pre,awayP,runOps,regK,step1,newK,genR,appR,obl,buildR,Value.cells,closeK,keepH,outV,retK,ret1,retC,RetV,Option.getD,runD,stepD,afterK,undef,simprocAttr,sxB,↓sxD,sxE,sxTab]))
  exact ⟨ms.length-(i+1),fdI M8 g' x w U m ms.length a (i+1),by omega,le_sub ⟨rfl,rfl,rfl,rfl,rfl,rfl,rfl,rfl,trivial⟩ trivial rfl rfl rfl (keepLt_of rfl),i+1,rfl,by omega,rfl⟩
 | true=>
  rw[hbb]at w6 hci
  (try with_reducible refine Fz.of ?_);(replace hb0:=true_and True);refine Go1.mk ?_;repeat' ((first|(with_reducible refine Go1.go ?_)|((with_reducible first|refine brv_mk ?_ ?_|refine gsplitD ?_ ?_|refine gsplitG ?_ ?_)<;>intro h<;>(try simp only[Bool.not_eq_true',Bool.not_eq_false']at h)<;>replace hb0:=h)|(((with_reducible refine isCall0 (f:=14) ?_);refine callA0_nil (by kernel_rfl) ?_;refine (hasInt_ok w (N.map fun (x:Nat)=>(x:Int)) _ hw8.nat (by rw[List.length_map];omega) ?_)))|((with_reducible refine isDraw [some 136,some 137,some 138,some 139,some 140,some 141,some 142,some 143,some 144,some 145,some 146,some 147] (by decide) ?_);refine draw_rule [(0,[]),(1,[]),(2,[]),(3,[]),(4,[3]),(5,[3]),(6,[]),(7,[]),(8,[3,7]),(9,[3,7]),(10,[3,7]),(11,[])] [[],[],[0,1],[0,1,2],[],[4],[0,1,2,3,4,5],[0,1,2,3,4,5,6],[],[],[8,9],[0,1,2,3,4,5,6,7,8,9,10]] [136,137,138,139,140,141,142,143,144,145,146] [] (by kernel_rfl) (by kernel_rfl) (by kernel_rfl) (by kernel_rfl) (by exact trivial) ?_)|(refine And.intro ?_ ?_;(try simp only[sxO]at *);omega)|fail)<;>(try simp (maxSteps:=1000000) only [hb0,fdI,natV,hci,c2,v2,v3,pa,mn,j2,j3,x2,x3,u1,u2,u3',w1,w2',w3,w4,w5,w6,wi,mo,ml,msl,xo,xl,xs,go2,wo,wl,ws,Uo,hasK_nil,↓hold_pre,awayP,runOps,regK,step1,newK,genR,appR,obl,buildR,Value.cells,closeK,keepH,outV,retK,ret1,retC,RetV,Option.getD,runD,stepD,afterK,undef,simprocAttr,sxB,↓sxD,sxE,sxTab]))
  exact ⟨ms.length-(i+1),fdI M8 g' x w U m ms.length a (i+1),by omega,le_sub ⟨rfl,rfl,rfl,rfl,rfl,rfl,rfl,rfl,trivial⟩ trivial rfl rfl rfl (keepLt_of rfl),i+1,rfl,by omega,rfl⟩
end
end Go.Proofs.YtoblkpomikokhaaGreat.Sx
