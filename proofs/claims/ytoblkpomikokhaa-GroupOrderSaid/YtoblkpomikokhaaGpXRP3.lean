/- Part 28 of the texts of this claim: a symbolic executor and contracts of functions. -/
import Derived.Test.YtoblkpomikokhaaGpXRP2
namespace Go.Proofs.Ytoblkpomikokhaa.Sx
open Go Go.RowKit
set_option linter.unusedVariables false
set_option linter.unusedSimpArgs false
set_option maxRecDepth 100000
set_option maxHeartbeats 8000000
attribute [local congr] fin_congr finG_congr stepG_congr step1_congr runOps_congr brv_congr obl_congr condK_congr LoopK_congr seqK_congr CutK_congr vc_congr DrawK_congr regK_congr CallK_congr AskK_congr newK_congr retC_congr ret1_congr retK_congr outV_congr closeK_congr genR_congr appR_congr finD_congr finGD_congr stepGD_congr stepD_congr CallK0_congr runD_congr okR_congr CallS_congr vcX_congr
attribute [local congr] Stop_congr
theorem GRF.move{M' M'' M3:Mem}{U:Value}{O:List GO}(h:GRF M' M'' U O)(h3:∀b,M' b=none→M3 b=M'' b):GRV M3 U O:=by
 obtain ⟨L,h1,h2,h4,h5⟩:=h
 exact ⟨L,SlM.move h1 h2 h3,fun g hg=>⟨(h4 g hg).1.1.move (h4 g hg).2.1 h3,(h4 g hg).1.2.move (h4 g hg).2.2 h3⟩,h5⟩
theorem isPt_add{v:Value}(o:Nat)(h:isPt v=true):isPt (addP v o)=true:=by
 unfold isPt at h
 split at h
 ·rfl
 ·cases h
theorem addP_addP{v:Value}(a b:Nat)(h:isPt v=true):addP (addP v a) b=addP v (a+b):=by
 unfold isPt at h
 split at h
 ·by_cases ha:a=0<;>by_cases hb:b=0<;>simp[addP,Addr.add,ha,hb,Nat.add_assoc]
 ·cases h
def kn1(v:Value):Fa:=([112],[116],0,[97,32,49],v,stkF [[102],[103]])
def kn2(v:Value):Fa:=([112],[116],0,[98],v,stkF [[102],[103]])
def kn3(v:Value):Fa:=([112],[116],0,[98],v,stkF [])
def knC:List Bst:=[[102,64,120,46,103,111],[103,64,120,46,103,111]]
def knT:List (Bst×List Bst):=[([97,32,35],knC),([98],knC),([98],[])]
theorem kn_T(a b c:Value):[kn1 a,kn2 b,kn3 c].map faB=knT:=by
 show [faB (kn1 (.bool true)),faB (kn2 (.bool true)),faB (kn3 (.bool true))]=knT
 decide +kernel
theorem kn_E2(a b c:Value):sgnE [kn1 a,kn2 b,kn3 c] 2=0:=by
 show sgnE [kn1 (.bool true),kn2 (.bool true),kn3 (.bool true)] 2=0
 decide +kernel
theorem kn_E3(a b c:Value):sgnE [kn1 a,kn2 b,kn3 c] 3=0:=by
 show sgnE [kn1 (.bool true),kn2 (.bool true),kn3 (.bool true)] 3=0
 decide +kernel
theorem lnk_iff{T:List (Bst×List Bst)}{d:Int}{i k:Nat}:lnkR T d i k↔lkB (sgK T d i) (sgK T d k)=true:=lkB_iff.symm
theorem kn_l2:Lab 3 (lnkR knT 2) fun _=>0:=by
 have h01:lnkR knT 2 0 1:=lnk_iff.2 (by decide +kernel)
 have h12:lnkR knT 2 1 2:=lnk_iff.2 (by decide +kernel)
 have c0:∀i,i<3→Conn (lnkR knT 2) 3 0 i:=fun i hi=>by
  match i,hi with
  | 0,_=>exact .refl (by decide)
  | 1,_=>exact .one (by decide) (by decide) h01
  | 2,_=>exact (Conn.one (by decide) (by decide) h01).trans (.one (by decide) (by decide) h12)
 exact ⟨fun i _=>Nat.zero_le _,fun _ _=>rfl,fun _ _ _ _ _=>rfl,fun i k hi hk _=>((c0 i hi).symm lnkR_symm).trans (c0 k hk)⟩
theorem kn_l3:Lab 3 (lnkR knT 3) fun i=>if i=0 then 0 else 1:=by
 have h12:lnkR knT 3 1 2:=lnk_iff.2 (by decide +kernel)
 have n01:¬lnkR knT 3 0 1:=fun h=>absurd (lnk_iff.1 h) (by decide +kernel)
 have n02:¬lnkR knT 3 0 2:=fun h=>absurd (lnk_iff.1 h) (by decide +kernel)
 refine ⟨fun i hi=>by split<;>omega,fun i hi=>by split<;>simp,fun i k hi hk hR=>?_,fun i k hi hk e=>?_⟩
 ·match i,k,hi,hk with
  | 0,0,_,_=>rfl
  | 0,1,_,_=>exact absurd hR n01
  | 0,2,_,_=>exact absurd hR n02
  | 1,0,_,_=>exact absurd (lnkR_symm _ _ hR) n01
  | 2,0,_,_=>exact absurd (lnkR_symm _ _ hR) n02
  | 1,1,_,_=>rfl
  | 1,2,_,_=>rfl
  | 2,1,_,_=>rfl
  | 2,2,_,_=>rfl
 ·match i,k,hi,hk,e with
  | 0,0,_,_,_=>exact .refl (by decide)
  | 1,1,_,_,_=>exact .refl (by decide)
  | 2,2,_,_,_=>exact .refl (by decide)
  | 1,2,_,_,_=>exact .one (by decide) (by decide) h12
  | 2,1,_,_,_=>exact .one (by decide) (by decide) (lnkR_symm _ _ h12)
def knO2:List GO:=[(([97,32,35],knC),[0,1,2])]
def knO3:List GO:=[(([97,32,35],knC),[0]),(([98],[]),[1,2])]
theorem kn_g2:GrpO knT 2 knO2:=⟨_,kn_l2,by decide +kernel⟩
theorem kn_g3:GrpO knT 3 knO3:=⟨_,kn_l3,by decide +kernel⟩
theorem knO3_ok:okO knO3:=⟨by decide,fun o ho=>by
 have:okB o.1.1 o.1.2∧o.2.length≤64∧o.1.2.length<1000000:=by
  rcases List.mem_cons.1 ho with rfl|ho
  ·exact ⟨⟨by decide,by decide,by decide⟩,by decide,by decide⟩
  ·rw[List.mem_singleton.1 ho];exact ⟨⟨by decide,by decide,by decide⟩,by decide,by decide⟩
 exact this⟩
section
variable {M:Mem}{K:AV→Hp→Mem→Prop}
theorem gsplit_bor(k n:Nat)(T:TypeId)(L:List Fa)(d:Int)(hn:n=L.length)(ho:∀f∈L,faOk M f)(hb:L.length<1000000)
  (hK1:sgnE L d≠0→∀M',Mem.le M M'→K (.ext (.tuple #[.slice none 0 0,.int .i64 (sgnE L d)])) [(k,T,faF L)] M')
  (hK2:sgnE L d=0→∀u' M' O,Mem.le M M'→GrpO (L.map faB) d O→GRV M' u' O→K (.ext (.tuple #[u',.int .i64 0])) [(k,T,faF L)] M') :
  CallS Try.prog 16 [.slo k 0 n 5,.ext (.int .i64 d)] [(k,T,faF L)] M [] K:=by
 refine CallS.bor ⟨⟨_,rfl⟩,trivial⟩ fun us M' hM hb'=>?_
 obtain ⟨v1,_,rfl,hv,_,_,rfl,rfl,rfl⟩:=hb'
 have g1:IsR M' 5 faC v1 L:=by
  have h:=hv T (L.flatMap faC) (by simp[lkH,faF]) (by rw[flat_len (z:=5) (fun _=>rfl)];omega)
  rw[List.drop_zero,List.take_of_length_le (by rw[flat_len (z:=5) (fun _=>rfl)];omega)]at h
  unfold IsR
  rw[←hn];exact h
 refine gsplit_ok v1 L d g1 (fun f hf=>⟨(ho f hf).1.le hM,(ho f hf).2⟩) hb (fun he M2 c1=>⟨fun j hj=>rfl,fun M3 h5 h6 _=>hK1 he M3 h5⟩) (fun he u' M2 O c1 c2 c3=>⟨fun j hj=>rfl,fun M3 h5 h6 _=>hK2 he u' M3 O h5 c2 (c3.move h6)⟩)
theorem known27_ok(hK:∀M',Mem.le M M'→K (.ext (.bool true)) [] M'):CallS Try.prog 9 [] [] M [] K:=by
 refine inlS (cs:=[]) Try.mixed Try.func9 rfl (by kernel_rfl) 0 rfl rfl ?_
 simp only[Try.f9]
 have n1:[AV.ext (.string (bs [102])),.ext (.string (bs [103]))]=cE sbV [[102],[103]]:=rfl
 refine Go1.mk ?_;repeat' ((first|(with_reducible refine Go1.go ?_)|((with_reducible refine isCall (f:=22) ?_);refine callA ?_)|((with_reducible refine isCallS (f:=22) ?_);refine (fail_bor [97,32,49] 6 2 _ [[102],[103]] rfl (by decide) (fun v1 M1 m1 g1=>Stop.mk ?_)))|(refine And.intro ?_ ?_;(try simp only[sxO]at *);omega)|fail)<;>(try simp (maxSteps:=1000000) only [n1,cE_ment,cE_kill,hasK_nil,bs_mk,bs_app,bs_ext,bs_size,bs_toList,bs_at,bs_cells,List.take_length,imp_ga,guard_pk,guard_pk2,↓hold_pre,awayP,runOps,regK,step1,newK,genR,appR,obl,buildR,Value.cells,closeK,keepH,outV,retK,ret1,retC,RetV,Option.getD,runD,stepD,afterK,undef,simprocAttr,sxB,↓sxD,sxE,sxTab]))
 have m1:Mem.le M M1:=m1
 have o1:=g1.one
 refine Stop.go ?_
 refine Go1.mk ?_;repeat' ((first|(with_reducible refine Go1.go ?_)|((with_reducible refine isCall (f:=22) ?_);refine callA ?_)|((with_reducible refine isCallS (f:=22) ?_);refine (fail_bor [98] 8 2 _ [[102],[103]] rfl (by decide) (fun v2 M2 m2 g2=>Stop.mk ?_)))|(refine And.intro ?_ ?_;(try simp only[sxO]at *);omega)|fail)<;>(try simp (maxSteps:=1000000) only [n1,faV,o1,cE_ment,cE_kill,hasK_nil,bs_mk,bs_app,bs_ext,bs_size,bs_toList,bs_at,bs_cells,List.take_length,imp_ga,guard_pk,guard_pk2,↓hold_pre,awayP,runOps,regK,step1,newK,genR,appR,obl,buildR,Value.cells,closeK,keepH,outV,retK,ret1,retC,RetV,Option.getD,runD,stepD,afterK,undef,simprocAttr,sxB,↓sxD,sxE,sxTab]))
 have m2:Mem.le M1 M2:=m2
 have o2:=g2.one
 refine Stop.go ?_
 refine Go1.mk ?_;repeat' ((first|(with_reducible refine Go1.go ?_)|(((with_reducible refine isCall (f:=22) ?_);refine callA_nil (by kernel_rfl) ?_;refine (fail_ok [98] (.slice none 0 0) [] (isL_nil _ _ _) (by decide) (fun v3 M3 m3 g3 _=>Stop.mk ?_))))|(refine And.intro ?_ ?_;(try simp only[sxO]at *);omega)|fail)<;>(try simp (maxSteps:=1000000) only [n1,faV,o1,o2,cE_ment,cE_kill,hasK_nil,bs_mk,bs_app,bs_ext,bs_size,bs_toList,bs_at,bs_cells,List.take_length,imp_ga,guard_pk,guard_pk2,↓hold_pre,awayP,runOps,regK,step1,newK,genR,appR,obl,buildR,Value.cells,closeK,keepH,outV,retK,ret1,retC,RetV,Option.getD,runD,stepD,afterK,undef,simprocAttr,sxB,↓sxD,sxE,sxTab]))
 have m3:Mem.le M2 M3:=m3
 have o3:=g3.one
 have n4:faF [kn1 v1,kn2 v2,kn3 v3]=[AV.ext (.string (bs [112])),.ext (.string (bs [116])),.ext (.int .i64 0),.ext (.string (bs [97,32,49])),.ext v1,.ext (.string (bs [112])),.ext (.string (bs [116])),.ext (.int .i64 0),.ext (.string (bs [98])),.ext v2,.ext (.string (bs [112])),.ext (.string (bs [116])),.ext (.int .i64 0),.ext (.string (bs [98])),.ext v3]:=rfl
 have ho:∀f∈[kn1 v1,kn2 v2,kn3 v3],faOk M3 f:=by
  have hc:∀L:List Bst,L=[[102],[103]]∨L=[]→∀c∈stkF L,clOk c:=by
   rintro L (rfl|rfl)
   ·intro c hc
    have h:∀c∈stkF [[102],[103]],c.1.length≤140737488351232∧c.2.1.length≤140737488351232:=by decide
    exact h c hc
   ·intro c hc;cases hc
  intro f hf
  rcases List.mem_cons.1 hf with rfl|hf
  ·exact ⟨(g1.le m2).le m3,by show (stkF [[102],[103]]).length<_;decide,by show ([97,32,49]:Bst).length<_;decide,hc _ (.inl rfl)⟩
  rcases List.mem_cons.1 hf with rfl|hf
  ·exact ⟨g2.le m3,by show (stkF [[102],[103]]).length<_;decide,by show ([98]:Bst).length<_;decide,hc _ (.inl rfl)⟩
  ·rw[List.mem_singleton.1 hf]
   exact ⟨g3,by show (stkF []).length<_;decide,by show ([98]:Bst).length<_;decide,hc _ (.inr rfl)⟩
 have e2:=kn_E2 v1 v2 v3
 have e3:=kn_E3 v1 v2 v3
 have eT:=kn_T v1 v2 v3
 refine Stop.go ?_
 refine Go1.mk ?_;repeat' ((first|(with_reducible refine Go1.go ?_)|((with_reducible refine isCall (f:=16) ?_);refine callA ?_)|((with_reducible refine isCallS (f:=16) ?_);refine (gsplit_bor 11 3 _ [kn1 v1,kn2 v2,kn3 v3] 2 rfl ho (by simp) (fun h=>absurd e2 h) (fun _ x2 M4 O2 m4 hO2 gO2=>Stop.mk ?_)))|(refine And.intro ?_ ?_;(try simp only[sxO]at *);omega)|fail)<;>(try simp (maxSteps:=1000000) only [n1,faV,o1,o2,o3,←n4,faF_ment,faF_kill,cE_ment,cE_kill,hasK_nil,bs_mk,bs_app,bs_ext,bs_size,bs_toList,bs_at,bs_cells,List.take_length,imp_ga,guard_pk,guard_pk2,↓hold_pre,awayP,runOps,regK,step1,newK,genR,appR,obl,buildR,Value.cells,closeK,keepH,outV,retK,ret1,retC,RetV,Option.getD,runD,stepD,afterK,undef,simprocAttr,sxB,↓sxD,sxE,sxTab]))
 have m4:Mem.le M3 M4:=m4
 rw[eT]at hO2
 obtain rfl:=hO2.uniq kn_g2
 refine Stop.go ?_
 obtain ⟨L2,b1,b2,b3⟩:=gO2
 have p1:=b1.one
 refine Go1.mk ?_;repeat' ((first|(with_reducible refine Go1.go ?_)|((with_reducible refine isCall (f:=16) ?_);refine callA ?_)|((with_reducible refine isCallS (f:=16) ?_);refine (gsplit_bor 11 3 _ [kn1 v1,kn2 v2,kn3 v3] 3 rfl (fun f hf=>⟨(ho f hf).1.le m4,(ho f hf).2⟩) (by simp) (fun h=>absurd e3 h) (fun _ x3 M5 O3 m5 hO3 gO3=>Stop.mk ?_)))|(refine And.intro ?_ ?_;(try simp only[sxO]at *);omega)|fail)<;>(try simp (maxSteps:=1000000) only [o1,o2,o3,p1,faF_ment,cE_ment,cE_kill,hasK_nil,bs_mk,bs_app,bs_ext,bs_size,bs_toList,bs_at,bs_cells,List.take_length,imp_ga,guard_pk,guard_pk2,↓hold_pre,awayP,runOps,regK,step1,newK,genR,appR,obl,buildR,Value.cells,closeK,keepH,outV,retK,ret1,retC,RetV,Option.getD,runD,stepD,afterK,undef,simprocAttr,sxB,↓sxD,sxE,sxTab]))
 have m5:Mem.le M4 M5:=m5
 rw[eT]at hO3
 obtain rfl:=hO3.uniq kn_g3
 have b1:=b1.le m5
 have hl2:L2.length=1:=by have:=congrArg List.length b3;simpa [knO2] using this
 have hz:0<L2.length:=by omega
 have p2:=b1.len
 have p3:=b1.sl
 have p4:=b1.nn hz
 have p5:=b1.pt hz
 rw[hl2]at p2
 have p8:=isPt_add 0 p5
 have p9:addP (addP (elemP x2 3 0) 0) 0=addP (elemP x2 3 0) 0:=addP_addP 0 0 p5
 have p6:lookM Try.prog 25 M5 (addP (elemP x2 3 0) 2)=some L2[0].u:=b1.atF (P:=Try.prog) (T:=25) (fun _=>rfl) tk25 tz25 hz (o:=2) (v:=L2[0].u) rfl
 have p7:lookM Try.prog 9 M5 (addP (elemP x2 3 0) 0)=some (.string (bs L2[0].m)):=b1.atF (P:=Try.prog) (T:=9) (fun _=>rfl) tk9 tz9 hz (o:=0) (v:=.string (bs L2[0].m)) rfl
 have hg:L2[0].o=(([97,32,35],knC),[0,1,2]):=by
  have h:(L2.map GX.o)[0]? = knO2[0]?:=by rw[b3]
  rw[List.getElem?_map,List.getElem?_eq_getElem hz]at h
  exact Option.some.inj h
 have hgl:L2[0].l=[0,1,2]:=congrArg Prod.snd hg
 have hgm:L2[0].m=[97,32,35]:=congrArg (fun x=>x.1.1) hg
 have q1:=(b2 _ (List.getElem_mem hz)).2.le m5
 have q2:=q1.one
 have q3:=q1.len
 have q4:=q1.sl
 rw[hgl]at q3
 rw[hgm]at p7
 have q3:slen L2[0].u=3:=q3
 clear hg hgl hgm
 generalize L2[0].u=gu at *
 have c1:x3.oneCell'=true:=by obtain ⟨_,h,_⟩:=gO3;exact h.one
 have hl3:slen x3=2∧isSl x3=true:=by
  obtain ⟨L3,h1,_,h3⟩:=gO3
  refine ⟨?_,h1.sl⟩
  rw[h1.len]
  have:=congrArg List.length h3;simpa [knO3] using this
 obtain ⟨c2,c3⟩:=hl3
 have elr:lrgO knO3=1:=by decide +kernel
 refine Stop.go ?_
 refine Go1.mk ?_;repeat' ((first|(with_reducible refine Go1.go ?_)|(((with_reducible refine isCall (f:=26) ?_);refine callA_nil (by kernel_rfl) ?_;refine (plargest_ok x3 knO3 gO3 knO3_ok (Stop.mk ?_))))|(refine And.intro ?_ ?_;(try simp only[sxO]at *);omega)|fail)<;>(try simp (maxSteps:=1000000) only [o1,o2,o3,p1,p2,p3,p4,p5,p6,p7,p8,p9,q2,q3,q4,c1,c2,c3,faF_ment,cE_ment,cE_kill,hasK_nil,bs_mk,bs_app,bs_ext,bs_size,bs_toList,bs_at,bs_cells,List.take_length,imp_ga,guard_pk,guard_pk2,↓hold_pre,awayP,runOps,regK,step1,newK,genR,appR,obl,buildR,Value.cells,closeK,keepH,outV,retK,ret1,retC,RetV,Option.getD,runD,stepD,afterK,undef,simprocAttr,sxB,↓sxD,sxE,sxTab]))
 rw[elr]
 refine Stop.go ?_
 refine Go1.mk ?_;repeat' ((first|(with_reducible refine Go1.go ?_)|(refine And.intro ?_ ?_;(try simp only[sxO]at *);omega)|fail)<;>(try simp (maxSteps:=1000000) only [hasK_nil,bs_mk,bs_app,bs_ext,bs_size,bs_toList,bs_at,bs_cells,List.take_length,imp_ga,guard_pk,guard_pk2,↓hold_pre,awayP,runOps,regK,step1,newK,genR,appR,obl,buildR,Value.cells,closeK,keepH,outV,retK,ret1,retC,RetV,Option.getD,runD,stepD,afterK,undef,simprocAttr,sxB,↓sxD,sxE,sxTab]))
 exact hK M5 (m1.trans (m2.trans (m3.trans (m4.trans m5))))
end
section
variable {M:Mem}{K:AV→Hp→Mem→Prop}
end
structure AnsG (L:List Fa) (d:Int) (O:List GO):Prop where
 ok:sgnE L d=0→GrpO (L.map faB) d O
 no:sgnE L d≠0→O=[]
theorem AnsG.uniq{L:List Fa}{d:Int}{O O':List GO}(h:AnsG L d O)(h':AnsG L d O'):O=O':=by
 by_cases he:sgnE L d=0
 ·exact (h.ok he).uniq (h'.ok he)
 ·rw[h.no he,h'.no he]
theorem sgnE_64{L:List Fa}{d:Int}(he:sgnE L d=0):L.length≤64:=by
 unfold sgnE at he
 split at he
 ·cases he
 ·split at he
  ·cases he
  ·split at he
   ·cases he
   ·omega
theorem GRV.nil(M:Mem):GRV M (.slice none 0 0) []:=⟨[],slM_nil _ _ _,(fun g hg=>by cases hg),rfl⟩
theorem faOk.le{M M':Mem}{f:Fa}(h:faOk M f)(hM:Mem.le M M'):faOk M' f:=⟨h.1.le hM,h.2⟩
section
variable {M:Mem}{K:AV→Hp→Mem→Prop}
def faA:Fa:=([112],[116],0,[97],.slice none 0 0,[])
end
theorem Cmp.le{α:Type}{c:α→α→Int}(h:Cmp c){a b d:α}(h1:c a b≤0)(h2:c b d≤0):c a d≤0:=by
 by_cases e1:c a b=0
 ·rw[(h.zero a b).1 e1];exact h2
 ·by_cases e2:c b d=0
  ·rw[←(h.zero b d).1 e2];exact h1
  ·have:=h.trans a b d (by omega) (by omega);omega
theorem Cmp.self{α:Type}{c:α→α→Int}(h:Cmp c)(a:α):c a a=0:=(h.zero a a).2 rfl
theorem fold_min{α:Type}{c:α→α→Int}(h:Cmp c)(g:Nat→α):∀(l:List Nat) (a:Nat),c (g (l.foldl (fun a j=>if decide (c (g j) (g a)<0)=true then j else a) a)) (g a)≤0∧∀x∈l,c (g (l.foldl (fun a j=>if decide (c (g j) (g a)<0)=true then j else a) a)) (g x)≤0
 | [],a=>⟨by rw[List.foldl_nil,h.self];exact Int.le_refl _,fun x hx=>by cases hx⟩
 | j :: l,a=>by
  rw[List.foldl_cons]
  obtain ⟨i1,i2⟩:=fold_min h g l (if decide (c (g j) (g a)<0)=true then j else a)
  have k1:c (g (if decide (c (g j) (g a)<0)=true then j else a)) (g a)≤0:=by
   by_cases e:c (g j) (g a)<0
   ·rw[if_pos (decide_eq_true e)];omega
   ·rw[if_neg (by simpa using e),h.self];exact Int.le_refl _
  have k2:c (g (if decide (c (g j) (g a)<0)=true then j else a)) (g j)≤0:=by
   by_cases e:c (g j) (g a)<0
   ·rw[if_pos (decide_eq_true e),h.self];exact Int.le_refl _
   ·rw[if_neg (by simpa using e),h.anti];omega
  refine ⟨h.le i1 k1,fun x hx=>?_⟩
  rcases List.mem_cons.1 hx with rfl|hx
  ·exact h.le i1 k2
  ·exact i2 x hx
section
variable {T:List (Bst×List Bst)}{f:Nat→Nat}{n r i j k:Nat}
theorem bestU_le:cmpG (T.getD (bestU (ltG T) f n r) ([],[])) (T.getD r ([],[]))≤0∧∀x∈memU f n r,cmpG (T.getD (bestU (ltG T) f n r) ([],[])) (T.getD x ([],[]))≤0:=
 fold_min cmp_G (fun j=>T.getD j ([],[])) (memU f n r) r
theorem grpO_len:(grpO T f).length=(rootsU f T.length).length:=by unfold grpO outU;rw[List.length_map,List.length_map]
theorem grpO_at(h:i<(rootsU f T.length).length):(grpO T f)[i]'(by rw[grpO_len];exact h)=(T.getD (bestU (ltG T) f T.length (rootsU f T.length)[i]) ([],[]),memU f T.length (rootsU f T.length)[i]):=by
 simp only[grpO,outU,List.getElem_map]
end
theorem firE_0:∀{L:List Fa},(∀f∈L,faE f=0)→firE L=0
 | [],_=>rfl
 | f :: L,h=>by
  simp only[firE]
  rw[h f List.mem_cons_self,if_pos rfl]
  exact firE_0 fun x hx=>h x (List.mem_cons_of_mem _ hx)
theorem sgnE_0{L:List Fa}{d:Int}(h:∀f∈L,faE f=0)(hl:L.length≤64)(h1:1≤d)(h2:d≤16):sgnE L d=0:=by
 unfold sgnE
 rw[if_neg (by omega),if_neg (by omega),if_neg (by omega)]
 exact firE_0 h
section
variable {M:Mem}{K:AV→Hp→Mem→Prop}
theorem dsplit_ok(u:Value)(L:List Fa)(d:Int)(hu:IsR M 5 faC u L)(ho:∀f∈L,faOk M f)(he:sgnE L d=0)(hK:∀u' M' f,Mem.le M M'→Lab L.length (lnkR (L.map faB) d) f→GRV M' u' (grpO (L.map faB) f)→K (.ext (.tuple #[u',.int .i64 0])) [] M'):CallS Try.prog 16 [.ext u,.ext (.int .i64 d)] [] M [] K:=
 gsplit_ok u L d hu ho (by have:=sgnE_64 he;omega) (fun h=>absurd he h) fun _ u' M1 O m1 h1 h2=>by
  obtain ⟨f,h3,rfl⟩:=h1
  rw[List.length_map]at h3
  exact hK u' M1 f m1 h3 h2.v
end
section
variable {b:Nat}{T T0:TypeId}{Ls:List (List Value)}{k i n O:Nat}
theorem le_famPut{s:St}(l:List Value)(E:Env)(R:Hp)(hi:i<Ls.length)(hl:Ls[i]=l)(hn:l.length=n)(hO:lkH s.hp O=some (T0,(famC b Ls).set i (.slo k 0 n 1)))
  (hk:lkH s.hp k=some (T,l.map .ext)) (hF:∀j (hj:j<Ls.length),j≠i→lkH s.hp (j+b)=some (T,Ls[j].map .ext)) (hkb:k<b) (hOb:O<b) (hOk:O≠k)
  (hE:subE E s.env) (hE1:hasK k (mentE E)=false) (hE2:ltB b (mentE E)=true) (hR:subHp R s.hp) (hR1:hasK k (mentH R)=false) (hR2:ltB b (mentH R)=true) (hR3:hasK O (keysH R)=false)
  (hfx:hasK k s.fx=false) (hfx2:ltB b s.fx=true) (hsb:s.kb≤b) (hkeep:keepLt s.kb ((O,T0,famC b Ls) :: famH b T Ls R) s.hp) :
  Le s {env:=E,hp:=(O,T0,famC b Ls) :: famH b T Ls R,M:=s.M,kb:=s.kb,fx:=s.fx,fr:=s.fr}:=fun c q ρ a w g=>by
 let ρ':Rho:=fun j=>if j=i+b then ρ k else ρ j
 have hne:∀j,j≠i+b→ρ j=ρ' j:=fun j h=>by simp only[ρ',if_neg h]
 have hself:ρ' (i+b)=ρ k:=by simp only[ρ',if_pos rfl]
 have hlt:∀j,j<b→ρ j=ρ' j:=fun j h=>hne j (by omega)
 have hsrc:∀j T' cs,lkH ((O,T0,famC b Ls) :: famH b T Ls R) j=some (T',cs)→(j=O∧T'=T0∧cs=famC b Ls)∨(j≠O∧∃q,∃hq:q<Ls.length,j=q+b∧T'=T∧cs=Ls[q].map .ext)∨(j≠O∧j<b∧j≠k∧lkH s.hp j=some (T',cs)∧(∀m∈mentL cs,m<b∧m≠k)):=fun j T' cs hj=>by
  simp only[lkH]at hj
  split at hj
  ·rename_i e;cases hj;exact .inl ⟨e.symm,rfl,rfl⟩
  ·rename_i e
   have e:j≠O:=fun h=>e h.symm
   by_cases hb:b≤j
   ·cases hq:Ls[j-b]? with
    | some l'=>
     obtain ⟨hq1,hq2⟩:=List.getElem?_eq_some_iff.1 hq
     unfold famH at hj
     rw[lkH_append,lkH_famB,if_pos hb,hq]at hj
     simp only[Option.map_some,Option.some.injEq,Prod.mk.injEq]at hj
     exact .inr (.inl ⟨e,j-b,hq1,by omega,hj.1.symm,by rw[←hj.2,hq2]⟩)
    | none=>
     unfold famH at hj
     rw[lkH_append,lkH_famB,if_pos hb,hq]at hj
     have:=ltB_no hR2 hb
     exact absurd (mentH_lk (T:=T') (cs:=cs) hj (.inl rfl)) this
   ·rw[lkH_fam (by omega)]at hj
    refine .inr (.inr ⟨e,by omega,fun h=>hasK_no.1 hR1 (mentH_lk (T:=T') (cs:=cs) hj (.inl h.symm)),subHp_lk hR j _ hj,fun m hm=>⟨?_,fun h=>hasK_no.1 hR1 (mentH_lk hj (.inr (h▸hm)))⟩⟩)
    exact Classical.byContradiction fun h=>ltB_no hR2 (show b≤m by omega) (mentH_lk hj (.inr hm))
 have hold:∀j x,lkH ((O,T0,famC b Ls) :: famH b T Ls R) j=some x→∃j0,ρ' j=ρ j0∧(lkH s.hp j0).isSome=true∧((j=i+b∧j0=k)∨(j≠i+b∧j≠k∧j0=j)):=fun j x hj=>by
  rcases hsrc j x.1 x.2 hj with ⟨rfl,_,_⟩|⟨_,q,hq,rfl,_,_⟩|⟨_,h1,h2,h3,_⟩
  ·exact ⟨j,(hlt j hOb).symm,by rw[hO];rfl,.inr ⟨by omega,hOk,rfl⟩⟩
  ·by_cases e:q=i
   ·subst e;exact ⟨k,hself,by rw[hk];rfl,.inl ⟨rfl,rfl⟩⟩
   ·exact ⟨q+b,(hne _ (by omega)).symm,by rw[hF q hq e];rfl,.inr ⟨by omega,by omega,rfl⟩⟩
  ·exact ⟨j,(hlt j h1).symm,by rw[h3];rfl,.inr ⟨by omega,h2,rfl⟩⟩
 refine ⟨ρ',{df:=g.df,sz:=g.sz,env:=fun t=>?_,hp:=fun j T' cs bb hj hb'=>?_,no:=fun j T' cs hj hb'=>?_,inj:=fun j j' bb bb' hj hj' hb1 hb2' e=>?_,os:=g.os,tape:=g.tape,output:=g.output,size:=g.size,block:=g.block,sub:=g.sub,le:=g.le,mf:=g.mf,fix:=fun j hj=>?_,fx:=fun j hj=>?_,kl:=g.kl,fr:=g.fr}⟩
 ·rcases subE_lk hE t with h|h
  ·show (lk E t).is ρ' _
   rw[h];trivial
  ·have h1:=g.env t
   rw[←h]at h1
   exact is_agree (fun j hj=>hlt j (Classical.byContradiction fun hc=>ltB_no hE2 (show b≤j by omega) (mentE_lk hj))) h1
 ·rcases hsrc j T' cs hj with ⟨rfl,rfl,rfl⟩|⟨_,q,hq,rfl,rfl,rfl⟩|⟨_,h1,h2,h3,h4⟩
  ·rw[←hlt _ hOb]at hb'
   obtain ⟨⟨arr,f1⟩,f2⟩:=g.hp j T' _ bb hO hb'
   refine ⟨⟨arr,f1.there,f1.size,by have:=f1.le;rwa[List.length_set]at this,fun q v hv=>?_⟩,f2⟩
   rw[famC_get?]at hv
   cases e:Ls[q]? with
   | none=>rw[e]at hv;cases hv
   | some l'=>
    rw[e]at hv
    simp only[Option.map_some,Option.some.injEq]at hv
    subst hv
    obtain ⟨hq,hq2⟩:=List.getElem?_eq_some_iff.1 e
    by_cases eq:q=i
    ·subst eq
     have h5:=f1.is q (.slo k 0 n 1) (by rw[List.getElem?_set,if_pos rfl,if_pos (by rw[famC_len];exact hq)])
     have h6:isSlo ρ k 0 n 1 (arr.getD q undef):=h5
     show isSlo ρ' (q+b) 0 l'.length 1 _
     unfold isSlo at h6 ⊢
     rw[hself]
     rw[show l'.length=n by rw[←hq2,hl,hn]]
     exact h6
    ·have h5:=f1.is q (.slo (q+b) 0 l'.length 1) (by rw[List.getElem?_set,if_neg (fun h=>eq h.symm),famC_get?,e];rfl)
     refine is_agree (fun m hm=>?_) h5
     have:m=q+b:=by simpa [AV.ment] using hm
     subst this
     exact hne _ (by omega)
  ·have hex:∀(l':List Value) m,m∈mentL (l'.map AV.ext)→False:=fun l' m hm=>by rw[mentL_ext]at hm;cases hm
   by_cases e:q=i
   ·subst e
    rw[hself]at hb'
    obtain ⟨⟨arr,f1⟩,f2⟩:=g.hp k _ _ bb hk hb'
    rw[hl]
    exact ⟨⟨arr,f1.there,f1.size,f1.le,fun p v hv=>is_agree (fun m hm=>(hex l m (mentL_get hv hm)).elim) (f1.is p v hv)⟩,f2⟩
   ·rw[←hne _ (by omega)]at hb'
    obtain ⟨⟨arr,f1⟩,f2⟩:=g.hp _ _ _ bb (hF q hq e) hb'
    exact ⟨⟨arr,f1.there,f1.size,f1.le,fun p v hv=>is_agree (fun m hm=>(hex _ m (mentL_get hv hm)).elim) (f1.is p v hv)⟩,f2⟩
  ·rw[←hlt j h1]at hb'
   obtain ⟨⟨arr,f1⟩,f2⟩:=g.hp j T' cs bb h3 hb'
   exact ⟨⟨arr,f1.there,f1.size,f1.le,fun p v hv=>is_agree (fun m hm=>hlt m (h4 m (mentL_get hv hm)).1) (f1.is p v hv)⟩,f2⟩
 ·rcases hsrc j T' cs hj with ⟨rfl,rfl,rfl⟩|⟨_,q,hq,rfl,rfl,rfl⟩|⟨_,h1,h2,h3,h4⟩
  ·rw[←hlt _ hOb]at hb'
   have:=g.no j _ _ hO hb'
   have h5:((famC b Ls).set i (.slo k 0 n 1)).length=0:=by rw[this];rfl
   rw[List.length_set]at h5
   exact List.eq_nil_of_length_eq_zero h5
  ·by_cases e:q=i
   ·subst e
    rw[hself]at hb'
    rw[hl]
    exact g.no k _ _ hk hb'
   ·rw[←hne _ (by omega)]at hb'
    exact g.no _ _ _ (hF q hq e) hb'
  ·rw[←hlt j h1]at hb'
   exact g.no j T' cs h3 hb'
 ·obtain ⟨x,hx⟩:=Option.isSome_iff_exists.1 hj
  obtain ⟨x',hx'⟩:=Option.isSome_iff_exists.1 hj'
  obtain ⟨j0,p1,p2,p3⟩:=hold j x hx
  obtain ⟨j1,q1,q2,q3⟩:=hold j' x' hx'
  rw[p1]at hb1
  rw[q1]at hb2'
  have h0:=g.inj j0 j1 bb bb' p2 q2 hb1 hb2' e
  omega
 ·exact keepLt_ok hkeep j (g.kl j hj) (g.fix j hj)
 ·rw[←hlt j (Classical.byContradiction fun h=>ltB_no hfx2 (show b≤j by omega) hj)]
  exact g.fx j hj
theorem famC_setset(x:AV)(l:List Value):(famC b Ls).set i x=(famC b (Ls.set i l)).set i x:=by
 refine List.ext_getElem? fun q=>?_
 rw[List.getElem?_set,List.getElem?_set,famC_len,famC_len,List.length_set,famC_get?,famC_get?,List.getElem?_set]
 by_cases e:i=q
 ·rw[if_pos e,if_pos e]
 ·rw[if_neg e,if_neg e,if_neg e]
theorem le_famSet{s:St}(l:List Value)(E:Env)(R:Hp)(hi:i<Ls.length)(hn:l.length=n)(hO:lkH s.hp O=some (T0,(famC b Ls).set i (.slo k 0 n 1)))
  (hk:lkH s.hp k=some (T,l.map .ext)) (hF:∀j (hj:j<Ls.length),lkH s.hp (j+b)=some (T,Ls[j].map .ext)) (hkb:k<b) (hOb:O<b) (hOk:O≠k)
  (hE:subE E s.env) (hE1:hasK k (mentE E)=false) (hE2:ltB b (mentE E)=true) (hR:subHp R s.hp) (hR1:hasK k (mentH R)=false) (hR2:ltB b (mentH R)=true) (hR3:hasK O (keysH R)=false)
  (hfx:hasK k s.fx=false) (hfx2:ltB b s.fx=true) (hsb:s.kb≤b) (hkeep:keepLt s.kb ((O,T0,famC b (Ls.set i l)) :: famH b T (Ls.set i l) R) s.hp) :
  Le s {env:=E,hp:=(O,T0,famC b (Ls.set i l)) :: famH b T (Ls.set i l) R,M:=s.M,kb:=s.kb,fx:=s.fx,fr:=s.fr}:=by
 refine le_famPut (i:=i) (k:=k) (n:=n) l E R (by rw[List.length_set];exact hi) (by rw[List.getElem_set_self]) hn (by rw[←famC_setset];exact hO) hk (fun j hj hne=>?_) hkb hOb hOk hE hE1 hE2 hR hR1 hR2 hR3 hfx hfx2 hsb hkeep
 rw[List.length_set]at hj
 rw[hF j hj,List.getElem_set_ne (fun h=>hne h.symm)]
theorem lk_famI{x:TypeId×List AV}(hO:O<b)(hi:i<Ls.length):lkH ((O,x) :: famH b T Ls []) (i+b)=some (T,Ls[i].map .ext):=by
 simp only[lkH]
 rw[if_neg (by omega)]
 exact lkH_famI hi
theorem lk_famC{x:TypeId×List AV}(hOb:O<b):∀k y,lkH ((O,x) :: famH b T Ls []) k=some y→(k=O∧y=x)∨∃i,∃hi:i<Ls.length,k=i+b∧y=(T,Ls[i].map .ext):=fun k y h=>by
 simp only[lkH]at h
 split at h
 ·rename_i e;cases h;exact .inl ⟨e.symm,rfl⟩
 ·right
  unfold famH at h
  rw[List.append_nil,lkH_famB]at h
  split at h
  ·rename_i hb
   cases hq:Ls[k-b]? with
   | none=>rw[hq]at h;cases h
   | some l=>
    rw[hq]at h
    obtain ⟨h1,h2⟩:=List.getElem?_eq_some_iff.1 hq
    simp only[Option.map_some,Option.some.injEq]at h
    exact ⟨k-b,h1,by omega,h2▸h.symm⟩
  ·cases h
theorem Fz.fam{z:St}{B:St→Prop}(t m:Nat)(E:Env)(R:Hp)(hm:m=Ls.length)(ht:lk z.env t=.slo O 0 m 1)(hO:lkH z.hp O=some (T0,famC b Ls))(hF:∀i (hi:i<Ls.length),lkH z.hp (i+b)=some (T,Ls[i].map .ext))(hOb:O<b)(hkO:z.kb≤O)
  (hE:subE E z.env) (hE1:hasK O (mentE E)=false) (hE2:ltB b (mentE E)=true) (hR:subHp R z.hp) (hR1:hasK O (mentH R)=false) (hR2:ltB b (mentH R)=true) (hkeep:keepLt z.kb R z.hp) (hfx:∀k,k<z.kb→(lkH z.hp k).isSome=true→k∈z.fx)
  (h:∀M' U,Mem.le z.M M'→LLF z.M M' U Ls→B {env:=(t,.ext U) :: E,hp:=R,M:=M',kb:=z.kb,fx:=z.fx,fr:=z.fr}):Fz z B:=by
 have hk:∀k,(lkH ((O,T0,famC b Ls) :: famH b T Ls []) k).isSome=true→k=O∨b≤k:=fun k hk=>by
  obtain ⟨y,hy⟩:=Option.isSome_iff_exists.1 hk
  rcases lk_famC hOb k y hy with ⟨rfl,_⟩|⟨i,hi,rfl,_⟩
  ·exact .inl rfl
  ·exact .inr (by omega)
 refine Fz.frz ((O,T0,famC b Ls) :: famH b T Ls []) [t] E R (closed_fam hOb) (fun k x hx=>?_) hE (fun k h1 h2=>?_) hR (fun k h1 h2=>?_) hkeep hfx (fun M' ρ w us hM hh hu=>?_)
 ·rcases lk_famC hOb k x hx with ⟨rfl,rfl⟩|⟨i,hi,rfl,rfl⟩
  ·exact ⟨hO,hkO⟩
  ·exact ⟨hF i hi,by omega⟩
 ·rcases hk k h1 with rfl|h3
  ·exact hasK_no.1 hE1 h2
  ·exact ltB_no hE2 h3 h2
 ·rcases hk k h1 with rfl|h3
  ·exact hasK_no.1 hR1 h2
  ·exact ltB_no hR2 h3 h2
 ·have h1:=hu t
  rw[ht]at h1
  have h2:=borO_is hh (closed_fam hOb) _ _ (fun j hj=>by
   have:j=O:=by simpa [AV.ment] using hj
   subst this
   simp[lkH]) h1
  exact h M' (us t) hM (h2.fam (b:=b) (T0:=T0) (T:=T) (by simp[lkH]) hm fun i hi=>lk_famI hOb hi)
end
def rowF(n:Nat)(G:Nat→Bool):List Value:=(List.range n).map fun b=>.bool (G b)
def matF(n:Nat)(F:Nat→Nat→Bool):List (List Value):=(List.range n).map fun a=>rowF n (F a)
section
variable {n a b:Nat}{F F':Nat→Nat→Bool}{G G':Nat→Bool}
theorem rowF_len:(rowF n G).length=n:=by simp[rowF]
theorem matF_len:(matF n F).length=n:=by simp[matF]
theorem rowF_at(h:b<n):(rowF n G)[b]'(by rw[rowF_len];exact h)=.bool (G b):=by simp[rowF]
theorem matF_at(h:a<n):(matF n F)[a]'(by rw[matF_len];exact h)=rowF n (F a):=by simp[matF]
theorem rowF_congr(h:∀b,b<n→G b=G' b):rowF n G=rowF n G':=by
 unfold rowF
 exact List.map_congr_left fun b hb=>by rw[h b (List.mem_range.1 hb)]
theorem rowF_set(h:b<n):(rowF n G).set b (.bool true)=rowF n fun b'=>G b' || b'==b:=by
 apply List.ext_getElem
 ·simp[rowF]
 ·intro j h1 h2
  have hj:j<n:=by rw[rowF_len]at h2;exact h2
  rw[List.getElem_set]
  by_cases e:b=j
  ·rw[if_pos e,rowF_at hj];simp[e]
  ·rw[if_neg e,rowF_at hj,rowF_at hj]
   have:(j==b)=false:=by simp;exact fun h=>e h.symm
   rw[this,Bool.or_false]
theorem matF_set(h:a<n):(matF n F).set a (rowF n fun b'=>F a b' || b'==b)=matF n fun a' b'=>F a' b' || (a'==a&&b'==b):=by
 apply List.ext_getElem
 ·simp[matF]
 ·intro j h1 h2
  have hj:j<n:=by rw[matF_len]at h2;exact h2
  rw[List.getElem_set]
  by_cases e:a=j
  ·subst e
   rw[if_pos rfl,matF_at hj]
   exact rowF_congr fun b' _=>by simp
  ·rw[if_neg e,matF_at hj,matF_at hj]
   have:(j==a)=false:=by simp;exact fun h=>e h.symm
   exact rowF_congr fun b' _=>by rw[this];simp
theorem rowF_no:List.replicate n (.bool false)=rowF n fun _=>false:=by
 apply List.ext_getElem
 ·simp[rowF]
 ·intro j h1 h2
  rw[rowF_at (by rw[rowF_len]at h2;exact h2)];simp
theorem famC_mat{k:Nat}:famC k (matF n F)=famC k (matF n F'):=by
 apply List.ext_getElem?
 intro j
 rw[famC_get?,famC_get?]
 by_cases h:j<n
 ·rw[List.getElem?_eq_getElem (by rw[matF_len];exact h),List.getElem?_eq_getElem (by rw[matF_len];exact h),Option.map_some,Option.map_some,matF_at h,matF_at h,rowF_len,rowF_len]
 ·rw[List.getElem?_eq_none (by rw[matF_len];omega),List.getElem?_eq_none (by rw[matF_len];omega)]
end
theorem upH_famB{T:TypeId}{l:List Value}:∀(Ls:List (List Value)) (b i:Nat),i<Ls.length→upH (famB b T Ls) (i+b) (l.map .ext)=famB b T (Ls.set i l)
 | [],b,i,h=>absurd h (Nat.not_lt_zero _)
 | x :: Ls,b,0,_=>by
  rw[famB_cons,List.set_cons_zero,famB_cons]
  simp[upH]
 | x :: Ls,b,i+1,h=>by
  rw[famB_cons,List.set_cons_succ,famB_cons]
  have:=upH_famB (T:=T) (l:=l) Ls (b+1) i (Nat.lt_of_succ_lt_succ h)
  rw[show i+(b+1)=i+1+b by omega]at this
  simp only[upH]
  rw[if_neg (by omega),this]
theorem upH_famI{T:TypeId}{l:List Value}{Ls:List (List Value)}{b i:Nat}(h:i<Ls.length):upH (famH b T Ls []) (i+b) (l.map .ext)=famH b T (Ls.set i l) []:=by
 unfold famH
 rw[List.append_nil,List.append_nil,upH_famB Ls b i h]
def togO(O:List GO)(a b:Nat):Bool:=O.any fun o=>o.2.contains a&&o.2.contains b
theorem togO_take{O:List GO}{i:Nat}(h:i<O.length)(a b:Nat):togO (O.take (i+1)) a b=(togO (O.take i) a b || (O[i].2.contains a&&O[i].2.contains b)):=by
 unfold togO
 rw[List.take_succ_eq_append_getElem h,List.any_append];simp
theorem contains_take_succ{l:List Nat}{q x:Nat}(hq:q<l.length):(l.take (q+1)).contains x=((l.take q).contains x || (x==l[q])):=by
 rw[List.take_succ_eq_append_getElem hq,Bool.eq_iff_iff]
 simp only[List.contains_iff_mem,List.mem_append,List.mem_singleton,Bool.or_eq_true,beq_iff_eq]
theorem repN_nil(n:Nat):(repN [.slice none 0 0] n).map AV.ext=List.replicate n (.ext (.slice none 0 0)):=by
 induction n with
 | zero=>rfl
 | succ n ih=>simp only[repN,List.map_append,ih,List.replicate_succ];rfl
theorem mentL_rep(n:Nat)(v:Value):mentL (List.replicate n (.ext v))=[]:=by
 induction n with
 | zero=>rfl
 | succ n ih=>simp only[List.replicate_succ,mentL,AV.ment,ih,List.append_nil]
section
variable {M:Mem}{K:AV→Hp→Mem→Prop}
def tgA(M:Mem)(g:Value)(n i:Nat)(Ls:List (List Value)):St:={env:=[(6,.ext (.int .i64 (i:Int))),(5,.slo 13 0 n 1),(0,.ext g),(1,.ext (.int .i64 (n:Int)))],hp:=(13,48,famC 1000 Ls) :: famH 1000 4 Ls [],M:=M,kb:=0,fx:=[]}
def tgB(M:Mem)(g:Value)(n i:Nat)(F:Nat→Nat→Bool):St:={env:=[(7,.ext (.int .i64 (i:Int))),(5,.slo 13 0 n 1),(0,.ext g),(1,.ext (.int .i64 (n:Int)))],hp:=(13,48,famC 1000 (matF n F)) :: famH 1000 4 (matF n F) [],M:=M,kb:=0,fx:=[]}
def tgC(M:Mem)(g m:Value)(n i w p:Nat)(F:Nat→Nat→Bool):St:={env:=[(36,.ext (.int .i64 (p:Int))),(35,.ext (.int .i64 (w:Int))),(34,.ext m),(7,.ext (.int .i64 (i:Int))),(5,.slo 13 0 n 1),(0,.ext g),(1,.ext (.int .i64 (n:Int)))],hp:=(13,48,famC 1000 (matF n F)) :: famH 1000 4 (matF n F) [],M:=M,kb:=0,fx:=[]}
def tgD(M:Mem)(g m:Value)(n i w p q a:Nat)(F:Nat→Nat→Bool):St:={env:=[(46,.ext (.int .i64 (q:Int))),(45,.ext (.int .i64 (w:Int))),(44,.ext m),(9,.ext (.int .i64 (a:Int))),(36,.ext (.int .i64 (p:Int))),(35,.ext (.int .i64 (w:Int))),(34,.ext m),(7,.ext (.int .i64 (i:Int))),(5,.slo 13 0 n 1),(0,.ext g),(1,.ext (.int .i64 (n:Int)))],hp:=(13,48,famC 1000 (matF n F)) :: famH 1000 4 (matF n F) [],M:=M,kb:=0,fx:=[]}
theorem together_ok(g:Value)(O:List GO)(n:Nat)(hn:n≤100)(hg:GRV M g O)(hO:okO O)(hm:∀o∈O,∀j∈o.2,j<n)(hK:∀U M',Mem.le M M'→LL M' U (matF n (togO O))→K (.ext U) [] M'):CallS Try.prog 19 [.ext g,.ext (.int .i64 (n:Int))] [] M [] K:=by
 obtain ⟨L,g1,g2,g3⟩:=hg
 refine inlS (cs:=[19]) Try.mixed Try.func19 rfl (by kernel_rfl) 0 rfl rfl ?_
 simp only[Try.f19]
 have go:=g1.one
 have gl:=g1.len
 have gs:=g1.sl
 have hL:O.length=L.length:=by rw[←g3,List.length_map]
 have hn64:=hO.len
 have n0:(0:Int)≤(n:Int):=by omega
 have nT:((n:Int)).toNat=n:=by omega
 have t2:=repN_nil n
 have hz:(repN [.bool false] n).map AV.ext=(rowF n fun _=>false).map AV.ext:=by
  rw[←rowF_no,cE_rep Value.bool n false]
  simp[cE]
 (try with_reducible refine Fz.of ?_);(replace hb0:=true_and True);refine Go1.mk ?_;repeat' ((first|(with_reducible refine Go1.go ?_)|((with_reducible first|refine brv_mk ?_ ?_|refine gsplitD ?_ ?_|refine gsplitG ?_ ?_)<;>intro h<;>(try simp only[Bool.not_eq_true',Bool.not_eq_false']at h)<;>replace hb0:=h)|(refine And.intro ?_ ?_;(try simp only[sxO]at *);omega)|fail)<;>(try simp (maxSteps:=1000000) only [hb0,go,gl,gs,n0,nT,t2,maxLen,mentL_rep,hasK_nil,↓hold_pre,awayP,runOps,regK,step1,newK,genR,appR,obl,buildR,Value.cells,closeK,keepH,outV,retK,ret1,retC,RetV,Option.getD,runD,stepD,afterK,undef,simprocAttr,sxB,↓sxD,sxE,sxTab]))
 refine ⟨fun d z=>∃i Ls,d=n-i∧i≤n∧Ls.length=n∧(∀j,j<i→Ls[j]? = some (rowF n fun _=>false))∧z=tgA M g n i Ls,⟨n,tgA M g n 0 (List.replicate n []),(le_fam (O:=13) (b:=1000) (n:=n) 4 (T0:=48) (by simp[lkH]) (by simp[ltB,mentE,AV.ment]) (by simp[ltB,mentH,mentL,AV.ment,mentL_rep]) (by simp[ltB]) (by simp)).trans (le_sub ⟨rfl,rfl,rfl,rfl,trivial⟩ ⟨by rw[lkH_fam (by omega)];simp[lkH,upH],subHp_fam (fun i hi=>lkH_famI hi) trivial⟩ rfl rfl rfl (keepLt0 _)),⟨0,_,by omega,by omega,List.length_replicate,fun j hj=>absurd hj (by omega),rfl⟩⟩,?_⟩
 rintro d z ⟨i,Ls,rfl,hi,hLs,hLi,rfl⟩
 have fl:=famC_len (b:=1000) (Ls:=Ls)
 rw[hLs]at fl
 by_cases hlt:i<n
 ·have d1:decide ((i:Int)<(n:Int))=true:=by rw[decide_eq_true_eq];omega
  have b1:(0:Int)≤(i:Int):=by omega
  have b2:(i:Int)<(n:Int):=by omega
  have wi:IntKind.i64.wrap ((i:Int)+1)=((i+1:Nat):Int):=by rw[wrap_id (by omega) (by omega)];omega
  have f1:hasK 22 (mentL (famC 1000 Ls))=false:=famC_ment Ls 1000 (by omega)
  have f2:hasK 22 (mentH (famH 1000 4 Ls []))=false:=by rw[hasK_fam (by omega)];rfl
  (try with_reducible refine Fz.of ?_);(replace hb0:=true_and True);refine Go1.mk ?_;repeat' ((first|(with_reducible refine Go1.go ?_)|((with_reducible first|refine brv_mk ?_ ?_|refine gsplitD ?_ ?_|refine gsplitG ?_ ?_)<;>intro h<;>(try simp only[Bool.not_eq_true',Bool.not_eq_false']at h)<;>replace hb0:=h)|(refine And.intro ?_ ?_;(try simp only[sxO]at *);omega)|fail)<;>(try simp (maxSteps:=1000000) only [hb0,tgA,d1,b1,b2,wi,fl,f1,f2,hlt,go,n0,nT,hz,maxLen,hasK_app,hasK_nil,Nat.mul_one,Nat.zero_add,↓hold_pre,awayP,runOps,regK,step1,newK,genR,appR,obl,buildR,Value.cells,closeK,keepH,outV,retK,ret1,retC,RetV,Option.getD,runD,stepD,afterK,undef,simprocAttr,sxB,↓sxD,sxE,sxTab]))
  refine ⟨n-(i+1),tgA M g n (i+1) (Ls.set i (rowF n fun _=>false)),by omega,le_famSet (O:=13) (k:=22) (b:=1000) (n:=n) (rowF n fun _=>false) _ [] (by omega) rowF_len (by simp[lkH]) (by simp[lkH]) (fun j hj=>?_) (by omega) (by omega) (by omega) ⟨rfl,rfl,rfl,rfl,trivial⟩ (by simp[mentE,AV.ment,hasK]) (by simp[mentE,AV.ment,ltB]) trivial rfl rfl rfl rfl rfl (Nat.zero_le _) (keepLt0 _),i+1,_,rfl,by omega,by rw[List.length_set,hLs],fun j hj=>?_,rfl⟩
  ·simp only[lkH]
   rw[if_neg (by omega),if_neg (by omega)]
   exact lkH_famI hj
  ·rw[List.getElem?_set]
   by_cases e:i=j
   ·rw[if_pos e,if_pos (by omega)]
   ·rw[if_neg e];exact hLi j (by omega)
 obtain rfl:n=i:=by omega
 have hLe:Ls=matF n fun _ _=>false:=by
  apply List.ext_getElem?
  intro j
  by_cases h:j<n
  ·rw[hLi j h,List.getElem?_eq_getElem (by rw[matF_len];exact h),matF_at h]
  ·rw[List.getElem?_eq_none (by omega),List.getElem?_eq_none (by rw[matF_len];omega)]
 subst hLe
 have d1:decide ((n:Int)<(n:Int))=false:=by simp
 (try with_reducible refine Fz.of ?_);(replace hb0:=true_and True);refine Go1.mk ?_;repeat' ((first|(with_reducible refine Go1.go ?_)|((with_reducible first|refine brv_mk ?_ ?_|refine gsplitD ?_ ?_|refine gsplitG ?_ ?_)<;>intro h<;>(try simp only[Bool.not_eq_true',Bool.not_eq_false']at h)<;>replace hb0:=h)|(refine And.intro ?_ ?_;(try simp only[sxO]at *);omega)|fail)<;>(try simp (maxSteps:=1000000) only [hb0,tgA,d1,fl,go,n0,hasK_app,hasK_nil,Nat.mul_one,Nat.zero_add,↓hold_pre,awayP,runOps,regK,step1,newK,genR,appR,obl,buildR,Value.cells,closeK,keepH,outV,retK,ret1,retC,RetV,Option.getD,runD,stepD,afterK,undef,simprocAttr,sxB,↓sxD,sxE,sxTab]))
 refine ⟨fun z=>z=tgB M g n L.length (togO O),?_,?_⟩
 ·(try with_reducible refine Fz.of ?_);(replace hb0:=true_and True);refine Go1.mk ?_;repeat' ((first|(with_reducible refine Go1.go ?_)|((with_reducible first|refine brv_mk ?_ ?_|refine gsplitD ?_ ?_|refine gsplitG ?_ ?_)<;>intro h<;>(try simp only[Bool.not_eq_true',Bool.not_eq_false']at h)<;>replace hb0:=h)|(refine And.intro ?_ ?_;(try simp only[sxO]at *);omega)|fail)<;>(try simp (maxSteps:=1000000) only [hb0,go,gl,gs,hasK_app,hasK_nil,↓hold_pre,awayP,runOps,regK,step1,newK,genR,appR,obl,buildR,Value.cells,closeK,keepH,outV,retK,ret1,retC,RetV,Option.getD,runD,stepD,afterK,undef,simprocAttr,sxB,↓sxD,sxE,sxTab]))
  refine ⟨fun k z=>∃i,k=L.length-i∧i≤L.length∧z=tgB M g n i (togO (O.take i)),⟨L.length,tgB M g n 0 (togO (O.take 0)),le_sub ⟨rfl,rfl,rfl,rfl,trivial⟩ ⟨rfl,subHp_fam (fun j hj=>by simp only[lkH];exact lkH_famI hj) trivial⟩ rfl rfl rfl (keepLt0 _),⟨0,rfl,Nat.zero_le _,rfl⟩⟩,?_⟩
  rintro k z ⟨i,rfl,hi,rfl⟩
  by_cases hlt:i<L.length
  case neg=>
   obtain rfl:i=L.length:=by omega
   have c1:decide ((L.length:Int)<(L.length:Int))=false:=by simp
   (try with_reducible refine Fz.of ?_);(replace hb0:=true_and True);refine Go1.mk ?_;repeat' ((first|(with_reducible refine Go1.go ?_)|((with_reducible first|refine brv_mk ?_ ?_|refine gsplitD ?_ ?_|refine gsplitG ?_ ?_)<;>intro h<;>(try simp only[Bool.not_eq_true',Bool.not_eq_false']at h)<;>replace hb0:=h)|(refine And.intro ?_ ?_;(try simp only[sxO]at *);omega)|fail)<;>(try simp (maxSteps:=1000000) only [hb0,tgB,c1,go,gl,gs,hasK_app,hasK_nil,↓hold_pre,awayP,runOps,regK,step1,newK,genR,appR,obl,buildR,Value.cells,closeK,keepH,outV,retK,ret1,retC,RetV,Option.getD,runD,stepD,afterK,undef,simprocAttr,sxB,↓sxD,sxE,sxTab]))
   rw[List.take_of_length_le (by omega)]
   exact ⟨tgB M g n L.length (togO O),le_sub ⟨rfl,rfl,rfl,rfl,trivial⟩ ⟨rfl,subHp_fam (fun j hj=>by simp only[lkH];exact lkH_famI hj) trivial⟩ rfl rfl rfl (keepLt0 _),rfl⟩
  have c1:decide ((i:Int)<(L.length:Int))=true:=by rw[decide_eq_true_eq];omega
  have z2:(0:Int)≤(i:Int):=by omega
  have z3:(i:Int)<(L.length:Int):=by omega
  have wi:IntKind.i64.wrap ((i:Int)+1)=((i+1:Nat):Int):=by rw[wrap_id (by omega) (by omega)];omega
  have gn:=g1.nn hlt
  have gp:=g1.pt hlt
  have ga:lookM Try.prog 25 M (addP (elemP g 3 i) 2)=some L[i].u:=g1.atF (P:=Try.prog) (T:=25) (fun _=>rfl) tk25 tz25 hlt (o:=2) (v:=L[i].u) rfl
  have k2:=(g2 _ (List.getElem_mem hlt)).2
  have hiO:i<O.length:=by omega
  have hOi:O[i].2=L[i].l:=by
   have:O[i]=L[i].o:=by simp only[←g3,List.getElem_map]
   rw[this];rfl
  have hms:=hm _ (List.getElem_mem hiO)
  have hml:=(hO.at_ _ (List.getElem_mem hiO)).2.1
  have htog:=fun a b=>togO_take hiO a b
  rw[hOi]at hms hml
  have htog:∀a b,togO (O.take (i+1)) a b=(togO (O.take i) a b || (L[i].l.contains a&&L[i].l.contains b)):=fun a b=>by rw[htog,hOi]
  clear hOi
  generalize L[i].u=m at *
  generalize L[i].l=ms at *
  have mo:=k2.one
  have ml:=k2.len
  have msl:=k2.sl
  obtain ⟨F0,hF0⟩:∃F0,F0=togO (O.take i):=⟨_,rfl⟩
  rw[←hF0]at htog ⊢
  (try with_reducible refine Fz.of ?_);(replace hb0:=true_and True);refine Go1.mk ?_;repeat' ((first|(with_reducible refine Go1.go ?_)|((with_reducible first|refine brv_mk ?_ ?_|refine gsplitD ?_ ?_|refine gsplitG ?_ ?_)<;>intro h<;>(try simp only[Bool.not_eq_true',Bool.not_eq_false']at h)<;>replace hb0:=h)|(refine And.intro ?_ ?_;(try simp only[sxO]at *);omega)|fail)<;>(try simp (maxSteps:=1000000) only [hb0,tgB,c1,z2,z3,gn,gp,ga,mo,ml,msl,go,gl,gs,hasK_app,hasK_nil,↓hold_pre,awayP,runOps,regK,step1,newK,genR,appR,obl,buildR,Value.cells,closeK,keepH,outV,retK,ret1,retC,RetV,Option.getD,runD,stepD,afterK,undef,simprocAttr,sxB,↓sxD,sxE,sxTab]))
  refine ⟨fun k z=>∃p,k=ms.length-p∧p≤ms.length∧z=tgC M g m n i ms.length p (fun a b=>F0 a b || ((ms.take p).contains a&&ms.contains b)),⟨ms.length,tgC M g m n i ms.length 0 (fun a b=>F0 a b || ((ms.take 0).contains a&&ms.contains b)),?_,⟨0,rfl,Nat.zero_le _,rfl⟩⟩,?_⟩
  ·rw[show (fun a b=>F0 a b || ((ms.take 0).contains a&&ms.contains b))=F0 from funext fun a=>funext fun b=>by simp]
   exact le_sub ⟨rfl,rfl,rfl,rfl,rfl,rfl,rfl,trivial⟩ ⟨rfl,subHp_fam (fun j hj=>by simp only[lkH];exact lkH_famI hj) trivial⟩ rfl rfl rfl (keepLt0 _)
  rintro k z ⟨p,rfl,hp,rfl⟩
  by_cases hpt:p<ms.length
  case neg=>
   obtain rfl:p=ms.length:=by omega
   have c2:decide ((ms.length:Int)<(ms.length:Int))=false:=by simp
   have e:(fun a b=>F0 a b || ((ms.take ms.length).contains a&&ms.contains b))=togO (O.take (i+1)):=funext fun a=>funext fun b=>by rw[htog,List.take_length]
   rw[e]
   (try with_reducible refine Fz.of ?_);(replace hb0:=true_and True);refine Go1.mk ?_;repeat' ((first|(with_reducible refine Go1.go ?_)|((with_reducible first|refine brv_mk ?_ ?_|refine gsplitD ?_ ?_|refine gsplitG ?_ ?_)<;>intro h<;>(try simp only[Bool.not_eq_true',Bool.not_eq_false']at h)<;>replace hb0:=h)|(refine And.intro ?_ ?_;(try simp only[sxO]at *);omega)|fail)<;>(try simp (maxSteps:=1000000) only [hb0,tgC,c2,wi,mo,ml,msl,go,gl,gs,hasK_app,hasK_nil,↓hold_pre,awayP,runOps,regK,step1,newK,genR,appR,obl,buildR,Value.cells,closeK,keepH,outV,retK,ret1,retC,RetV,Option.getD,runD,stepD,afterK,undef,simprocAttr,sxB,↓sxD,sxE,sxTab]))
   exact ⟨L.length-(i+1),tgB M g n (i+1) (togO (O.take (i+1))),by omega,le_sub ⟨rfl,rfl,rfl,rfl,trivial⟩ ⟨rfl,subHp_fam (fun j hj=>by simp only[lkH];exact lkH_famI hj) trivial⟩ rfl rfl rfl (keepLt0 _),i+1,rfl,by omega,rfl⟩
  have c2:decide ((p:Int)<(ms.length:Int))=true:=by rw[decide_eq_true_eq];omega
  have v2:(0:Int)≤(p:Int):=by omega
  have v3:(p:Int)<(ms.length:Int):=by omega
  have wp:IntKind.i64.wrap ((p:Int)+1)=((p+1:Nat):Int):=by rw[wrap_id (by omega) (by omega)];omega
  have mn:=k2.nn hpt
  have pa:=k2.at (P:=Try.prog) (T:=3) tk3 tz3 hpt
  have han:=hms _ (List.getElem_mem hpt)
  have hnx:∀a',(ms.take (p+1)).contains a'=((ms.take p).contains a' || (a'==ms[p])):=fun a'=>contains_take_succ hpt
  generalize ms[p]=a at *
  obtain ⟨F1,hF1⟩:∃F1:Nat→Nat→Bool,F1=fun a b=>F0 a b || ((ms.take p).contains a&&ms.contains b):=⟨_,rfl⟩
  rw[←hF1]
  (try with_reducible refine Fz.of ?_);(replace hb0:=true_and True);refine Go1.mk ?_;repeat' ((first|(with_reducible refine Go1.go ?_)|((with_reducible first|refine brv_mk ?_ ?_|refine gsplitD ?_ ?_|refine gsplitG ?_ ?_)<;>intro h<;>(try simp only[Bool.not_eq_true',Bool.not_eq_false']at h)<;>replace hb0:=h)|(refine And.intro ?_ ?_;(try simp only[sxO]at *);omega)|fail)<;>(try simp (maxSteps:=1000000) only [hb0,tgC,natV,c2,v2,v3,pa,mn,z2,z3,gn,gp,ga,mo,ml,msl,go,gl,gs,hasK_app,hasK_nil,↓hold_pre,awayP,runOps,regK,step1,newK,genR,appR,obl,buildR,Value.cells,closeK,keepH,outV,retK,ret1,retC,RetV,Option.getD,runD,stepD,afterK,undef,simprocAttr,sxB,↓sxD,sxE,sxTab]))
  refine ⟨fun k z=>∃q,k=ms.length-q∧q≤ms.length∧z=tgD M g m n i ms.length p q a (fun a' b'=>F1 a' b' || (a'==a&&(ms.take q).contains b')),⟨ms.length,tgD M g m n i ms.length p 0 a (fun a' b'=>F1 a' b' || (a'==a&&(ms.take 0).contains b')),?_,⟨0,rfl,Nat.zero_le _,rfl⟩⟩,?_⟩
  ·rw[show (fun a' b'=>F1 a' b' || (a'==a&&(ms.take 0).contains b'))=F1 from funext fun a=>funext fun b=>by simp]
   exact le_sub ⟨rfl,rfl,rfl,rfl,rfl,rfl,rfl,rfl,rfl,rfl,rfl,trivial⟩ ⟨rfl,subHp_fam (fun j hj=>by simp only[lkH];exact lkH_famI hj) trivial⟩ rfl rfl rfl (keepLt0 _)
  rintro k z ⟨q,rfl,hq,rfl⟩
  by_cases hqt:q<ms.length
  case neg=>
   obtain rfl:q=ms.length:=by omega
   have c3:decide ((ms.length:Int)<(ms.length:Int))=false:=by simp
   have e:(fun a' b'=>F1 a' b' || (a'==a&&(ms.take ms.length).contains b'))=fun a b=>F0 a b || ((ms.take (p+1)).contains a&&ms.contains b):=funext fun a'=>funext fun b'=>by
    rw[hF1,hnx,List.take_length]
    dsimp only
    cases F0 a' b'<;>cases (ms.take p).contains a'<;>cases (a'==a)<;>cases ms.contains b'<;>rfl
   rw[e]
   (try with_reducible refine Fz.of ?_);(replace hb0:=true_and True);refine Go1.mk ?_;repeat' ((first|(with_reducible refine Go1.go ?_)|((with_reducible first|refine brv_mk ?_ ?_|refine gsplitD ?_ ?_|refine gsplitG ?_ ?_)<;>intro h<;>(try simp only[Bool.not_eq_true',Bool.not_eq_false']at h)<;>replace hb0:=h)|(refine And.intro ?_ ?_;(try simp only[sxO]at *);omega)|fail)<;>(try simp (maxSteps:=1000000) only [hb0,tgD,c3,wp,mo,ml,msl,go,gl,gs,hasK_app,hasK_nil,↓hold_pre,awayP,runOps,regK,step1,newK,genR,appR,obl,buildR,Value.cells,closeK,keepH,outV,retK,ret1,retC,RetV,Option.getD,runD,stepD,afterK,undef,simprocAttr,sxB,↓sxD,sxE,sxTab]))
   exact ⟨ms.length-(p+1),tgC M g m n i ms.length (p+1) _,by omega,le_sub ⟨rfl,rfl,rfl,rfl,rfl,rfl,rfl,trivial⟩ ⟨rfl,subHp_fam (fun j hj=>by simp only[lkH];exact lkH_famI hj) trivial⟩ rfl rfl rfl (keepLt0 _),p+1,rfl,by omega,rfl⟩
  have c3:decide ((q:Int)<(ms.length:Int))=true:=by rw[decide_eq_true_eq];omega
  have u2:(0:Int)≤(q:Int):=by omega
  have u3:(q:Int)<(ms.length:Int):=by omega
  have wq:IntKind.i64.wrap ((q:Int)+1)=((q+1:Nat):Int):=by rw[wrap_id (by omega) (by omega)];omega
  have qa:=k2.at (P:=Try.prog) (T:=3) tk3 tz3 hqt
  have hbn:=hms _ (List.getElem_mem hqt)
  have hnq:∀b',(ms.take (q+1)).contains b'=((ms.take q).contains b' || (b'==ms[q])):=fun b'=>contains_take_succ hqt
  generalize ms[q]=b at *
  obtain ⟨F2,hF2⟩:∃F2:Nat→Nat→Bool,F2=fun a' b'=>F1 a' b' || (a'==a&&(ms.take q).contains b'):=⟨_,rfl⟩
  have e3:(fun a' b'=>F2 a' b' || (a'==a&&b'==b))=fun a' b'=>F1 a' b' || (a'==a&&(ms.take (q+1)).contains b'):=funext fun a'=>funext fun b'=>by
   rw[hF2,hnq]
   dsimp only
   cases F1 a' b'<;>cases (a'==a)<;>cases (ms.take q).contains b'<;>cases (b'==b)<;>rfl
  rw[←hF2]
  have r1:(0:Int)≤(a:Int):=by omega
  have r2:(a:Int)<(n:Int):=by omega
  have r3:(0:Int)≤(b:Int):=by omega
  have r4:(b:Int)<(n:Int):=by omega
  have s1:decide ((0:Int)≤(a:Int))=true:=decide_eq_true r1
  have s2:decide ((a:Int)<(n:Int))=true:=decide_eq_true r2
  have s3:decide ((0:Int)≤(b:Int))=true:=decide_eq_true r3
  have s4:decide ((b:Int)<(n:Int))=true:=decide_eq_true r4
  have fl:=famC_len (b:=1000) (Ls:=matF n F2)
  rw[matF_len]at fl
  have haL:a<(matF n F2).length:=by rw[matF_len];exact han
  have fa:=famC_at (b:=1000) haL
  rw[matF_at han,rowF_len]at fa
  have fk:lkH (famH 1000 4 (matF n F2) []) (a+1000)=some (4,(rowF n (F2 a)).map .ext):=by rw[lkH_famI haL,matF_at han]
  have fr:((rowF n (F2 a)).map AV.ext).length=n:=by rw[List.length_map,rowF_len]
  have fs:((rowF n (F2 a)).map AV.ext).set b (.ext (.bool true))=(rowF n fun b'=>F2 a b' || b'==b).map .ext:=by rw[←rowF_set hbn,List.map_set]
  have fu:upH (famH 1000 4 (matF n F2) []) (a+1000) ((rowF n fun b'=>F2 a b' || b'==b).map .ext)=famH 1000 4 (matF n fun a' b'=>F1 a' b' || (a'==a&&(ms.take (q+1)).contains b')) []:=by
   rw[upH_famI haL,matF_set han,e3]
  have fc:famC 1000 (matF n F2)=famC 1000 (matF n fun a' b'=>F1 a' b' || (a'==a&&(ms.take (q+1)).contains b')):=famC_mat
  (try with_reducible refine Fz.of ?_);(replace hb0:=true_and True);refine Go1.mk ?_;repeat' ((first|(with_reducible refine Go1.go ?_)|((with_reducible first|refine brv_mk ?_ ?_|refine gsplitD ?_ ?_|refine gsplitG ?_ ?_)<;>intro h<;>(try simp only[Bool.not_eq_true',Bool.not_eq_false']at h)<;>replace hb0:=h)|(refine And.intro ?_ ?_;(try simp only[sxO]at *);omega)|fail)<;>(try simp (maxSteps:=1000000) only [hb0,tgD,natV,c3,u2,u3,qa,mn,s1,s2,s3,s4,r1,r2,r3,r4,han,hbn,fl,fa,fk,fr,fs,fu,wq,ge_iff_le,mo,ml,msl,go,gl,gs,Nat.mul_one,Nat.zero_add,hasK_app,hasK_nil,↓hold_pre,awayP,runOps,regK,step1,newK,genR,appR,obl,buildR,Value.cells,closeK,keepH,outV,retK,ret1,retC,RetV,Option.getD,runD,stepD,afterK,undef,simprocAttr,sxB,↓sxD,sxE,sxTab]))
  rw[fc]
  exact ⟨ms.length-(q+1),tgD M g m n i ms.length p (q+1) a _,by omega,le_sub ⟨rfl,rfl,rfl,rfl,rfl,rfl,rfl,rfl,rfl,rfl,rfl,trivial⟩ ⟨rfl,subHp_fam (fun j hj=>by simp only[lkH];exact lkH_famI hj) trivial⟩ rfl rfl rfl (keepLt0 _),q+1,rfl,by omega,rfl⟩
 ·rintro z rfl
  refine Fz.fam (O:=13) (b:=1000) (Ls:=matF n (togO O)) (T0:=48) (T:=4) 5 n [] [] matF_len.symm rfl rfl (fun i hi=>by simp only[tgB,lkH];rw[if_neg (by omega)];exact lkH_famI hi) (by decide) (Nat.zero_le _) trivial rfl rfl trivial rfl rfl (keepLt0 _) (fun j hj _=>absurd hj (Nat.not_lt_zero _)) (fun M1 U m1 hU=>?_)
  have m1:Mem.le M M1:=m1
  have hUl:=hU.ll
  obtain ⟨us,hus⟩:=hUl
  have Uo:U.oneCell'=true:=one_sl hus.out.sl
  (try with_reducible refine Fz.of ?_);(replace hb0:=true_and True);refine Go1.mk ?_;repeat' ((first|(with_reducible refine Go1.go ?_)|((with_reducible first|refine brv_mk ?_ ?_|refine gsplitD ?_ ?_|refine gsplitG ?_ ?_)<;>intro h<;>(try simp only[Bool.not_eq_true',Bool.not_eq_false']at h)<;>replace hb0:=h)|(refine And.intro ?_ ?_;(try simp only[sxO]at *);omega)|fail)<;>(try simp (maxSteps:=1000000) only [hb0,tgB,Uo,hasK_nil,↓hold_pre,awayP,runOps,regK,step1,newK,genR,appR,obl,buildR,Value.cells,closeK,keepH,outV,retK,ret1,retC,RetV,Option.getD,runD,stepD,afterK,undef,simprocAttr,sxB,↓sxD,sxE,sxTab]))
  exact hK U M1 m1 hU.ll
end
section
variable {n:Nat}{R S:Nat→Nat→Prop}{f g:Nat→Nat}
theorem tog_lab{T:List (Bst×List Bst)}(hf:Lab T.length R f){a b:Nat}(ha:a<T.length)(hb:b<T.length):togO (grpO T f) a b=decide (f a=f b):=by
 rw[Bool.eq_iff_iff,decide_eq_true_eq]
 unfold togO
 rw[List.any_eq_true]
 constructor
 ·rintro ⟨o,ho,e⟩
  unfold grpO outU at ho
  rw[List.map_map]at ho
  obtain ⟨r,hr,rfl⟩:=List.mem_map.1 ho
  simp only[Function.comp,Bool.and_eq_true,List.contains_iff_mem]at e
  exact (memU_in.1 e.1).2.trans (memU_in.1 e.2).2.symm
 ·intro e
  have h1:f a<T.length:=Nat.lt_of_le_of_lt (hf.le a ha) ha
  refine ⟨(T.getD (bestU (ltG T) f T.length (f a)) ([],[]),memU f T.length (f a)),?_,?_⟩
  ·unfold grpO outU
   rw[List.map_map]
   exact List.mem_map.2 ⟨f a,rootsU_in.2 ⟨h1,hf.id a ha⟩,rfl⟩
  ·simp only[Bool.and_eq_true,List.contains_iff_mem]
   exact ⟨memU_in.2 ⟨ha,rfl⟩,memU_in.2 ⟨hb,e.symm⟩⟩
end
theorem mem_grpO{T:List (Bst×List Bst)}{f:Nat→Nat}:∀o∈grpO T f,∀j∈o.2,j<T.length:=fun o ho j hj=>by
 unfold grpO outU at ho
 rw[List.map_map]at ho
 obtain ⟨r,hr,rfl⟩:=List.mem_map.1 ho
 exact (memU_in.1 hj).1
theorem mat_at{M:Mem}{P:Program}{U:Value}{n:Nat}{F:Nat→Nat→Bool}{T1 T2:TypeId}(h:LL M U (matF n F))(k1:kindT P T1=some false)(z1:szO P T1=some 1)(k2:kindT P T2=some false)(z2:szO P T2=some 1){a b:Nat}(ha:a<n)(hb:b<n) :
  nilS U=false∧slen U=n∧isSl U=true∧U.oneCell'=true∧∃w,lookM P T1 M (elemP U 1 a)=some w∧w.oneCell'=true∧isSl w=true∧slen w=n∧nilS w=false∧lookM P T2 M (elemP w 1 b)=some (.bool (F a b)):=by
 obtain ⟨us,hu⟩:=h
 have hl:=matF_len (n:=n) (F:=F)
 have ha2:a<(matF n F).length:=by omega
 have h1:=hu.at_ a ha2
 have h2:us[a]? = some (us[a]'(by have:=hu.len;omega)):=List.getElem?_eq_getElem _
 rw[matF_at ha,rowF_len]at h1
 refine ⟨hu.out.nn (by omega),by rw[hu.out.len,hl],hu.out.sl,one_sl hu.out.sl,_,hu.out.at1 k1 z1 h2,one_sl h1.sl,h1.sl,h1.len,h1.nn (by omega),?_⟩
 exact h1.at1 k2 z2 (by rw[List.getElem?_eq_getElem (by rw[rowF_len];exact hb),rowF_at hb])
theorem faF_cons(y:Fa)(L:List Fa):faF (y :: L)=[.ext (.string (bs y.1)),.ext (.string (bs y.2.1)),.ext (.int .i64 y.2.2.1),.ext (.string (bs y.2.2.2.1)),.ext y.2.2.2.2.1]++faF L:=by simp[faF,faC]
theorem faF_app2(A B:List Fa):faF (A++B)=faF A++faF B:=by simp[faF]
section
variable {M:Mem}{K:AV→Hp→Mem→Prop}
structure sixF (f:Fa):Prop where
 e:faE f=0
 cs:∀c∈f.2.2.2.2.2,c.1.length=1∧c.2.1=[120,46,103,111]
end
theorem nodup_sub:∀{l m:List Nat},l.Nodup→(∀x∈l,x∈m)→l.length≤m.length
 | [],m,_,_=>Nat.zero_le _
 | a :: l,m,h,hs=>by
  obtain ⟨h1,h2⟩:=List.nodup_cons.1 h
  have ha:=hs a List.mem_cons_self
  have h3:=nodup_sub (m:=m.erase a) h2 fun x hx=>(List.mem_erase_of_ne (fun e=>h1 (by rw[←e];exact hx))).2 (hs x (List.mem_cons_of_mem _ hx))
  have h4:=List.length_erase_of_mem ha
  have h5:0<m.length:=List.length_pos_of_mem ha
  rw[List.length_cons];omega
theorem nodup_map{f:Nat→Nat}:∀{l:List Nat},l.Nodup→(∀x∈l,∀y∈l,f x=f y→x=y)→(l.map f).Nodup
 | [],_,_=>List.nodup_nil
 | a :: l,h,hf=>by
  obtain ⟨h1,h2⟩:=List.nodup_cons.1 h
  rw[List.map_cons,List.nodup_cons]
  refine ⟨fun hm=>?_,nodup_map h2 fun x hx y hy=>hf x (List.mem_cons_of_mem _ hx) y (List.mem_cons_of_mem _ hy)⟩
  obtain ⟨x,hx,e⟩:=List.mem_map.1 hm
  have:=hf x (List.mem_cons_of_mem _ hx) a List.mem_cons_self e
  exact h1 (this▸hx)
structure Perm2 (n:Nat) (T S:List (Bst×List Bst)) (p z:Nat→Nat):Prop where
 lt:T.length=n
 ls:S.length=n
 pp:∀i,i<n→p i<n∧z (p i)=i
 zz:∀i,i<n→z i<n∧p (z i)=i
 at_:∀i,i<n→S.getD i ([],[])=T.getD (z i) ([],[])
section
variable {n:Nat}{T S:List (Bst×List Bst)}{p z:Nat→Nat}{d:Int}{f g:Nat→Nat}
theorem Perm2.symm(h:Perm2 n T S p z):Perm2 n S T z p:=⟨h.ls,h.lt,h.zz,h.pp,fun i hi=>by rw[h.at_ _ (h.pp i hi).1,(h.pp i hi).2]⟩
theorem sgK_getD{T:List (Bst×List Bst)}{i:Nat}(hi:i<T.length):sgK T d i=keysB (T.getD i ([],[])).1 (T.getD i ([],[])).2 d:=by
 rw[sgK_at hi,List.getD_eq_getElem?_getD,List.getElem?_eq_getElem hi];rfl
theorem Perm2.sg(h:Perm2 n T S p z){i:Nat}(hi:i<n):sgK S d i=sgK T d (z i):=by
 rw[sgK_getD (by rw[h.ls];exact hi),sgK_getD (by rw[h.lt];exact (h.zz i hi).1),h.at_ i hi]
theorem Perm2.lnk(h:Perm2 n T S p z){i k:Nat}(hi:i<n)(hk:k<n)(hr:lnkR S d i k):lnkR T d (z i) (z k):=by
 unfold lnkR at hr ⊢
 rw[←h.sg hi,←h.sg hk];exact hr
theorem Perm2.conn(h:Perm2 n T S p z){i k:Nat}(hc:Conn (lnkR S d) n i k):Conn (lnkR T d) n (z i) (z k):=by
 induction hc with
 | refl hi=>exact .refl (h.zz _ hi).1
 | snoc h1 h2 h3 ih=>exact .snoc ih (h.lnk h1.lt.2 h3 h2) (h.zz _ h3).1
theorem Perm2.tog(h:Perm2 n T S p z)(hf:Lab n (lnkR T d) f)(hg:Lab n (lnkR S d) g){i k:Nat}(hi:i<n)(hk:k<n)(e:g i=g k):f (z i)=f (z k):=
 conn_eq hf.of (h.conn (hg.to i k hi hk e))
theorem Perm2.tog2(h:Perm2 n T S p z)(hf:Lab n (lnkR T d) f)(hg:Lab n (lnkR S d) g){i k:Nat}(hi:i<n)(hk:k<n):g (p i)=g (p k)↔f i=f k:=by
 constructor
 ·intro e
  have:=h.tog hf hg (h.pp i hi).1 (h.pp k hk).1 e
  rwa[(h.pp i hi).2,(h.pp k hk).2]at this
 ·exact fun e=>h.symm.tog hg hf hi hk e
theorem rootsU_in2(hf:Lab n (lnkR T d) f){j:Nat}(hj:j<n):f j∈rootsU f n:=rootsU_in.2 ⟨Nat.lt_of_le_of_lt (hf.le j hj) hj,hf.id j hj⟩
theorem Perm2.count1(h:Perm2 n T S p z)(hf:Lab n (lnkR T d) f)(hg:Lab n (lnkR S d) g):(rootsU f n).length≤(rootsU g n).length:=by
 have h1:=nodup_map (f:=fun r=>g (p r)) (rootsU_nodup (f:=f) (i:=n)) fun x hx y hy e=>by
  obtain ⟨x1,x2⟩:=rootsU_in.1 hx
  obtain ⟨y1,y2⟩:=rootsU_in.1 hy
  have:=(h.tog2 hf hg x1 y1).1 e
  rw[x2,y2]at this;exact this
 have h2:=nodup_sub h1 (m:=rootsU g n) fun y hy=>by
  obtain ⟨r,hr,rfl⟩:=List.mem_map.1 hy
  exact rootsU_in2 hg (h.pp r (rootsU_in.1 hr).1).1
 rw[List.length_map]at h2;exact h2
theorem Perm2.count(h:Perm2 n T S p z)(hf:Lab n (lnkR T d) f)(hg:Lab n (lnkR S d) g):(rootsU f n).length=(rootsU g n).length:=Nat.le_antisymm (h.count1 hf hg) (h.symm.count1 hg hf)
theorem Perm2.mem1(h:Perm2 n T S p z)(hf:Lab n (lnkR T d) f)(hg:Lab n (lnkR S d) g){r:Nat}(hr:r<n)(hfr:f r=r):(memU f n r).length≤(memU g n (g (p r))).length:=by
 have hnd:(memU f n r).Nodup:=List.Nodup.sublist List.filter_sublist List.nodup_range
 have h1:=nodup_map (f:=p) hnd fun x hx y hy e=>by
  have x1:=(memU_in.1 hx).1
  have y1:=(memU_in.1 hy).1
  have:=congrArg z e
  rwa[(h.pp x x1).2,(h.pp y y1).2]at this
 have h2:=nodup_sub h1 (m:=memU g n (g (p r))) fun y hy=>by
  obtain ⟨x,hx,rfl⟩:=List.mem_map.1 hy
  obtain ⟨x1,x2⟩:=memU_in.1 hx
  exact memU_in.2 ⟨(h.pp x x1).1,(h.tog2 hf hg x1 hr).2 (by rw[x2,hfr])⟩
 rw[List.length_map]at h2;exact h2
theorem Perm2.mems(h:Perm2 n T S p z)(hf:Lab n (lnkR T d) f)(hg:Lab n (lnkR S d) g){r:Nat}(hr:r<n)(hfr:f r=r):(memU f n r).length=(memU g n (g (p r))).length:=by
 refine Nat.le_antisymm (h.mem1 hf hg hr hfr) ?_
 have hp:=(h.pp r hr).1
 have h1:g (p r)<n:=Nat.lt_of_le_of_lt (hg.le _ hp) hp
 have h2:=h.symm.mem1 hg hf h1 (hg.id _ hp)
 have h3:f (z (g (p r)))=r:=by
  have:=h.tog hf hg h1 hp (hg.id _ hp)
  rw[(h.pp r hr).2,hfr]at this;exact this
 rw[h3]at h2;exact h2
theorem Perm2.best1(h:Perm2 n T S p z)(hf:Lab n (lnkR T d) f)(hg:Lab n (lnkR S d) g){r:Nat}(hr:r<n)(hfr:f r=r):cmpG (T.getD (bestU (ltG T) f n r) ([],[])) (S.getD (bestU (ltG S) g n (g (p r))) ([],[]))≤0:=by
 have hp:=(h.pp r hr).1
 have h1:g (p r)<n:=Nat.lt_of_le_of_lt (hg.le _ hp) hp
 obtain ⟨b,hb,e⟩:∃b,b∈memU g n (g (p r))∧b=bestU (ltG S) g n (g (p r)):=by
  rcases bestU_mem (lt:=ltG S) (f:=g) (i:=n) (r:=g (p r)) with e|e
  ·exact ⟨_,memU_in.2 ⟨h1,hg.id _ hp⟩,e.symm⟩
  ·exact ⟨_,e,rfl⟩
 rw[←e]
 obtain ⟨b1,b2⟩:=memU_in.1 hb
 rw[h.at_ b b1]
 refine (bestU_le (T:=T) (f:=f) (n:=n) (r:=r)).2 _ (memU_in.2 ⟨(h.zz b b1).1,?_⟩)
 have:=h.tog hf hg b1 hp b2
 rw[(h.pp r hr).2,hfr]at this;exact this
theorem Perm2.best(h:Perm2 n T S p z)(hf:Lab n (lnkR T d) f)(hg:Lab n (lnkR S d) g){r:Nat}(hr:r<n)(hfr:f r=r):cmpG (T.getD (bestU (ltG T) f n r) ([],[])) (S.getD (bestU (ltG S) g n (g (p r))) ([],[]))=0:=by
 have h1:=h.best1 hf hg hr hfr
 have hp:=(h.pp r hr).1
 have h0:g (p r)<n:=Nat.lt_of_le_of_lt (hg.le _ hp) hp
 have h2:=h.symm.best1 hg hf h0 (hg.id _ hp)
 have h3:f (z (g (p r)))=r:=by
  have:=h.tog hf hg h0 hp (hg.id _ hp)
  rw[(h.pp r hr).2,hfr]at this;exact this
 rw[h3,cmp_G.anti]at h2
 omega
end
theorem insZ_getD{Z:List Nat}{a x q:Nat}(ha:a≤Z.length):(Z.take a++x :: Z.drop a).getD q 0=if q<a then Z.getD q 0 else if q=a then x else Z.getD (q-1) 0:=by
 have hl:(Z.take a).length=a:=by rw[List.length_take,Nat.min_eq_left ha]
 rw[List.getD_eq_getElem?_getD,List.getD_eq_getElem?_getD,List.getD_eq_getElem?_getD]
 by_cases h:q<a
 ·rw[if_pos h,List.getElem?_append_left (by omega),List.getElem?_take_of_lt h]
 ·rw[if_neg h,List.getElem?_append_right (by omega),hl]
  by_cases e:q=a
  ·rw[if_pos e,e,Nat.sub_self];rfl
  ·rw[if_neg e,show q-a=(q-1-a)+1 by omega,List.getElem?_cons_succ,List.getElem?_drop,show a+(q-1-a)=q-1 by omega]
structure InsI (i:Nat) (P Z:List Nat):Prop where
 len:Z.length=i
 at_:∀j,j<i→P.getD j 0<i∧Z.getD (P.getD j 0) 0=j
 mem:∀k,k<i→Z.getD k 0<i∧P.getD (Z.getD k 0) 0=k
theorem InsI.zero{P:List Nat}:InsI 0 P []:=⟨rfl,fun j h=>absurd h (Nat.not_lt_zero _),fun j h=>absurd h (Nat.not_lt_zero _)⟩
def bumpN(a x:Nat):Nat:=if a≤x then x+1 else x
theorem InsI.next{i a:Nat}{P Z R:List Nat}(h:InsI i P Z)(ha:a≤i)(hR:∀j,j<i→R.getD j 0=bumpN a (P.getD j 0))(hRi:R.getD i 0=a):InsI (i+1) R (Z.take a++i :: Z.drop a):=by
 have hz:a≤Z.length:=by rw[h.len];exact ha
 refine ⟨by rw[List.length_append,List.length_cons,List.length_take,List.length_drop,h.len];omega,fun j hj=>?_,fun k hk=>?_⟩
 ·rw[insZ_getD hz]
  by_cases e:j=i
  ·subst e
   rw[hRi,if_neg (by omega),if_pos rfl]
   exact ⟨by omega,rfl⟩
  ·obtain ⟨h1,h2⟩:=h.at_ j (by omega)
   rw[hR j (by omega)]
   unfold bumpN
   by_cases c:a≤P.getD j 0
   ·rw[if_pos c,if_neg (by omega),if_neg (by omega),Nat.add_sub_cancel]
    exact ⟨by omega,h2⟩
   ·rw[if_neg c,if_pos (by omega)]
    exact ⟨by omega,h2⟩
 ·rw[insZ_getD hz]
  by_cases c:k<a
  ·rw[if_pos c]
   obtain ⟨h1,h2⟩:=h.mem k (by omega)
   rw[hR _ h1,h2]
   unfold bumpN
   rw[if_neg (by omega)]
   exact ⟨by omega,rfl⟩
  ·rw[if_neg c]
   by_cases e:k=a
   ·rw[if_pos e,hRi];exact ⟨by omega,e.symm⟩
   ·rw[if_neg e]
    obtain ⟨h1,h2⟩:=h.mem (k-1) (by omega)
    rw[hR _ h1,h2]
    unfold bumpN
    rw[if_pos (by omega)]
    exact ⟨by omega,by omega⟩
section
variable {M:Mem}{K:AV→Hp→Mem→Prop}
def fuStZ(M:Mem)(u:Value)(p:Nat)(ts m:Bst)(e:Int)(c i:Nat)(X:List Stk):St:={env:=[(6,.ext (.int .i64 (c:Int))),(5,.own 2000005 0),(4,.own 2000004 0),(0,.own 1000028 0)],hp:=[(2000005,34,[.ext (.string (bs [112])),.ext (.string (bs ts)),.ext (.int .i64 e),.ext (.string (bs m)),.slo 2000036 0 i 3]),(2000036,74,clF X),(2000004,34,[.ext (.string (bs [])),.ext (.string (bs [])),.ext (.int .i64 0),.ext (.string (bs [])),.ext (.slice none 0 0)]),(1000028,38,tpH u p)],M:=M,kb:=2000000,fx:=[1000028]}
def fu0Z(M:Mem)(u:Value)(p:Nat)(ts m:Bst)(e:Int)(c:Nat):St:={env:=[(6,.ext (.int .i64 (c:Int))),(5,.own 2000005 0),(4,.own 2000004 0),(0,.own 1000028 0)],hp:=[(2000005,34,[.ext (.string (bs [112])),.ext (.string (bs ts)),.ext (.int .i64 e),.ext (.string (bs m)),.ext (.slice none 0 0)]),(2000004,34,[.ext (.string (bs [])),.ext (.string (bs [])),.ext (.int .i64 0),.ext (.string (bs [])),.ext (.slice none 0 0)]),(1000028,38,tpH u p)],M:=M,kb:=2000000,fx:=[1000028]}
theorem fu0Z_le(M:Mem)(u:Value)(p:Nat)(ts m:Bst)(e:Int)(c:Nat):Le (fu0Z M u p ts m e c) (fuStZ M u p ts m e c 0 []):=
 (le_nilH (s:=fu0Z M u p ts m e c) 2000005 4 2000036 74 34 _ 3 rfl rfl (.inl rfl)).trans (le_sub ⟨rfl,rfl,rfl,rfl,trivial⟩ ⟨rfl,rfl,rfl,rfl,trivial⟩ rfl rfl rfl (keepLt_of rfl))
theorem failureZ_ok(u:Value)(l:List Int)(p least:Nat)(hu:IsL M intV64 u l)(hp:p<900000)(hl:least≤10)
  (hK:∀(f:Fa) M' p',Mem.le M M'→p'≤p+100→drF least f→faOk M' f→FreshS M f.2.2.2.2.1→K (.ext (faV f.1 f.2.1 f.2.2.1 f.2.2.2.1 f.2.2.2.2.1)) [(1000028,38,tpH u p')] M'):CallS Try.prog 11 [.own 1000028 0,.ext (.int .i64 (least:Int))] [(1000028,38,tpH u p)] M [] K:=by
 refine CallS.frzF ?_
 refine inlS (cs:=[]) Try.mixed Try.func11 rfl (by kernel_rfl) 2000000 rfl rfl ?_
 simp only[Try.f11]
 have uo:=hu.one
 have n1:[AV.ext (.string (bs [])),.ext (.string (bs [97,32,49])),.ext (.string (bs [97,32,50])),.ext (.string (bs [98])),.ext (.string (bs [99])),.ext (.string (bs [100])),.ext (.string (bs [101,47,102]))]=cE sbV msL:=rfl
 have n2:[AV.ext (.string (bs [116])),.ext (.string (bs [117]))]=cE sbV tsL:=rfl
 have n3:[AV.ext (.string (bs [102])),.ext (.string (bs [103])),.ext (.string (bs [104])),.ext (.string (bs [105])),.ext (.string (bs [106]))]=cE sbV fnL:=rfl
 (replace hb0:=true_and True);refine Go1.mk ?_;repeat' ((first|(with_reducible refine Go1.go ?_)|((with_reducible first|refine brv_mk ?_ ?_|refine gsplitD ?_ ?_|refine gsplitG ?_ ?_)<;>intro h<;>(try simp only[Bool.not_eq_true',Bool.not_eq_false']at h)<;>replace hb0:=h)|((with_reducible refine isCall (f:=31) ?_);refine callA ?_)|((with_reducible refine isCall0 (f:=31) ?_);refine callA0 ?_)|((with_reducible refine isCallS (f:=31) ?_);refine (one_ok 1000028 2000008 (by decide) u l _ msL _ _ (by rfl) hu (by omega) (by decide) (by decide) (fun i hi=>Stop.mk ?_)))|(refine And.intro ?_ ?_;(try simp only[sxO]at *);omega)|fail)<;>(try simp (maxSteps:=1000000) only [hb0,tpH,faV,uo,n1,cE_ment,cE_kill,hasK_nil,bs_mk,bs_app,bs_ext,bs_size,bs_toList,bs_at,bs_cells,List.take_length,imp_ga,guard_pk,guard_pk2,↓hold_pre,awayP,runOps,regK,step1,newK,genR,appR,obl,buildR,Value.cells,closeK,keepH,outV,retK,ret1,retC,RetV,Option.getD,runD,stepD,afterK,undef,simprocAttr,sxB,↓sxD,sxE,sxTab]))
 have hm3:(msL[i]).length≤3:=(show ∀x∈msL,x.length≤3 by decide) _ (List.getElem_mem hi)
 generalize msL[i]=m at *
 refine Stop.go ?_
 (replace hb0:=true_and True);refine Go1.mk ?_;repeat' ((first|(with_reducible refine Go1.go ?_)|((with_reducible first|refine brv_mk ?_ ?_|refine gsplitD ?_ ?_|refine gsplitG ?_ ?_)<;>intro h<;>(try simp only[Bool.not_eq_true',Bool.not_eq_false']at h)<;>replace hb0:=h)|(((with_reducible refine isCall (f:=22) ?_);refine callA_nil (by kernel_rfl) ?_;refine (fail_nil m ?_)))|((with_reducible refine isCall (f:=31) ?_);refine callA ?_)|((with_reducible refine isCall0 (f:=31) ?_);refine callA0 ?_)|((with_reducible refine isCallS (f:=31) ?_);refine (one_ok 1000028 2000012 (by decide) u l _ tsL _ _ (by rfl) hu (by omega) (by decide) (by decide) (fun i hi=>Stop.mk ?_)))|(refine And.intro ?_ ?_;(try simp only[sxO]at *);omega)|fail)<;>(try simp (maxSteps:=1000000) only [hb0,tpH,faV,sbV,uo,n2,cE_ment,cE_kill,hasK_nil,bs_mk,bs_app,bs_ext,bs_size,bs_toList,bs_at,bs_cells,List.take_length,imp_ga,guard_pk,guard_pk2,↓hold_pre,awayP,runOps,regK,step1,newK,genR,appR,obl,buildR,Value.cells,closeK,keepH,outV,retK,ret1,retC,RetV,Option.getD,runD,stepD,afterK,undef,simprocAttr,sxB,↓sxD,sxE,sxTab]))
 have ht1:(tsL[i]).length=1:=(show ∀x∈tsL,x.length=1 by decide) _ (List.getElem_mem _)
 generalize tsL[i]=ts at *
 refine Stop.go ?_
 (replace hb0:=true_and True);refine Go1.mk ?_;repeat' ((first|(with_reducible refine Go1.go ?_)|((with_reducible first|refine brv_mk ?_ ?_|refine gsplitD ?_ ?_|refine gsplitG ?_ ?_)<;>intro h<;>(try simp only[Bool.not_eq_true',Bool.not_eq_false']at h)<;>replace hb0:=h)|((with_reducible refine isCall (f:=21) ?_);refine callA ?_)|((with_reducible refine isCall0 (f:=21) ?_);refine callA0 ?_)|((with_reducible refine isCallS (f:=21) ?_);refine (nextI_ok 1000028 u l _ _ hu (by omega) (by omega) (by omega) (fun e he0 he1=>Stop.mk ?_)))|(refine And.intro ?_ ?_;(try simp only[sxO]at *);omega)|fail)<;>(try simp (maxSteps:=1000000) only [hb0,tpH,faV,sbV,uo,n2,cE_ment,cE_kill,hasK_nil,bs_mk,bs_app,bs_ext,bs_size,bs_toList,bs_at,bs_cells,List.take_length,imp_ga,guard_pk,guard_pk2,↓hold_pre,awayP,runOps,regK,step1,newK,genR,appR,obl,buildR,Value.cells,closeK,keepH,outV,retK,ret1,retC,RetV,Option.getD,runD,stepD,afterK,undef,simprocAttr,sxB,↓sxD,sxE,sxTab]))
 refine Stop.go ?_
 (replace hb0:=true_and True);refine Go1.mk ?_;repeat' ((first|(with_reducible refine Go1.go ?_)|((with_reducible first|refine brv_mk ?_ ?_|refine gsplitD ?_ ?_|refine gsplitG ?_ ?_)<;>intro h<;>(try simp only[Bool.not_eq_true',Bool.not_eq_false']at h)<;>replace hb0:=h)|((with_reducible refine isCall (f:=21) ?_);refine callA ?_)|((with_reducible refine isCall0 (f:=21) ?_);refine callA0 ?_)|((with_reducible refine isCallS (f:=21) ?_);refine (nextI_ok 1000028 u l _ _ hu (by omega) (by omega) (by omega) (fun x hx0 hx1=>Stop.mk ?_)))|(refine And.intro ?_ ?_;(try simp only[sxO]at *);omega)|fail)<;>(try simp (maxSteps:=1000000) only [hb0,tpH,faV,sbV,uo,cE_ment,cE_kill,hasK_nil,bs_mk,bs_app,bs_ext,bs_size,bs_toList,bs_at,bs_cells,List.take_length,imp_ga,guard_pk,guard_pk2,↓hold_pre,awayP,runOps,regK,step1,newK,genR,appR,obl,buildR,Value.cells,closeK,keepH,outV,retK,ret1,retC,RetV,Option.getD,runD,stepD,afterK,undef,simprocAttr,sxB,↓sxD,sxE,sxTab]))
 obtain ⟨y,rfl⟩:=Int.eq_ofNat_of_zero_le hx0
 have wy:IntKind.i64.wrap ((least:Int)+(y:Int))=((least+y:Nat):Int):=by rw[wrap_id (by omega) (by omega)];omega
 refine Stop.go ?_
 (replace hb0:=true_and True);refine Go1.mk ?_;repeat' ((first|(with_reducible refine Go1.go ?_)|((with_reducible first|refine brv_mk ?_ ?_|refine gsplitD ?_ ?_|refine gsplitG ?_ ?_)<;>intro h<;>(try simp only[Bool.not_eq_true',Bool.not_eq_false']at h)<;>replace hb0:=h)|(refine And.intro ?_ ?_;(try simp only[sxO]at *);omega)|fail)<;>(try simp (maxSteps:=1000000) only [hb0,tpH,faV,sbV,wy,uo,cE_ment,cE_kill,hasK_nil,bs_mk,bs_app,bs_ext,bs_size,bs_toList,bs_at,bs_cells,List.take_length,imp_ga,guard_pk,guard_pk2,↓hold_pre,awayP,runOps,regK,step1,newK,genR,appR,obl,buildR,Value.cells,closeK,keepH,outV,retK,ret1,retC,RetV,Option.getD,runD,stepD,afterK,undef,simprocAttr,sxB,↓sxD,sxE,sxTab]))
 refine ⟨fun d z=>∃c p' X,d=c∧c+X.length=least+y∧p'≤p+4+2*X.length∧(∀s∈X,s.1.length=1∧s.2.1=[120,46,103,111])∧z=fuStZ M u p' ts m e c X.length X,⟨least+y,fuStZ M u (p+1+1+1+1) ts m e (least+y) 0 [],Le.trans (le_sub (z:=fu0Z M u (p+1+1+1+1) ts m e (least+y)) ⟨rfl,rfl,rfl,rfl,trivial⟩ ⟨rfl,rfl,rfl,trivial⟩ rfl rfl rfl (keepLt_of rfl)) (fu0Z_le _ _ _ _ _ _ _),⟨_,_,[],rfl,rfl,by simp,(fun s hs=>by cases hs),rfl⟩⟩,?_⟩
 rintro d z ⟨c,p',X,rfl,hcX,hp',hX,rfl⟩
 have lX:=clF_len X
 have htk:(clF X).take (X.length*3)=clF X:=List.take_of_length_le (by rw[lX];exact Nat.le_refl _)
 by_cases hc:0<d
 case neg=>
  obtain rfl:d=0:=by omega
  have d1:decide ((0:Int)<((0:Nat):Int))=false:=by decide
  (replace hb0:=true_and True);refine Go1.mk ?_;repeat' ((first|(with_reducible refine Go1.go ?_)|((with_reducible first|refine brv_mk ?_ ?_|refine gsplitD ?_ ?_|refine gsplitG ?_ ?_)<;>intro h<;>(try simp only[Bool.not_eq_true',Bool.not_eq_false']at h)<;>replace hb0:=h)|(refine And.intro ?_ ?_;(try simp only[sxO]at *);omega)|fail)<;>(try simp (maxSteps:=1000000) only [hb0,tpH,fuStZ,d1,lX,clF_ment,clF_kill,uo,hasK_nil,bs_mk,bs_app,bs_ext,bs_size,bs_toList,bs_at,bs_cells,List.take_length,imp_ga,guard_pk,guard_pk2,↓hold_pre,awayP,runOps,regK,step1,newK,genR,appR,obl,buildR,Value.cells,closeK,keepH,outV,retK,ret1,retC,RetV,Option.getD,runD,stepD,afterK,undef,simprocAttr,sxB,↓sxD,sxE,sxTab]))
  refine FrzF.fail (X.flatMap clC) rfl (by rw[flat_len (z:=3) (fun _=>rfl)]) rfl rfl (fun v M'' a b g=>?_)
  exact hK ([112],ts,e,m,v,X) M'' p' a (by omega) ⟨rfl,ht1,he0,by show e≤1;omega,by show least≤X.length;omega,by show X.length≤least+3;omega,hX⟩ ⟨b,by show X.length<_;omega,by show m.length<_;omega,fun c hc=>by
   obtain ⟨a1,a2⟩:=hX c hc
   exact ⟨by omega,by rw[a2];decide⟩⟩ g
 have d1:decide ((0:Int)<(d:Int))=true:=by simp;omega
 have wd:IntKind.i64.wrap ((d:Int)-1)=((d-1:Nat):Int):=by rw[wrap_id (by omega) (by omega)];omega
 (replace hb0:=true_and True);refine Go1.mk ?_;repeat' ((first|(with_reducible refine Go1.go ?_)|((with_reducible first|refine brv_mk ?_ ?_|refine gsplitD ?_ ?_|refine gsplitG ?_ ?_)<;>intro h<;>(try simp only[Bool.not_eq_true',Bool.not_eq_false']at h)<;>replace hb0:=h)|((with_reducible refine isCall (f:=31) ?_);refine callA ?_)|((with_reducible refine isCall0 (f:=31) ?_);refine callA0 ?_)|((with_reducible refine isCallS (f:=31) ?_);refine (one_ok 1000028 2000030 (by decide) u l _ fnL _ _ (by rfl) hu (by omega) (by decide) (by decide) (fun i hi=>Stop.mk ?_)))|((with_reducible refine isDraw [some 27,some 28,some 29,some 30,some 31,some 32,some 33,some 34,some 35,some 36,some 37,none] (by decide) ?_);refine draw_rule [(0,[]),(1,[]),(2,[1]),(3,[1]),(5,[1]),(4,[1]),(6,[1]),(7,[1]),(8,[1]),(9,[]),(10,[]),(11,[])] [[],[0],[],[],[2,3],[],[2,3,4,5],[2,3,4,5,6],[2,3,4,5,6,7],[0,1,2,3,4,5,6,7,8],[0,1,2,3,4,5,6,7,8,9],[0,1,2,3,4,5,6,7,8,9,10]] [27,28,29,30,31,32,33,34,35] [] (by kernel_rfl) (by kernel_rfl) (by kernel_rfl) (by kernel_rfl) (by exact trivial) ?_)|(refine And.intro ?_ ?_;(try simp only[sxO]at *);omega)|fail)<;>(try simp (maxSteps:=1000000) only [hb0,tpH,fuStZ,d1,n3,lX,clF_ment,clF_kill,cE_ment,cE_kill,uo,hasK_nil,bs_mk,bs_app,bs_ext,bs_size,bs_toList,bs_at,bs_cells,List.take_length,imp_ga,guard_pk,guard_pk2,↓hold_pre,awayP,runOps,regK,step1,newK,genR,appR,obl,buildR,Value.cells,closeK,keepH,outV,retK,ret1,retC,RetV,Option.getD,runD,stepD,afterK,undef,simprocAttr,sxB,↓sxD,sxE,sxTab]))
 have hf1:(fnL[i]).length=1:=(show ∀x∈fnL,x.length=1 by decide) _ (List.getElem_mem _)
 generalize fnL[i]=fn at *
 refine Stop.go ?_
 (replace hb0:=true_and True);refine Go1.mk ?_;repeat' ((first|(with_reducible refine Go1.go ?_)|((with_reducible first|refine brv_mk ?_ ?_|refine gsplitD ?_ ?_|refine gsplitG ?_ ?_)<;>intro h<;>(try simp only[Bool.not_eq_true',Bool.not_eq_false']at h)<;>replace hb0:=h)|((with_reducible refine isCall (f:=21) ?_);refine callA ?_)|((with_reducible refine isCall0 (f:=21) ?_);refine callA0 ?_)|((with_reducible refine isCallS (f:=21) ?_);refine (nextI_ok 1000028 u l _ _ hu (by omega) (by omega) (by omega) (fun q hq0 hq1=>Stop.mk ?_)))|(refine And.intro ?_ ?_;(try simp only[sxO]at *);omega)|fail)<;>(try simp (maxSteps:=1000000) only [hb0,tpH,fuStZ,sbV,d1,n3,lX,clF_ment,clF_kill,cE_ment,cE_kill,uo,hasK_nil,bs_mk,bs_app,bs_ext,bs_size,bs_toList,bs_at,bs_cells,List.take_length,imp_ga,guard_pk,guard_pk2,↓hold_pre,awayP,runOps,regK,step1,newK,genR,appR,obl,buildR,Value.cells,closeK,keepH,outV,retK,ret1,retC,RetV,Option.getD,runD,stepD,afterK,undef,simprocAttr,sxB,↓sxD,sxE,sxTab]))
 have hs:=clF_app X (fn,[120,46,103,111],q)
 have hs:clF X++[.ext (.string (bs fn)),.ext (.string (bs [120,46,103,111])),.ext (.int .i64 q)]=clF (X++[(fn,[120,46,103,111],q)]):=hs
 refine Stop.go ?_
 (replace hb0:=true_and True);refine Go1.mk ?_;repeat' ((first|(with_reducible refine Go1.go ?_)|((with_reducible first|refine brv_mk ?_ ?_|refine gsplitD ?_ ?_|refine gsplitG ?_ ?_)<;>intro h<;>(try simp only[Bool.not_eq_true',Bool.not_eq_false']at h)<;>replace hb0:=h)|(refine And.intro ?_ ?_;(try simp only[sxO]at *);omega)|fail)<;>(try simp (maxSteps:=1000000) only [hb0,tpH,fuStZ,sbV,d1,wd,htk,hs,maxLen,lX,clF_ment,clF_kill,cE_ment,cE_kill,uo,Nat.mul_one,hasK_nil,bs_mk,bs_app,bs_ext,bs_size,bs_toList,bs_at,bs_cells,List.take_length,imp_ga,guard_pk,guard_pk2,↓hold_pre,awayP,runOps,regK,step1,newK,genR,appR,obl,buildR,Value.cells,closeK,keepH,outV,retK,ret1,retC,RetV,Option.getD,runD,stepD,afterK,undef,simprocAttr,sxB,↓sxD,sxE,sxTab]))
 exact ⟨d-1,fuStZ M u (p'+1+1) ts m e (d-1) (X++[(fn,[120,46,103,111],q)]).length (X++[(fn,[120,46,103,111],q)]),by omega,le_sub ⟨rfl,rfl,rfl,rfl,trivial⟩ ⟨by simp[lkH,fuStZ],by simp[lkH,fuStZ],rfl,rfl,trivial⟩ rfl rfl rfl (keepLt_of rfl),d-1,p'+1+1,_,rfl,by rw[List.length_append,List.length_singleton];omega,by rw[List.length_append,List.length_singleton];omega,(fun s hs=>by
  rcases List.mem_append.1 hs with hs|hs
  ·exact hX s hs
  ·rw[List.mem_singleton.1 hs];exact ⟨hf1,rfl⟩),rfl⟩
def fsStZ(M:Mem)(u:Value)(p least c n:Nat)(X:List Fa):St:={env:=[(8,.ext (.int .i64 (c:Int))),(7,.slo 2000022 0 n 5),(2,.ext (.int .i64 (least:Int))),(0,.own 1000028 0)],hp:=[(2000022,34,faF X),(1000028,38,tpH u p)],M:=M,kb:=2000000,fx:=[1000028]}
theorem failuresOZ_ok(u:Value)(l:List Int)(p most least:Nat)(hu:IsL M intV64 u l)(hp:p<10000)(hm:most<1000)(hl:least≤10)
  (hK:∀n (X:List Fa) M' p',Mem.le M M'→n=X.length→X.length≤most→p'≤p+1+100*most→(∀f∈X,drF least f∧faOk M' f)→K (.slo 2000022 0 n 5) [(2000022,34,faF X),(1000028,38,tpH u p')] M'):CallS Try.prog 15 [.own 1000028 0,.ext (.int .i64 (most:Int)),.ext (.int .i64 (least:Int))] [(1000028,38,tpH u p)] M [] K:=by
 refine inlS (cs:=[]) Try.mixed Try.func15 rfl (by kernel_rfl) 2000000 rfl rfl ?_
 simp only[Try.f15]
 have uo:=hu.one
 have wm:IntKind.i64.wrap ((most:Int)+1)=((most+1:Nat):Int):=by rw[wrap_id (by omega) (by omega)];omega
 (replace hb0:=true_and True);refine Go1.mk ?_;repeat' ((first|(with_reducible refine Go1.go ?_)|((with_reducible first|refine brv_mk ?_ ?_|refine gsplitD ?_ ?_|refine gsplitG ?_ ?_)<;>intro h<;>(try simp only[Bool.not_eq_true',Bool.not_eq_false']at h)<;>replace hb0:=h)|((with_reducible refine isCall (f:=21) ?_);refine callA ?_)|((with_reducible refine isCallS (f:=21) ?_);refine (nextI_ok 1000028 u l _ _ hu (by omega) (by omega) (by omega) (fun x hx0 hx1=>Stop.mk ?_)))|(refine And.intro ?_ ?_;(try simp only[sxO]at *);omega)|fail)<;>(try simp (maxSteps:=1000000) only [hb0,tpH,uo,wm,hasK_nil,↓hold_pre,awayP,runOps,regK,step1,newK,genR,appR,obl,buildR,Value.cells,closeK,keepH,outV,retK,ret1,retC,RetV,Option.getD,runD,stepD,afterK,undef,simprocAttr,sxB,↓sxD,sxE,sxTab]))
 obtain ⟨y,rfl⟩:=Int.eq_ofNat_of_zero_le hx0
 refine Stop.go ?_
 (replace hb0:=true_and True);refine Go1.mk ?_;repeat' ((first|(with_reducible refine Go1.go ?_)|((with_reducible first|refine brv_mk ?_ ?_|refine gsplitD ?_ ?_|refine gsplitG ?_ ?_)<;>intro h<;>(try simp only[Bool.not_eq_true',Bool.not_eq_false']at h)<;>replace hb0:=h)|(refine And.intro ?_ ?_;(try simp only[sxO]at *);omega)|fail)<;>(try simp (maxSteps:=1000000) only [hb0,tpH,uo,wm,hasK_nil,↓hold_pre,awayP,runOps,regK,step1,newK,genR,appR,obl,buildR,Value.cells,closeK,keepH,outV,retK,ret1,retC,RetV,Option.getD,runD,stepD,afterK,undef,simprocAttr,sxB,↓sxD,sxE,sxTab]))
 refine ⟨fun d z=>∃M' c p' X,d=c∧c+X.length=y∧p'≤p+1+100*X.length∧Mem.le M M'∧(∀f∈X,drF least f∧faOk M' f)∧z=fsStZ M' u p' least c X.length X,⟨y,fsStZ M u (p+1) least y 0 [],(le_nil 7 2000022 34 5 rfl (.inl rfl)).trans (le_sub ⟨rfl,rfl,rfl,rfl,trivial⟩ ⟨rfl,rfl,trivial⟩ rfl rfl rfl (keepLt_of rfl)),⟨M,_,_,[],rfl,rfl,by simp,Mem.le.refl _,(fun s hs=>by cases hs),rfl⟩⟩,?_⟩
 rintro d z ⟨M1,c,p',X,rfl,hcX,hp',m1,hX,rfl⟩
 have lX:=faF_len X
 have htk:(faF X).take (X.length*5)=faF X:=List.take_of_length_le (by rw[lX];exact Nat.le_refl _)
 by_cases hc:0<d
 case neg=>
  obtain rfl:d=0:=by omega
  have d1:decide ((0:Int)<((0:Nat):Int))=false:=by decide
  (replace hb0:=true_and True);refine Go1.mk ?_;repeat' ((first|(with_reducible refine Go1.go ?_)|((with_reducible first|refine brv_mk ?_ ?_|refine gsplitD ?_ ?_|refine gsplitG ?_ ?_)<;>intro h<;>(try simp only[Bool.not_eq_true',Bool.not_eq_false']at h)<;>replace hb0:=h)|(refine And.intro ?_ ?_;(try simp only[sxO]at *);omega)|fail)<;>(try simp (maxSteps:=1000000) only [hb0,tpH,fsStZ,d1,lX,faF_ment,faF_kill,uo,hasK_nil,↓hold_pre,awayP,runOps,regK,step1,newK,genR,appR,obl,buildR,Value.cells,closeK,keepH,outV,retK,ret1,retC,RetV,Option.getD,runD,stepD,afterK,undef,simprocAttr,sxB,↓sxD,sxE,sxTab]))
  exact hK X.length X M1 p' m1 rfl (by omega) (by omega) hX
 have d1:decide ((0:Int)<(d:Int))=true:=by simp;omega
 have wd:IntKind.i64.wrap ((d:Int)-1)=((d-1:Nat):Int):=by rw[wrap_id (by omega) (by omega)];omega
 (replace hb0:=true_and True);refine Go1.mk ?_;repeat' ((first|(with_reducible refine Go1.go ?_)|((with_reducible first|refine brv_mk ?_ ?_|refine gsplitD ?_ ?_|refine gsplitG ?_ ?_)<;>intro h<;>(try simp only[Bool.not_eq_true',Bool.not_eq_false']at h)<;>replace hb0:=h)|((with_reducible refine isCall (f:=11) ?_);refine callA ?_)|((with_reducible refine isCallS (f:=11) ?_);refine (failureZ_ok u l p' least (hu.le m1) (by omega) hl (fun f M2 p2 m2 hp2 hd hf _=>Stop.mk ?_)))|(refine And.intro ?_ ?_;(try simp only[sxO]at *);omega)|fail)<;>(try simp (maxSteps:=1000000) only [hb0,tpH,fsStZ,d1,lX,faF_ment,faF_kill,uo,hasK_nil,↓hold_pre,awayP,runOps,regK,step1,newK,genR,appR,obl,buildR,Value.cells,closeK,keepH,outV,retK,ret1,retC,RetV,Option.getD,runD,stepD,afterK,undef,simprocAttr,sxB,↓sxD,sxE,sxTab]))
 have m2:Mem.le M1 M2:=m2
 obtain ⟨pk,ts,e,m,v,C⟩:=f
 have vo:v.oneCell'=true:=hf.1.one
 have hs:=faF_app X pk ts e m v C
 refine Stop.go ?_
 (replace hb0:=true_and True);refine Go1.mk ?_;repeat' ((first|(with_reducible refine Go1.go ?_)|((with_reducible first|refine brv_mk ?_ ?_|refine gsplitD ?_ ?_|refine gsplitG ?_ ?_)<;>intro h<;>(try simp only[Bool.not_eq_true',Bool.not_eq_false']at h)<;>replace hb0:=h)|(refine And.intro ?_ ?_;(try simp only[sxO]at *);omega)|fail)<;>(try simp (maxSteps:=1000000) only [hb0,tpH,fsStZ,faV,d1,wd,vo,htk,hs,maxLen,lX,faF_ment,faF_kill,uo,Nat.mul_one,hasK_nil,↓hold_pre,awayP,runOps,regK,step1,newK,genR,appR,obl,buildR,Value.cells,closeK,keepH,outV,retK,ret1,retC,RetV,Option.getD,runD,stepD,afterK,undef,simprocAttr,sxB,↓sxD,sxE,sxTab]))
 exact ⟨d-1,fsStZ M2 u p2 least (d-1) (X++[(pk,ts,e,m,v,C)]).length (X++[(pk,ts,e,m,v,C)]),by omega,le_sub ⟨rfl,by simp[lk,fsStZ],rfl,rfl,trivial⟩ ⟨by simp[lkH,fsStZ],rfl,trivial⟩ rfl rfl rfl (keepLt_of rfl),M2,d-1,p2,_,rfl,by rw[List.length_append,List.length_singleton];omega,by rw[List.length_append,List.length_singleton];omega,m1.trans m2,(fun s hs=>by
  rcases List.mem_append.1 hs with hs|hs
  ·obtain ⟨a,b1,b2,b3,b4⟩:=hX s hs
   exact ⟨a,b1.le m2,b2,b3,b4⟩
  ·rw[List.mem_singleton.1 hs];exact ⟨hd,hf⟩),rfl⟩
theorem failuresZ_ok(u:Value)(l:List Int)(p most least:Nat)(hu:IsL M intV64 u l)(hp:p<10000)(hm:most<1000)(hl:least≤10)
  (hK:∀v (X:List Fa) M' p',Mem.le M M'→IsR M' 5 faC v X→X.length≤most→p'≤p+1+100*most→(∀f∈X,drF least f∧faOk M' f)→K (.ext v) [(1000028,38,tpH u p')] M'):CallS Try.prog 15 [.own 1000028 0,.ext (.int .i64 (most:Int)),.ext (.int .i64 (least:Int))] [(1000028,38,tpH u p)] M [] K:=by
 refine CallS.frzF (failuresOZ_ok u l p most least hu hp hm hl fun n X M1 p1 m1 hn hX hp1 hf=>?_)
 exact .inr ⟨none,[],[],2000022,n,5,_,X.flatMap faC,_,rfl,rfl,rfl,rfl,by rw[flat_len (z:=5) (fun _=>rfl),hn],rfl,fun v M2 a b c=>hK v X M2 p1 (m1.trans a) (by unfold IsR;rw[←hn];exact b) hX hp1 (fun f hf'=>⟨(hf f hf').1,(hf f hf').2.1.le a,(hf f hf').2.2⟩)⟩
end
theorem slops_hi(a b:Operand):(#[a]++(none:Option Operand).toArray++(some b).toArray++(none:Option Operand).toArray).toList=[a,b]:=rfl
theorem slops_lo(a b:Operand):(#[a]++(some b).toArray++(none:Option Operand).toArray++(none:Option Operand).toArray).toList=[a,b]:=rfl
theorem faF_take{X:List Fa}{a:Nat}(h:a≤X.length):(faF X).take (a*5)=faF (X.take a):=by
 conv=>lhs;rw[←List.take_append_drop a X,faF_app2]
 rw[List.take_append_of_le_length (by rw[faF_len,List.length_take];omega),List.take_of_length_le (by rw[faF_len,List.length_take];omega)]
theorem faF_drop{X:List Fa}{a:Nat}(h:a≤X.length):(faF X).drop (a*5)=faF (X.drop a):=by
 conv=>lhs;rw[←List.take_append_drop a X,faF_app2]
 rw[List.drop_append,List.drop_of_length_le (by rw[faF_len,List.length_take];omega),faF_len,List.length_take,Nat.min_eq_left h,Nat.sub_self];rfl
theorem faF_one:∀{X:List Fa},(∀f∈X,f.2.2.2.2.1.oneCell'=true)→allOne (faF X)
 | [],_=>trivial
 | f :: X,h=>by
  rw[faF_cons]
  exact ⟨rfl,rfl,rfl,rfl,h f List.mem_cons_self,faF_one fun x hx=>h x (List.mem_cons_of_mem _ hx)⟩
section
variable {M:Mem}{K:AV→Hp→Mem→Prop}
def goA(M:Mem)(x v1:Value)(d:Int)(n i p:Nat)(P:List Nat)(Y:List Fa):St:={env:=[(12,.ext (.int .i64 (i:Int))),(11,.slo 1000060 0 i 5),(10,.slo 1000036 0 n 1),(9,.ext x),(8,.own 1000031 0),(2,.ext (.int .i64 d))],hp:=[(1000060,34,faF Y),(1000036,3,cE natV P),(1000031,38,tpH v1 p)],M:=M,kb:=1000000,fx:=[]}
def goB(M:Mem)(x v1:Value)(d:Int)(n i p a k:Nat)(P:List Nat)(Y:List Fa):St:={env:=[(14,.ext (.int .i64 (k:Int))),(13,.ext (.int .i64 (a:Int))),(12,.ext (.int .i64 (i:Int))),(11,.slo 1000060 0 (i+1) 5),(10,.slo 1000036 0 n 1),(9,.ext x),(8,.own 1000031 0),(2,.ext (.int .i64 d))],hp:=[(1000060,34,faF Y),(1000036,3,cE natV P),(1000031,38,tpH v1 p)],M:=M,kb:=1000000,fx:=[]}
def goC(M:Mem)(x pl ga gb U1 U2:Value)(i:Nat):St:={env:=[(21,.ext (.int .i64 (i:Int))),(20,.ext U2),(19,.ext U1),(17,.ext gb),(15,.ext ga),(10,.ext pl),(9,.ext x)],hp:=[],M:=M,kb:=1000000,fx:=[]}
def goD(M:Mem)(x pl ga gb U1 U2:Value)(i k:Nat):St:={env:=[(22,.ext (.int .i64 (k:Int))),(21,.ext (.int .i64 (i:Int))),(20,.ext U2),(19,.ext U1),(17,.ext gb),(15,.ext ga),(10,.ext pl),(9,.ext x)],hp:=[],M:=M,kb:=1000000,fx:=[]}
def goE(M:Mem)(ga gb:Value)(i:Nat):St:={env:=[(23,.ext (.int .i64 (i:Int))),(17,.ext gb),(15,.ext ga)],hp:=[],M:=M,kb:=1000000,fx:=[]}
def goF(M:Mem)(ga gb:Value)(i k:Nat)(b:Bool):St:={env:=[(25,.ext (.int .i64 (k:Int))),(24,.ext (.bool b)),(23,.ext (.int .i64 (i:Int))),(17,.ext gb),(15,.ext ga)],hp:=[],M:=M,kb:=1000000,fx:=[]}
theorem order27_ok(v0 v1:Value)(l0 l1:List Int)(d:Int)(hl:IsL M intV64 v0 l0)(hl1:IsL M intV64 v1 l1)(hK:∀M',Mem.le M M'→K (.ext (.bool true)) [] M'):CallS Try.prog 6 [.ext v0,.ext v1,.ext (.int .i64 d)] [] M [] K:=by
 refine inlS (cs:=[16]) Try.mixed Try.func6 rfl (by kernel_rfl) 1000000 rfl rfl ?_
 simp only[Try.f6]
 have vo:=hl.one
 have vo1:=hl1.one
 (try with_reducible refine Fz.of ?_);(replace hb0:=true_and True);refine Go1.mk ?_;repeat' ((first|(with_reducible refine Go1.go ?_)|((with_reducible first|refine brv_mk ?_ ?_|refine gsplitD ?_ ?_|refine gsplitG ?_ ?_)<;>intro h<;>(try simp only[Bool.not_eq_true',Bool.not_eq_false']at h)<;>replace hb0:=h)|((with_reducible refine isCall (f:=15) ?_);refine callA ?_)|((with_reducible refine isCallS (f:=15) ?_);refine (failuresZ_ok v0 l0 0 16 0 hl (by decide) (by decide) (by decide) (fun x X M1 p0 m1 hx hX hp hf=>Stop.mk ?_)))|(refine And.intro ?_ ?_;(try simp only[sxO]at *);omega)|fail)<;>(try simp (maxSteps:=1000000) only [hb0,vo,vo1,hasK_nil,↓hold_pre,awayP,runOps,regK,step1,newK,genR,appR,obl,buildR,Value.cells,closeK,keepH,outV,retK,ret1,retC,RetV,Option.getD,runD,stepD,afterK,undef,simprocAttr,sxB,↓sxD,sxE,sxTab]))
 have m1:Mem.le M M1:=m1
 have xo:=hx.one
 have xl:=hx.len
 have xs:=hx.sl
 obtain ⟨n,hn⟩:∃n,n=X.length:=⟨_,rfl⟩
 rw[←hn]at hX xl
 have n0:(0:Int)≤(n:Int):=by omega
 have nT:((n:Int)).toNat=n:=by omega
 have hz:(repN [.int .i64 0] n).map AV.ext=cE natV (List.replicate n 0):=cE_rep natV n 0
 refine Stop.go ?_
 (try with_reducible refine Fz.of ?_);(replace hb0:=true_and True);refine Go1.mk ?_;repeat' ((first|(with_reducible refine Go1.go ?_)|((with_reducible first|refine brv_mk ?_ ?_|refine gsplitD ?_ ?_|refine gsplitG ?_ ?_)<;>intro h<;>(try simp only[Bool.not_eq_true',Bool.not_eq_false']at h)<;>replace hb0:=h)|(refine And.intro ?_ ?_;(try simp only[sxO]at *);omega)|fail)<;>(try simp (maxSteps:=1000000) only [hb0,tpH,n0,nT,hz,maxLen,xo,xl,xs,vo,vo1,cE_ment,cE_kill,hasK_nil,↓hold_pre,awayP,runOps,regK,step1,newK,genR,appR,obl,buildR,Value.cells,closeK,keepH,outV,retK,ret1,retC,RetV,Option.getD,runD,stepD,afterK,undef,simprocAttr,sxB,↓sxD,sxE,sxTab]))
 obtain ⟨yl,hyl⟩:∃yl:List Nat→List Fa,yl=fun Z=>Z.map fun j=>X.getD j faA:=⟨_,rfl⟩
 have hyll:∀Z,(yl Z).length=Z.length:=fun Z=>by rw[hyl];exact List.length_map _
 refine ⟨fun z=>∃P Z,P.length=n∧InsI n P Z∧z=goA M1 x v1 d n n n P (yl Z),?_,?_⟩
 ·(try with_reducible refine Fz.of ?_);(replace hb0:=true_and True);refine Go1.mk ?_;repeat' ((first|(with_reducible refine Go1.go ?_)|((with_reducible first|refine brv_mk ?_ ?_|refine gsplitD ?_ ?_|refine gsplitG ?_ ?_)<;>intro h<;>(try simp only[Bool.not_eq_true',Bool.not_eq_false']at h)<;>replace hb0:=h)|(refine And.intro ?_ ?_;(try simp only[sxO]at *);omega)|fail)<;>(try simp (maxSteps:=1000000) only [hb0,xo,xl,xs,vo,vo1,cE_ment,cE_kill,hasK_nil,↓hold_pre,awayP,runOps,regK,step1,newK,genR,appR,obl,buildR,Value.cells,closeK,keepH,outV,retK,ret1,retC,RetV,Option.getD,runD,stepD,afterK,undef,simprocAttr,sxB,↓sxD,sxE,sxTab]))
  refine ⟨fun k z=>∃i P Z,k=n-i∧i≤n∧P.length=n∧InsI i P Z∧z=goA M1 x v1 d n i i P (yl Z),⟨n,goA M1 x v1 d n 0 0 (List.replicate n 0) [],(le_nil 11 1000060 34 5 rfl (.inl (by simp[awayB,mentE,mentH,mentL,AV.ment,hasK,cE_ment]))).trans (le_sub ⟨rfl,rfl,rfl,rfl,rfl,rfl,trivial⟩ ⟨by simp[lkH,goA,faF],by simp[lkH,goA],by simp[lkH,goA,tpH],trivial⟩ rfl rfl rfl (by simp[keepLt,goA,lkH])),0,_,[],rfl,Nat.zero_le _,List.length_replicate,.zero,by rw[hyl];rfl⟩,?_⟩
  rintro k z ⟨i,P,Z,rfl,hi,hP,hI,rfl⟩
  have lY:=faF_len (yl Z)
  have lP:(cE natV P).length=n:=by rw[cE_len,hP]
  rw[hyll,hI.len]at lY
  by_cases hlt:i<n
  case neg=>
   obtain rfl:n=i:=by omega
   have c1:decide ((n:Int)<(n:Int))=false:=by simp
   (try with_reducible refine Fz.of ?_);(replace hb0:=true_and True);refine Go1.mk ?_;repeat' ((first|(with_reducible refine Go1.go ?_)|((with_reducible first|refine brv_mk ?_ ?_|refine gsplitD ?_ ?_|refine gsplitG ?_ ?_)<;>intro h<;>(try simp only[Bool.not_eq_true',Bool.not_eq_false']at h)<;>replace hb0:=h)|(refine And.intro ?_ ?_;(try simp only[sxO]at *);omega)|fail)<;>(try simp (maxSteps:=1000000) only [hb0,tpH,goA,c1,xo,xl,xs,lY,lP,faF_ment,faF_kill,cE_ment,cE_kill,hasK_nil,↓hold_pre,awayP,runOps,regK,step1,newK,genR,appR,obl,buildR,Value.cells,closeK,keepH,outV,retK,ret1,retC,RetV,Option.getD,runD,stepD,afterK,undef,simprocAttr,sxB,↓sxD,sxE,sxTab]))
   exact ⟨goA M1 x v1 d n n n P (yl Z),le_sub ⟨rfl,rfl,rfl,rfl,rfl,rfl,trivial⟩ ⟨rfl,rfl,rfl,trivial⟩ rfl rfl rfl (by simp[keepLt,goA,lkH]),P,Z,hP,hI,rfl⟩
  have c1:decide ((i:Int)<(n:Int))=true:=by rw[decide_eq_true_eq];omega
  have z2:(0:Int)≤(i:Int):=by omega
  have z3:(i:Int)<(n:Int):=by omega
  have wi:IntKind.i64.wrap ((i:Int)+1)=((i+1:Nat):Int):=by rw[wrap_id (by omega) (by omega)];omega
  (try with_reducible refine Fz.of ?_);(replace hb0:=true_and True);refine Go1.mk ?_;repeat' ((first|(with_reducible refine Go1.go ?_)|((with_reducible first|refine brv_mk ?_ ?_|refine gsplitD ?_ ?_|refine gsplitG ?_ ?_)<;>intro h<;>(try simp only[Bool.not_eq_true',Bool.not_eq_false']at h)<;>replace hb0:=h)|((with_reducible refine isCall (f:=21) ?_);refine callA ?_)|((with_reducible refine isCallS (f:=21) ?_);refine (nextI_ok 1000031 v1 l1 i ((i+1:Nat):Int) (hl1.le m1) (by omega) (by omega) (by omega) (fun y hx0 hx1=>Stop.mk ?_)))|(refine And.intro ?_ ?_;(try simp only[sxO]at *);omega)|fail)<;>(try simp (maxSteps:=1000000) only [hb0,tpH,goA,c1,wi,xo,xl,xs,vo,vo1,lY,lP,faF_ment,faF_kill,cE_ment,cE_kill,hasK_nil,↓hold_pre,awayP,runOps,regK,step1,newK,genR,appR,obl,buildR,Value.cells,closeK,keepH,outV,retK,ret1,retC,RetV,Option.getD,runD,stepD,afterK,undef,simprocAttr,sxB,↓sxD,sxE,sxTab]))
  obtain ⟨a,rfl⟩:=Int.eq_ofNat_of_zero_le hx0
  have ha:a≤i:=by omega
  have b2:(a:Int)≤(i:Int):=by omega
  have b3:(0:Int)≤(a:Int):=by omega
  have hiX:i<X.length:=by omega
  have xn:=hx.nn hiX
  have xat:lookM Try.prog 34 M1 (elemP x 5 i)=some (faV X[i].1 X[i].2.1 X[i].2.2.1 X[i].2.2.2.1 X[i].2.2.2.2.1):=hx.at (P:=Try.prog) (T:=34) (fun _=>rfl) tk34 tz34 hiX
  unfold faV at xat
  have fjo:=(hf _ (List.getElem_mem hiX)).2.1.one
  have hYl:(yl Z).length=i:=by rw[hyll,hI.len]
  have hd1:(faF (yl Z)).drop (a*5)=faF ((yl Z).drop a):=faF_drop (by omega)
  have ht1:(faF (yl Z)).take (a*5)=faF ((yl Z).take a):=faF_take (by omega)
  have hdl:(faF ((yl Z).drop a)).length=(i-a)*5:=by rw[faF_len,List.length_drop,hYl]
  have htd:(faF ((yl Z).drop a)).take ((i-a)*5)=faF ((yl Z).drop a):=List.take_of_length_le (by rw[hdl];exact Nat.le_refl _)
  have htl:(faF ((yl Z).take a)).length=a*5:=by rw[faF_len,List.length_take,hYl,Nat.min_eq_left ha]
  have hsum:a+(1+(i-a))=i+1:=by omega
  have hone:∀f∈yl Z,f.2.2.2.2.1.oneCell'=true:=fun f h=>by
   rw[hyl]at h
   obtain ⟨j,_,rfl⟩:=List.mem_map.1 h
   by_cases hj:j<X.length
   ·rw[List.getD_eq_getElem?_getD,List.getElem?_eq_getElem hj];exact (hf _ (List.getElem_mem hj)).2.1.one
   ·rw[List.getD_eq_getElem?_getD,List.getElem?_eq_none (by omega)];rfl
  have o1:=eq_true (faF_one fun f h=>hone f (List.mem_of_mem_drop (i:=a) h))
  have hc5:AV.ext (.string (bs X[i].1)) :: .ext (.string (bs X[i].2.1)) :: .ext (.int .i64 X[i].2.2.1) :: .ext (.string (bs X[i].2.2.2.1)) :: .ext X[i].2.2.2.2.1 :: faF ((yl Z).drop a)=faF (X[i] :: (yl Z).drop a):=by rw[faF_cons];rfl
  have htw:(faF (X[i] :: (yl Z).drop a)).take ((1+(i-a))*5)=faF (X[i] :: (yl Z).drop a):=List.take_of_length_le (by rw[faF_len,List.length_cons,List.length_drop,hYl];omega)
  have o2:=eq_true (faF_one (X:=X[i] :: (yl Z).drop a) fun f h=>by
   rcases List.mem_cons.1 h with rfl|h
   ·exact fjo
   ·exact hone f (List.mem_of_mem_drop h))
  have hjn:faF ((yl Z).take a)++faF (X[i] :: (yl Z).drop a)=faF (yl (Z.take a++i :: Z.drop a)):=by
   rw[←faF_app2,hyl]
   dsimp only
   rw[List.map_append,List.map_cons,List.map_take,List.map_drop,List.getD_eq_getElem?_getD,List.getElem?_eq_getElem hiX];rfl
  have e1:a*5+(i-a)*5≤i*5:=by omega
  have e2:a*5≤i*5:=by omega
  have e3:(1+(i-a))*5≤(i-a)*5+1+1+1+1+1:=by omega
  have e8:(1+(i-a))*5≤(faF (X[i] :: (yl Z).drop a)).length:=by rw[faF_len,List.length_cons,List.length_drop,hYl];omega
  have e4:(1+(i-a))*80≤140737488355328:=by omega
  have e5:1+(i-a)≤9223372036854775807:=by omega
  have e6:(i+1)*80≤140737488355328:=by omega
  have e7:i≤9223372036854775806:=by omega
  refine Stop.go ?_
  (try with_reducible refine Fz.of ?_);(replace hb0:=true_and True);refine Go1.mk ?_;repeat' ((first|(with_reducible refine Go1.go ?_)|((with_reducible first|refine brv_mk ?_ ?_|refine gsplitD ?_ ?_|refine gsplitG ?_ ?_)<;>intro h<;>(try simp only[Bool.not_eq_true',Bool.not_eq_false']at h)<;>replace hb0:=h)|((with_reducible refine isDraw [some 48,some 49,some 50,some 51,some 52,some 53,some 54,some 55,some 56,some 57,some 58,some 59,some 60,some 11] (by decide) ?_);refine draw_rule [(0,[]),(1,[]),(2,[]),(3,[2]),(4,[2]),(5,[2]),(6,[2]),(7,[2]),(8,[2,6]),(9,[2,6]),(10,[2,6]),(11,[0,1,2]),(12,[]),(13,[])] [[],[],[0,1],[],[],[3,4],[3,4,5],[3,4,5,6],[],[],[8,9],[3,4,5,6,7,8,9,10],[0,1,2,3,4,5,6,7,8,9,10,11],[0,1,2,3,4,5,6,7,8,9,10,11,12]] [48,49,50,51,52,53,54,55,56,57,58,59] [] (by kernel_rfl) (by kernel_rfl) (by kernel_rfl) (by kernel_rfl) (by exact trivial) ?_)|(refine And.intro ?_ ?_;(try simp only[sxO]at *);omega)|fail)<;>(try simp (maxSteps:=1000000) only [hb0,wi,c1,z2,z3,b2,b3,ha,xn,xat,fjo,hd1,ht1,hdl,htd,htl,hsum,hc5,htw,o1,o2,hjn,e1,e2,e3,e8,e4,e5,e6,e7,slops_hi,slops_lo,maxLen,xo,xl,xs,vo,vo1,lY,lP,faF_ment,faF_kill,cE_ment,cE_kill,hasK_nil,Nat.mul_one,Nat.zero_add,Nat.sub_zero,Int.toNat_natCast,Int.toNat_zero,↓hold_pre,awayP,runOps,regK,step1,newK,genR,appR,obl,buildR,Value.cells,closeK,keepH,outV,retK,ret1,retC,RetV,Option.getD,runD,stepD,afterK,undef,simprocAttr,sxB,↓sxD,sxE,sxTab]))
  obtain ⟨Y2,hY2⟩:∃Y2,Y2=yl (Z.take a++i :: Z.drop a):=⟨_,rfl⟩
  rw[←hY2]
  have hY2l:Y2.length=i+1:=by rw[hY2,hyll,List.length_append,List.length_cons,List.length_take,List.length_drop,hI.len];omega
  have lY2:=faF_len Y2
  rw[hY2l]at lY2
  refine ⟨fun k' z=>∃k Q,k'=i-k∧k≤i∧Q.length=n∧(∀j,j<k→Q.getD j 0=bumpN a (P.getD j 0))∧(∀j,k≤j→Q.getD j 0=P.getD j 0)∧z=goB M1 x v1 d n i (i+1) a k Q Y2,⟨i,goB M1 x v1 d n i (i+1) a 0 P Y2,le_sub ⟨rfl,rfl,rfl,rfl,rfl,rfl,rfl,rfl,trivial⟩ ⟨rfl,rfl,rfl,trivial⟩ rfl rfl rfl (by simp[keepLt,goB,lkH]),0,P,rfl,Nat.zero_le _,hP,(fun j h=>absurd h (Nat.not_lt_zero _)),(fun _ _=>rfl),rfl⟩,?_⟩
  rintro k' z ⟨k,Q,rfl,hk,hQ,hq1,hq2,rfl⟩
  have lQ:(cE natV Q).length=n:=by rw[cE_len,hQ]
  by_cases hki:k<i
  case neg=>
   obtain rfl:k=i:=by omega
   have d1:decide ((k:Int)<(k:Int))=false:=by simp
   have hset:(cE natV Q).set k (.ext (.int .i64 (a:Int)))=cE natV (Q.set k a):=cE_set natV Q k a
   (try with_reducible refine Fz.of ?_);(replace hb0:=true_and True);refine Go1.mk ?_;repeat' ((first|(with_reducible refine Go1.go ?_)|((with_reducible first|refine brv_mk ?_ ?_|refine gsplitD ?_ ?_|refine gsplitG ?_ ?_)<;>intro h<;>(try simp only[Bool.not_eq_true',Bool.not_eq_false']at h)<;>replace hb0:=h)|(refine And.intro ?_ ?_;(try simp only[sxO]at *);omega)|fail)<;>(try simp (maxSteps:=1000000) only [hb0,tpH,goB,d1,z2,z3,hset,wi,hlt,lY2,lQ,xo,faF_ment,faF_kill,cE_ment,cE_kill,hasK_nil,Nat.mul_one,Nat.zero_add,↓hold_pre,awayP,runOps,regK,step1,newK,genR,appR,obl,buildR,Value.cells,closeK,keepH,outV,retK,ret1,retC,RetV,Option.getD,runD,stepD,afterK,undef,simprocAttr,sxB,↓sxD,sxE,sxTab]))
   have hI2:InsI (k+1) (Q.set k a) (Z.take a++k :: Z.drop a):=hI.next ha (fun j hj=>by rw[getD_setN _ _ _ _ (by omega),if_neg (by omega)];exact hq1 j hj) (by rw[getD_setN _ _ _ _ (by omega),if_pos rfl])
   exact ⟨n-(k+1),goA M1 x v1 d n (k+1) (k+1) (Q.set k a) (yl (Z.take a++k :: Z.drop a)),by omega,le_sub ⟨rfl,rfl,rfl,rfl,rfl,rfl,trivial⟩ ⟨by rw[←hY2];rfl,rfl,rfl,trivial⟩ rfl rfl rfl (by simp[keepLt,goA,lkH]),k+1,_,_,rfl,by omega,by rw[List.length_set];exact hQ,hI2,rfl⟩
  have d1:decide ((k:Int)<(i:Int))=true:=by rw[decide_eq_true_eq];omega
  have y2:(0:Int)≤(k:Int):=by omega
  have y3:(k:Int)<(n:Int):=by omega
  have y4:k<n:=by omega
  have wk:IntKind.i64.wrap ((k:Int)+1)=((k+1:Nat):Int):=by rw[wrap_id (by omega) (by omega)];omega
  have hqk:=hq2 k (Nat.le_refl _)
  have hPk:=(hI.at_ k hki).1
  rw[←hqk]at hPk
  have hat:=cE_at natV (show k<Q.length by omega)
  have hg:Q.getD k 0=Q[k]'(by omega):=by rw[List.getD_eq_getElem?_getD,List.getElem?_eq_getElem (by omega)];rfl
  rw[←hg]at hat
  obtain ⟨q,hq⟩:∃q,q=Q.getD k 0:=⟨_,rfl⟩
  rw[←hq]at hat hPk hqk
  by_cases haq:a≤q
  ·have d2:decide ((a:Int)≤(q:Int))=true:=by rw[decide_eq_true_eq];omega
   have wq:IntKind.i64.wrap ((q:Int)+1)=((q+1:Nat):Int):=by rw[wrap_id (by omega) (by omega)];omega
   have hset:(cE natV Q).set k (.ext (.int .i64 ((q+1:Nat):Int)))=cE natV (Q.set k (q+1)):=cE_set natV Q k (q+1)
   (try with_reducible refine Fz.of ?_);(replace hb0:=true_and True);refine Go1.mk ?_;repeat' ((first|(with_reducible refine Go1.go ?_)|((with_reducible first|refine brv_mk ?_ ?_|refine gsplitD ?_ ?_|refine gsplitG ?_ ?_)<;>intro h<;>(try simp only[Bool.not_eq_true',Bool.not_eq_false']at h)<;>replace hb0:=h)|(refine And.intro ?_ ?_;(try simp only[sxO]at *);omega)|fail)<;>(try simp (maxSteps:=1000000) only [hb0,tpH,goB,natV,d1,d2,y2,y3,y4,hat,wq,wk,hset,ge_iff_le,lY2,lQ,xo,faF_ment,faF_kill,cE_ment,cE_kill,hasK_nil,Nat.mul_one,Nat.zero_add,↓hold_pre,awayP,runOps,regK,step1,newK,genR,appR,obl,buildR,Value.cells,closeK,keepH,outV,retK,ret1,retC,RetV,Option.getD,runD,stepD,afterK,undef,simprocAttr,sxB,↓sxD,sxE,sxTab]))
   exact ⟨i-(k+1),goB M1 x v1 d n i (i+1) a (k+1) (Q.set k (q+1)) Y2,by omega,le_sub ⟨rfl,rfl,rfl,rfl,rfl,rfl,rfl,rfl,trivial⟩ ⟨rfl,rfl,rfl,trivial⟩ rfl rfl rfl (by simp[keepLt,goB,lkH]),k+1,_,rfl,by omega,by rw[List.length_set];exact hQ,(fun j hj=>by
    rw[getD_setN _ _ _ _ (by omega)]
    by_cases e:k=j
    ·subst e;rw[if_pos rfl,←hqk];unfold bumpN;rw[if_pos haq]
    ·rw[if_neg e];exact hq1 j (by omega)),(fun j hj=>by rw[getD_setN _ _ _ _ (by omega),if_neg (by omega)];exact hq2 j (by omega)),rfl⟩
  ·have d2:decide ((a:Int)≤(q:Int))=false:=by rw[decide_eq_false_iff_not];omega
   (try with_reducible refine Fz.of ?_);(replace hb0:=true_and True);refine Go1.mk ?_;repeat' ((first|(with_reducible refine Go1.go ?_)|((with_reducible first|refine brv_mk ?_ ?_|refine gsplitD ?_ ?_|refine gsplitG ?_ ?_)<;>intro h<;>(try simp only[Bool.not_eq_true',Bool.not_eq_false']at h)<;>replace hb0:=h)|(refine And.intro ?_ ?_;(try simp only[sxO]at *);omega)|fail)<;>(try simp (maxSteps:=1000000) only [hb0,tpH,goB,natV,d1,d2,y2,y3,y4,hat,wk,ge_iff_le,lY2,lQ,xo,faF_ment,faF_kill,cE_ment,cE_kill,hasK_nil,Nat.mul_one,Nat.zero_add,↓hold_pre,awayP,runOps,regK,step1,newK,genR,appR,obl,buildR,Value.cells,closeK,keepH,outV,retK,ret1,retC,RetV,Option.getD,runD,stepD,afterK,undef,simprocAttr,sxB,↓sxD,sxE,sxTab]))
   exact ⟨i-(k+1),goB M1 x v1 d n i (i+1) a (k+1) Q Y2,by omega,le_sub ⟨rfl,rfl,rfl,rfl,rfl,rfl,rfl,rfl,trivial⟩ ⟨rfl,rfl,rfl,trivial⟩ rfl rfl rfl (by simp[keepLt,goB,lkH]),k+1,_,rfl,by omega,hQ,(fun j hj=>by
    by_cases e:k=j
    ·subst e;rw[←hq,hqk];unfold bumpN;rw[if_neg (by omega)]
    ·exact hq1 j (by omega)),(fun j hj=>hq2 j (by omega)),rfl⟩
 rintro z ⟨P,Z,hP,hI,rfl⟩
 obtain ⟨Y,hY⟩:∃Y,Y=yl Z:=⟨_,rfl⟩
 rw[←hY]
 have hYl:Y.length=n:=by rw[hY,hyll,hI.len]
 have hnofx:∀(s:St),s.kb=1000000→(∀j x,lkH s.hp j=some x→1000000≤j)→∀k,k<s.kb→(lkH s.hp k).isSome=true→k∈s.fx:=fun s e h k hk hi=>by
  obtain ⟨y,hy⟩:=Option.isSome_iff_exists.1 hi
  have:=h k y hy
  omega
 refine Fz.bind (Fz.flat (k:=1000060) (n:=n) (w:=5) (T:=34) 11 (Y.flatMap faC) [(10,.slo 1000036 0 n 1),(9,.ext x),(2,.ext (.int .i64 d))] [(1000036,3,cE natV P)] rfl rfl (by rw[flat_len (z:=5) (fun _=>rfl),hYl]) (show 1000000≤1000060 by decide) ⟨rfl,rfl,rfl,trivial⟩ rfl ⟨rfl,trivial⟩ (by simp[mentH,cE_ment,hasK]) (by simp[keepLt,goA,lkH]) (hnofx _ rfl fun j x h=>by
  simp only[goA,lkH]at h
  split at h
  ·omega
  ·split at h
   ·omega
   ·split at h
    ·omega
    ·cases h) (fun M2 y m2 hvy _=>?_))
 have m2:Mem.le M1 M2:=m2
 refine Fz.flat (k:=1000036) (n:=n) (w:=1) (T:=3) 10 (P.map natV) [(11,.ext y),(9,.ext x),(2,.ext (.int .i64 d))] [] rfl rfl (by rw[List.length_map,hP,Nat.mul_one]) (show 1000000≤1000036 by decide) ⟨rfl,rfl,rfl,trivial⟩ rfl trivial rfl ⟨.inl (show 1000000≤1000036 by decide),trivial⟩ (hnofx _ rfl fun j x h=>by
  simp only[lkH]at h
  split at h
  ·omega
  ·cases h) (fun M3 pl m3 hvp _=>?_)
 have m3:Mem.le M2 M3:=m3
 have hy:IsR M3 5 faC y Y:=by unfold IsR;rw[hYl];exact SlM.le hvy m3
 have hpl:IsL M3 natV pl P:=by unfold IsL;rw[hP];exact hvp
 have hx3:=(hx.le m2).le m3
 have yo:=hy.one
 have ylen:=hy.len
 rw[hYl]at ylen
 have po:=hpl.one
 have pls:=hpl.sl
 have pll:=hpl.len
 rw[hP]at pll
 have hXo:∀f∈X,faOk M3 f:=fun f h=>((hf f h).2.le m2).le m3
 have hYin:∀f∈Y,f∈X:=fun f h=>by
  rw[hY,hyl]at h
  obtain ⟨j,hj,rfl⟩:=List.mem_map.1 h
  obtain ⟨q,hq,rfl⟩:=List.getElem_of_mem hj
  have h1:=(hI.mem q (by rw[←hI.len];exact hq)).1
  rw[List.getD_eq_getElem?_getD,List.getElem?_eq_getElem hq,Option.getD_some]at h1
  rw[List.getD_eq_getElem?_getD,List.getElem?_eq_getElem (by omega)]
  exact List.getElem_mem _
 have hYo:∀f∈Y,faOk M3 f:=fun f h=>hXo f (hYin f h)
 (try with_reducible refine Fz.of ?_);(replace hb0:=true_and True);refine Go1.mk ?_;repeat' ((first|(with_reducible refine Go1.go ?_)|((with_reducible first|refine brv_mk ?_ ?_|refine gsplitD ?_ ?_|refine gsplitG ?_ ?_)<;>intro h<;>(try simp only[Bool.not_eq_true',Bool.not_eq_false']at h)<;>replace hb0:=h)|(((with_reducible refine isCall (f:=17) ?_);refine callA_nil (by kernel_rfl) ?_;refine (fold_ok _ _ (Stop.mk ?_))))|(refine And.intro ?_ ?_;(try simp only[sxO]at *);omega)|fail)<;>(try simp (maxSteps:=1000000) only [hb0,goA,xo,xl,xs,yo,po,hasK_nil,↓hold_pre,awayP,runOps,regK,step1,newK,genR,appR,obl,buildR,Value.cells,closeK,keepH,outV,retK,ret1,retC,RetV,Option.getD,runD,stepD,afterK,undef,simprocAttr,sxB,↓sxD,sxE,sxTab]))
 obtain ⟨q0,q1⟩:=foldI_bd1 d 4 (by decide) (by decide)
 obtain ⟨w,hw⟩:=Int.eq_ofNat_of_zero_le q0
 rw[hw]at q1 ⊢
 have ww:IntKind.i64.wrap (1+(w:Int))=((1+w:Nat):Int):=by rw[wrap_id (by omega) (by omega)];omega
 obtain ⟨dd,hdd⟩:∃dd:Int,dd=((1+w:Nat):Int):=⟨_,rfl⟩
 rw[←hdd]at ww
 have he1:sgnE X dd=0:=sgnE_0 (fun f h=>(hf f h).1.noE (by decide)) (by omega) (by omega) (by omega)
 have he2:sgnE Y dd=0:=sgnE_0 (fun f h=>(hf f (hYin f h)).1.noE (by decide)) (by omega) (by omega) (by omega)
 refine Stop.go ?_
 (try with_reducible refine Fz.of ?_);(replace hb0:=true_and True);refine Go1.mk ?_;repeat' ((first|(with_reducible refine Go1.go ?_)|((with_reducible first|refine brv_mk ?_ ?_|refine gsplitD ?_ ?_|refine gsplitG ?_ ?_)<;>intro h<;>(try simp only[Bool.not_eq_true',Bool.not_eq_false']at h)<;>replace hb0:=h)|(((with_reducible refine isCall (f:=16) ?_);refine callA_nil (by kernel_rfl) ?_;refine (dsplit_ok x X dd hx3 hXo he1 (fun ga M4 f m4 lf gA=>Stop.mk ?_))))|(refine And.intro ?_ ?_;(try simp only[sxO]at *);omega)|fail)<;>(try simp (maxSteps:=1000000) only [hb0,ww,xo,xl,xs,yo,po,hasK_nil,↓hold_pre,awayP,runOps,regK,step1,newK,genR,appR,obl,buildR,Value.cells,closeK,keepH,outV,retK,ret1,retC,RetV,Option.getD,runD,stepD,afterK,undef,simprocAttr,sxB,↓sxD,sxE,sxTab]))
 have m4:Mem.le M3 M4:=m4
 have ao:ga.oneCell'=true:=by obtain ⟨_,h,_⟩:=gA;exact h.one
 refine Stop.go ?_
 (try with_reducible refine Fz.of ?_);(replace hb0:=true_and True);refine Go1.mk ?_;repeat' ((first|(with_reducible refine Go1.go ?_)|((with_reducible first|refine brv_mk ?_ ?_|refine gsplitD ?_ ?_|refine gsplitG ?_ ?_)<;>intro h<;>(try simp only[Bool.not_eq_true',Bool.not_eq_false']at h)<;>replace hb0:=h)|(((with_reducible refine isCall (f:=16) ?_);refine callA_nil (by kernel_rfl) ?_;refine (dsplit_ok y Y dd (hy.le m4) (fun f h=>(hYo f h).le m4) he2 (fun gb M5 g m5 lg gB=>Stop.mk ?_))))|(refine And.intro ?_ ?_;(try simp only[sxO]at *);omega)|fail)<;>(try simp (maxSteps:=1000000) only [hb0,xo,xl,xs,yo,po,ao,hasK_nil,↓hold_pre,awayP,runOps,regK,step1,newK,genR,appR,obl,buildR,Value.cells,closeK,keepH,outV,retK,ret1,retC,RetV,Option.getD,runD,stepD,afterK,undef,simprocAttr,sxB,↓sxD,sxE,sxTab]))
 have m5:Mem.le M4 M5:=m5
 obtain ⟨T,hT⟩:∃T,T=X.map faB:=⟨_,rfl⟩
 obtain ⟨S,hS⟩:∃S,S=Y.map faB:=⟨_,rfl⟩
 rw[←hT]at lf gA
 rw[←hS]at lg gB
 have hTl:T.length=n:=by rw[hT,List.length_map];exact hn.symm
 have hSl:S.length=n:=by rw[hS,List.length_map,hYl]
 rw[←hn]at lf
 rw[hYl]at lg
 have hPm:Perm2 n T S (fun i=>P.getD i 0) (fun i=>Z.getD i 0):=⟨hTl,hSl,hI.at_,hI.mem,fun i hi=>by
  obtain ⟨h1,_⟩:=hI.mem i hi
  have hiZ:i<Z.length:=by rw[hI.len];exact hi
  rw[hS,hT,hY,hyl,List.map_map,List.getD_eq_getElem?_getD,List.getElem?_map,List.getElem?_eq_getElem hiZ,Option.map_some,Option.getD_some,List.getD_eq_getElem?_getD,List.getElem?_map]
  have e:Z.getD i 0=Z[i]:=by rw[List.getD_eq_getElem?_getD,List.getElem?_eq_getElem hiZ];rfl
  rw[e]at h1 ⊢
  rw[List.getElem?_eq_getElem (show Z[i]<X.length by omega)]
  show faB (X.getD Z[i] faA)=_
  rw[List.getD_eq_getElem?_getD,List.getElem?_eq_getElem (show Z[i]<X.length by omega)];rfl⟩
 have hTok:∀s∈T,okB s.1 s.2:=fun s hs=>by
  rw[hT]at hs
  obtain ⟨f,h,rfl⟩:=List.mem_map.1 hs
  exact okB_fa (hXo f h)
 have hSok:∀s∈S,okB s.1 s.2:=fun s hs=>by
  rw[hS]at hs
  obtain ⟨f,h,rfl⟩:=List.mem_map.1 hs
  exact okB_fa (hYo f h)
 have oka:okO (grpO T f):=GrpO.ok (d:=dd) ⟨f,by rw[hTl];exact lf,rfl⟩ hTok (by omega)
 have okb:okO (grpO S g):=GrpO.ok (d:=dd) ⟨g,by rw[hSl];exact lg,rfl⟩ hSok (by omega)
 have hma:∀o∈grpO T f,∀j∈o.2,j<n:=fun o ho j hj=>by have:=mem_grpO o ho j hj;omega
 have hmb:∀o∈grpO S g,∀j∈o.2,j<n:=fun o ho j hj=>by have:=mem_grpO o ho j hj;omega
 have gA5:=gA.le m5
 have gA6:=gA5
 have gB6:=gB
 obtain ⟨L,a1,a2,a3⟩:=gA5
 obtain ⟨N,b1,b2,b3⟩:=gB
 have hLl:L.length=(rootsU f n).length:=by
  have:=congrArg List.length a3
  rw[List.length_map,grpO_len,hTl]at this;exact this
 have hNl:N.length=L.length:=by
  have:=congrArg List.length b3
  rw[List.length_map,grpO_len,hSl,←hPm.count lf lg,←hLl]at this;exact this
 have al:=a1.len
 have asl:=a1.sl
 have bl:=b1.len
 have bsl:=b1.sl
 have bo:=b1.one
 rw[hNl]at bl
 refine Stop.go ?_
 (try with_reducible refine Fz.of ?_);(replace hb0:=true_and True);refine Go1.mk ?_;repeat' ((first|(with_reducible refine Go1.go ?_)|((with_reducible first|refine brv_mk ?_ ?_|refine gsplitD ?_ ?_|refine gsplitG ?_ ?_)<;>intro h<;>(try simp only[Bool.not_eq_true',Bool.not_eq_false']at h)<;>replace hb0:=h)|(((with_reducible refine isCall (f:=19) ?_);refine callA_nil (by kernel_rfl) ?_;refine (together_ok ga (grpO T f) n (by omega) gA6 oka hma (fun U1 M6 m6 hU1=>Stop.mk ?_))))|(refine And.intro ?_ ?_;(try simp only[sxO]at *);omega)|fail)<;>(try simp (maxSteps:=1000000) only [hb0,xo,xl,xs,yo,po,ao,bo,al,asl,bl,bsl,hasK_nil,↓hold_pre,awayP,runOps,regK,step1,newK,genR,appR,obl,buildR,Value.cells,closeK,keepH,outV,retK,ret1,retC,RetV,Option.getD,runD,stepD,afterK,undef,simprocAttr,sxB,↓sxD,sxE,sxTab]))
 have m6:Mem.le M5 M6:=m6
 have U1o:U1.oneCell'=true:=by obtain ⟨us,h⟩:=hU1;exact one_sl h.out.sl
 refine Stop.go ?_
 (try with_reducible refine Fz.of ?_);(replace hb0:=true_and True);refine Go1.mk ?_;repeat' ((first|(with_reducible refine Go1.go ?_)|((with_reducible first|refine brv_mk ?_ ?_|refine gsplitD ?_ ?_|refine gsplitG ?_ ?_)<;>intro h<;>(try simp only[Bool.not_eq_true',Bool.not_eq_false']at h)<;>replace hb0:=h)|(((with_reducible refine isCall (f:=19) ?_);refine callA_nil (by kernel_rfl) ?_;refine (together_ok gb (grpO S g) n (by omega) (gB6.le m6) okb hmb (fun U2 M7 m7 hU2=>Stop.mk ?_))))|(refine And.intro ?_ ?_;(try simp only[sxO]at *);omega)|fail)<;>(try simp (maxSteps:=1000000) only [hb0,xo,xl,xs,yo,po,ao,bo,al,asl,bl,bsl,U1o,hasK_nil,↓hold_pre,awayP,runOps,regK,step1,newK,genR,appR,obl,buildR,Value.cells,closeK,keepH,outV,retK,ret1,retC,RetV,Option.getD,runD,stepD,afterK,undef,simprocAttr,sxB,↓sxD,sxE,sxTab]))
 have m7:Mem.le M6 M7:=m7
 have U2o:U2.oneCell'=true:=by obtain ⟨us,h⟩:=hU2;exact one_sl h.out.sl
 have hU1:=hU1.le m7
 have hp7:=((hpl.le m4).le m5).le (m6.trans m7)
 refine Stop.go ?_
 (try with_reducible refine Fz.of ?_);(replace hb0:=true_and True);refine Go1.mk ?_;repeat' ((first|(with_reducible refine Go1.go ?_)|((with_reducible first|refine brv_mk ?_ ?_|refine gsplitD ?_ ?_|refine gsplitG ?_ ?_)<;>intro h<;>(try simp only[Bool.not_eq_true',Bool.not_eq_false']at h)<;>replace hb0:=h)|(refine And.intro ?_ ?_;(try simp only[sxO]at *);omega)|fail)<;>(try simp (maxSteps:=1000000) only [hb0,xo,xl,xs,yo,po,ao,bo,al,asl,bl,bsl,U1o,U2o,hasK_nil,↓hold_pre,awayP,runOps,regK,step1,newK,genR,appR,obl,buildR,Value.cells,closeK,keepH,outV,retK,ret1,retC,RetV,Option.getD,runD,stepD,afterK,undef,simprocAttr,sxB,↓sxD,sxE,sxTab]))
 refine ⟨fun k z=>∃i,k=n-i∧i≤n∧z=goC M7 x pl ga gb U1 U2 i,⟨n,goC M7 x pl ga gb U1 U2 0,le_sub ⟨rfl,rfl,rfl,rfl,rfl,rfl,rfl,trivial⟩ trivial rfl rfl rfl trivial,0,rfl,Nat.zero_le _,rfl⟩,?_⟩
 rintro k z ⟨i,rfl,hi,rfl⟩
 by_cases hin:i<n
 case neg=>
  have c1:decide ((i:Int)<(n:Int))=false:=by rw[decide_eq_false_iff_not];omega
  (try with_reducible refine Fz.of ?_);(replace hb0:=true_and True);refine Go1.mk ?_;repeat' ((first|(with_reducible refine Go1.go ?_)|((with_reducible first|refine brv_mk ?_ ?_|refine gsplitD ?_ ?_|refine gsplitG ?_ ?_)<;>intro h<;>(try simp only[Bool.not_eq_true',Bool.not_eq_false']at h)<;>replace hb0:=h)|(refine And.intro ?_ ?_;(try simp only[sxO]at *);omega)|fail)<;>(try simp (maxSteps:=1000000) only [hb0,goC,c1,xo,xl,xs,ao,bo,al,asl,bl,bsl,hasK_nil,↓hold_pre,awayP,runOps,regK,step1,newK,genR,appR,obl,buildR,Value.cells,closeK,keepH,outV,retK,ret1,retC,RetV,Option.getD,runD,stepD,afterK,undef,simprocAttr,sxB,↓sxD,sxE,sxTab]))
  clear c1 hin hi
  have hLat:∀i (h:i<L.length),∃h2:i<(rootsU f n).length,L[i].o=(T.getD (bestU (ltG T) f n ((rootsU f n)[i]'h2)) ([],[]),memU f n ((rootsU f n)[i]'h2)):=fun i h=>by
   have h2:i<(rootsU f n).length:=by omega
   refine ⟨h2,?_⟩
   have e:(L.map GX.o)[i]'(by rw[List.length_map];exact h)=(grpO T f)[i]'(by rw[grpO_len,hTl];exact h2):=by simp only[a3]
   rw[List.getElem_map]at e
   rw[e,grpO_at (by rw[hTl];exact h2)]
   simp only[hTl]
  have hNat:∀i (h:i<N.length),∃h2:i<(rootsU g n).length,N[i].o=(S.getD (bestU (ltG S) g n ((rootsU g n)[i]'h2)) ([],[]),memU g n ((rootsU g n)[i]'h2)):=fun i h=>by
   have h2:i<(rootsU g n).length:=by rw[←hPm.count lf lg];omega
   refine ⟨h2,?_⟩
   have e:(N.map GX.o)[i]'(by rw[List.length_map];exact h)=(grpO S g)[i]'(by rw[grpO_len,hSl];exact h2):=by simp only[b3]
   rw[List.getElem_map]at e
   rw[e,grpO_at (by rw[hSl];exact h2)]
   simp only[hSl]
  have hsame:∀i (h:i<L.length),∃k,∃h2:k<N.length,cmpG (L[i].m,L[i].C) (N[k].m,N[k].C)=0∧L[i].l.length=N[k].l.length:=fun i h=>by
   obtain ⟨h2,e⟩:=hLat i h
   obtain ⟨r1,r2⟩:=rootsU_in.1 (List.getElem_mem h2)
   generalize (rootsU f n)[i]=r at *
   have hgr:=rootsU_in2 lg (hPm.pp r r1).1
   obtain ⟨k,hk,ek⟩:=List.getElem_of_mem hgr
   have hkN:k<N.length:=by rw[←hPm.count lf lg]at hk;omega
   obtain ⟨_,e2⟩:=hNat k hkN
   rw[ek]at e2
   have f1:(L[i].m,L[i].C)=_:=congrArg Prod.fst e
   have f2:L[i].l=_:=congrArg Prod.snd e
   have f3:(N[k].m,N[k].C)=_:=congrArg Prod.fst e2
   have f4:N[k].l=_:=congrArg Prod.snd e2
   exact ⟨k,hkN,by rw[f1,f3];exact hPm.best lf lg r1 r2,by rw[f2,f4];exact hPm.mems lf lg r1 r2⟩
  have a17:=(a1.le m6).le m7
  have b17:=(b1.le m6).le m7
  have hOL:∀i (h:i<L.length),L[i].C.length<4000000000000000000:=fun i h=>by
   have hi:i<(grpO T f).length:=by rw[grpO_len,hTl];omega
   have e:(L.map GX.o)[i]'(by rw[List.length_map];exact h)=(grpO T f)[i]'hi:=by simp only[a3]
   rw[List.getElem_map]at e
   have:=(oka.at_ _ (List.getElem_mem hi)).2.2
   rw[←e]at this
   have this:L[i].C.length<1000000:=this
   omega
  have hON:∀i (h:i<N.length),N[i].C.length<4000000000000000000:=fun i h=>by
   have hi:i<(grpO S g).length:=by rw[grpO_len,hSl,←hPm.count lf lg];omega
   have e:(N.map GX.o)[i]'(by rw[List.length_map];exact h)=(grpO S g)[i]'hi:=by simp only[b3]
   rw[List.getElem_map]at e
   have:=(okb.at_ _ (List.getElem_mem hi)).2.2
   rw[←e]at this
   have this:N[i].C.length<1000000:=this
   omega
  have hL64:L.length≤n:=by
   have h1:=List.length_filter_le (fun j=>f j==j) (List.range n)
   rw[List.length_range]at h1
   rw[hLl];exact h1
  refine ⟨fun k z=>∃i,k=L.length-i∧i≤L.length∧z=goE M7 ga gb i,⟨L.length,goE M7 ga gb 0,le_sub ⟨rfl,rfl,rfl,trivial⟩ trivial rfl rfl rfl trivial,0,rfl,Nat.zero_le _,rfl⟩,?_⟩
  rintro k z ⟨i,rfl,hi,rfl⟩
  by_cases hiL:i<L.length
  case neg=>
   have c1:decide ((i:Int)<(L.length:Int))=false:=by rw[decide_eq_false_iff_not];omega
   (try with_reducible refine Fz.of ?_);(replace hb0:=true_and True);refine Go1.mk ?_;repeat' ((first|(with_reducible refine Go1.go ?_)|((with_reducible first|refine brv_mk ?_ ?_|refine gsplitD ?_ ?_|refine gsplitG ?_ ?_)<;>intro h<;>(try simp only[Bool.not_eq_true',Bool.not_eq_false']at h)<;>replace hb0:=h)|(((with_reducible refine isCall (f:=9) ?_);refine callA_nil (by kernel_rfl) ?_;refine (known27_ok (fun M8 m8=>Stop.mk ?_))))|(refine And.intro ?_ ?_;(try simp only[sxO]at *);omega)|fail)<;>(try simp (maxSteps:=1000000) only [hb0,goE,c1,ao,bo,al,asl,bl,bsl,hasK_nil,↓hold_pre,awayP,runOps,regK,step1,newK,genR,appR,obl,buildR,Value.cells,closeK,keepH,outV,retK,ret1,retC,RetV,Option.getD,runD,stepD,afterK,undef,simprocAttr,sxB,↓sxD,sxE,sxTab]))
   refine Stop.go ?_
   (try with_reducible refine Fz.of ?_);(replace hb0:=true_and True);refine Go1.mk ?_;repeat' ((first|(with_reducible refine Go1.go ?_)|((with_reducible first|refine brv_mk ?_ ?_|refine gsplitD ?_ ?_|refine gsplitG ?_ ?_)<;>intro h<;>(try simp only[Bool.not_eq_true',Bool.not_eq_false']at h)<;>replace hb0:=h)|(refine And.intro ?_ ?_;(try simp only[sxO]at *);omega)|fail)<;>(try simp (maxSteps:=1000000) only [hb0,hasK_nil,↓hold_pre,awayP,runOps,regK,step1,newK,genR,appR,obl,buildR,Value.cells,closeK,keepH,outV,retK,ret1,retC,RetV,Option.getD,runD,stepD,afterK,undef,simprocAttr,sxB,↓sxD,sxE,sxTab]))
   exact hK _ (m1.trans (m2.trans (m3.trans (m4.trans (m5.trans (m6.trans (m7.trans m8)))))))
  have c1:decide ((i:Int)<(L.length:Int))=true:=by rw[decide_eq_true_eq];omega
  have z2:(0:Int)≤(i:Int):=by omega
  have z3:(i:Int)<(L.length:Int):=by omega
  have wi:IntKind.i64.wrap ((i:Int)+1)=((i+1:Nat):Int):=by rw[wrap_id (by omega) (by omega)];omega
  obtain ⟨k0,hk0,hs1,hs2⟩:=hsame i hiL
  have an:=a17.nn hiL
  have ap:=a17.pt hiL
  have aw:lookM Try.prog 24 M7 (addP (elemP ga 3 i) 0)=some (.agg #[.string (bs L[i].m),L[i].y]):=a17.part (fun _=>rfl) tk24 tz24 hiL (o:=0) (by decide)
  have av:lookM Try.prog 25 M7 (addP (elemP ga 3 i) 2)=some L[i].u:=a17.atF (P:=Try.prog) (T:=25) (fun _=>rfl) tk25 tz25 hiL (o:=2) (v:=L[i].u) rfl
  obtain ⟨k1,k2⟩:=a2 _ (List.getElem_mem hiL)
  have k1:=(k1.le m6).le m7
  have k2:=(k2.le m6).le m7
  have hCi:=hOL i hiL
  obtain ⟨cF,hcF⟩:∃cF:Nat→Bool,∀k (h:k<N.length),cF k=(decide (cmpG (L[i].m,L[i].C) (N[k].m,N[k].C)=0)&&decide ((L[i].l.length:Int)=(N[k].l.length:Int))):=⟨fun k=>if h:k<N.length then (decide (cmpG (L[i].m,L[i].C) (N[k].m,N[k].C)=0)&&decide ((L[i].l.length:Int)=(N[k].l.length:Int))) else false,fun k h=>by simp only[dif_pos h]⟩
  have hend:(List.range L.length).any cF=true:=by
   rw[List.any_eq_true]
   exact ⟨k0,List.mem_range.2 (by omega),by rw[hcF k0 hk0,hs1,hs2];simp⟩
  clear hs1 hs2
  generalize L[i]=q at *
  obtain ⟨qm,qy,qC,qu,ql⟩:=q
  have k1:IsL M7 sbV qy qC:=k1
  have k2:IsL M7 natV qu ql:=k2
  have hCi:qC.length<4000000000000000000:=hCi
  have aw:lookM Try.prog 24 M7 (addP (elemP ga 3 i) 0)=some (.agg #[.string (bs qm),qy]):=aw
  have av:lookM Try.prog 25 M7 (addP (elemP ga 3 i) 2)=some qu:=av
  have qo:=k2.one
  have qln:=k2.len
  have qs:=k2.sl
  have yo':=k1.one
  (try with_reducible refine Fz.of ?_);(replace hb0:=true_and True);refine Go1.mk ?_;repeat' ((first|(with_reducible refine Go1.go ?_)|((with_reducible first|refine brv_mk ?_ ?_|refine gsplitD ?_ ?_|refine gsplitG ?_ ?_)<;>intro h<;>(try simp only[Bool.not_eq_true',Bool.not_eq_false']at h)<;>replace hb0:=h)|(refine And.intro ?_ ?_;(try simp only[sxO]at *);omega)|fail)<;>(try simp (maxSteps:=1000000) only [hb0,goE,c1,ao,bo,al,asl,bl,bsl,hasK_nil,↓hold_pre,awayP,runOps,regK,step1,newK,genR,appR,obl,buildR,Value.cells,closeK,keepH,outV,retK,ret1,retC,RetV,Option.getD,runD,stepD,afterK,undef,simprocAttr,sxB,↓sxD,sxE,sxTab]))
  refine ⟨fun k' z=>∃k,k'=L.length-k∧k≤L.length∧z=goF M7 ga gb i k ((List.range k).any cF),⟨L.length,goF M7 ga gb i 0 false,le_sub ⟨rfl,rfl,rfl,rfl,rfl,trivial⟩ trivial rfl rfl rfl trivial,0,rfl,Nat.zero_le _,rfl⟩,?_⟩
  rintro k' z ⟨k,rfl,hk,rfl⟩
  by_cases hkL:k<L.length
  case neg=>
   obtain rfl:k=L.length:=by omega
   have c2:decide ((L.length:Int)<(L.length:Int))=false:=by simp
   rw[hend]
   (try with_reducible refine Fz.of ?_);(replace hb0:=true_and True);refine Go1.mk ?_;repeat' ((first|(with_reducible refine Go1.go ?_)|((with_reducible first|refine brv_mk ?_ ?_|refine gsplitD ?_ ?_|refine gsplitG ?_ ?_)<;>intro h<;>(try simp only[Bool.not_eq_true',Bool.not_eq_false']at h)<;>replace hb0:=h)|(refine And.intro ?_ ?_;(try simp only[sxO]at *);omega)|fail)<;>(try simp (maxSteps:=1000000) only [hb0,goF,c2,wi,ao,bo,al,asl,bl,bsl,hasK_nil,↓hold_pre,awayP,runOps,regK,step1,newK,genR,appR,obl,buildR,Value.cells,closeK,keepH,outV,retK,ret1,retC,RetV,Option.getD,runD,stepD,afterK,undef,simprocAttr,sxB,↓sxD,sxE,sxTab]))
   exact ⟨L.length-(i+1),goE M7 ga gb (i+1),by omega,le_sub ⟨rfl,rfl,rfl,trivial⟩ trivial rfl rfl rfl trivial,i+1,rfl,by omega,rfl⟩
  have hkN:k<N.length:=by omega
  have c2:decide ((k:Int)<(L.length:Int))=true:=by rw[decide_eq_true_eq];omega
  have y2:(0:Int)≤(k:Int):=by omega
  have y3:(k:Int)<(L.length:Int):=by omega
  have wk:IntKind.i64.wrap ((k:Int)+1)=((k+1:Nat):Int):=by rw[wrap_id (by omega) (by omega)];omega
  have hst:(List.range (k+1)).any cF=((List.range k).any cF || cF k):=by rw[List.range_succ,List.any_append];simp
  have bn:=b17.nn hkN
  have bp:=b17.pt hkN
  have bw:lookM Try.prog 24 M7 (addP (elemP gb 3 k) 0)=some (.agg #[.string (bs N[k].m),N[k].y]):=b17.part (fun _=>rfl) tk24 tz24 hkN (o:=0) (by decide)
  have bv:lookM Try.prog 25 M7 (addP (elemP gb 3 k) 2)=some N[k].u:=b17.atF (P:=Try.prog) (T:=25) (fun _=>rfl) tk25 tz25 hkN (o:=2) (v:=N[k].u) rfl
  obtain ⟨j1,j2⟩:=b2 _ (List.getElem_mem hkN)
  have j1:=(j1.le m6).le m7
  have j2:=(j2.le m6).le m7
  have hCk:=hON k hkN
  have hcK:=hcF k hkN
  generalize N[k]=s at *
  obtain ⟨sm,sy,sC,su,sl⟩:=s
  have j1:IsL M7 sbV sy sC:=j1
  have j2:IsL M7 natV su sl:=j2
  have hCk:sC.length<4000000000000000000:=hCk
  have bw:lookM Try.prog 24 M7 (addP (elemP gb 3 k) 0)=some (.agg #[.string (bs sm),sy]):=bw
  have bv:lookM Try.prog 25 M7 (addP (elemP gb 3 k) 2)=some su:=bv
  have hcK:cF k=(decide (cmpG (qm,qC) (sm,sC)=0)&&decide ((ql.length:Int)=(sl.length:Int))):=hcK
  have so:=j2.one
  have sln:=j2.len
  have ss:=j2.sl
  have syo:=j1.one
  cases hfb:(List.range k).any cF with
  | true=>
   rw[hfb,Bool.true_or]at hst
   (try with_reducible refine Fz.of ?_);(replace hb0:=true_and True);refine Go1.mk ?_;repeat' ((first|(with_reducible refine Go1.go ?_)|((with_reducible first|refine brv_mk ?_ ?_|refine gsplitD ?_ ?_|refine gsplitG ?_ ?_)<;>intro h<;>(try simp only[Bool.not_eq_true',Bool.not_eq_false']at h)<;>replace hb0:=h)|((with_reducible refine isDraw [some 163,some 164,some 165,some 166,some 167,some 168,some 169,some 170,some 171,some 172,some 173,some 174,some 175,some 176,some 177,some 178,some 179,some 180,some 181,some 182,some 183,some 184,some 185,some 186,some 187,some 188,some 189,some 190,some 191,some 192,some 24] (by decide) ?_);refine draw_rule [(0,[]),(1,[]),(2,[]),(3,[]),(4,[]),(5,[]),(6,[]),(7,[6]),(8,[6]),(9,[6]),(10,[6]),(11,[6]),(12,[]),(13,[]),(14,[]),(15,[]),(16,[]),(17,[]),(18,[]),(19,[]),(20,[]),(21,[19]),(22,[19]),(23,[19]),(24,[19]),(25,[19]),(26,[19]),(27,[]),(28,[]),(29,[]),(30,[])] [[],[0],[0,1],[0,1],[0,1,2,3],[0,1,2,3,4],[0,1,2,3,4,5],[0,1],[0,1],[0,1,7,8],[0,1,7,8,9],[0,1,7,8,9,10],[0,1,2,3,4,5,6,7,8,9,10,11],[0,1,2,3,4,5,6,7,8,9,10,11,12],[0,1,2,3,4,5,6,7,8,9,10,11,12,13],[0,1,2,3,4,5,6,7,8,9,10,11,12,13,14],[0,1,2,3,4,5,6,7,8,9,10,11,12,13,14],[0,1,2,3,4,5,6,7,8,9,10,11,12,13,14,15,16],[0,1,2,3,4,5,6,7,8,9,10,11,12,13,14,15,16,17],[0,1,2,3,4,5,6,7,8,9,10,11,12,13,14,15,16,17,18],[0,1,2,3,4,5,6,7,8,9,10,11,12,13,14,15,16,17,18,19],[0,1,2,3,4,5,6,7,8,9,10,11,12,13,14],[0,1,2,3,4,5,6,7,8,9,10,11,12,13,14],[0,1,2,3,4,5,6,7,8,9,10,11,12,13,14,21,22],[0,1,2,3,4,5,6,7,8,9,10,11,12,13,14,21,22,23],[0,1,2,3,4,5,6,7,8,9,10,11,12,13,14,21,22,23,24],[0,1,2,3,4,5,6,7,8,9,10,11,12,13,14,21,22,23,24,25],[0,1,2,3,4,5,6,7,8,9,10,11,12,13,14,15,16,17,18,19,20,21,22,23,24,25,26],[0,1,2,3,4,5,6,7,8,9,10,11,12,13,14,15,16,17,18,19,20,21,22,23,24,25,26,27],[0,1,2,3,4,5,6,7,8,9,10,11,12,13,14,15,16,17,18,19,20,21,22,23,24,25,26,27,28],[0,1,2,3,4,5,6,7,8,9,10,11,12,13,14,15,16,17,18,19,20,21,22,23,24,25,26,27,28,29]] [165,166,167,168,169,170,171,172,173,174,178,179,180,181,182,183,184,185,186,187,188,189] [] (by kernel_rfl) (by kernel_rfl) (by kernel_rfl) (by kernel_rfl) (by exact trivial) ?_)|(refine And.intro ?_ ?_;(try simp only[sxO]at *);omega)|fail)<;>(try simp (maxSteps:=1000000) only [hb0,goF,c2,wk,z2,z3,y2,y3,an,ap,aw,av,bn,bp,bw,bv,qo,qln,qs,yo',so,sln,ss,syo,ao,bo,al,asl,bl,bsl,hasK_nil,↓hold_pre,awayP,runOps,regK,step1,newK,genR,appR,obl,buildR,Value.cells,closeK,keepH,outV,retK,ret1,retC,RetV,Option.getD,runD,stepD,afterK,undef,simprocAttr,sxB,↓sxD,sxE,sxTab]))
   trace_state
   exact ⟨L.length-(k+1),goF M7 ga gb i (k+1) ((List.range (k+1)).any cF),by omega,le_sub ⟨rfl,by rw[hst];rfl,rfl,rfl,rfl,trivial⟩ trivial rfl rfl rfl trivial,k+1,rfl,by omega,rfl⟩
  | false=>
   rw[hfb,Bool.false_or,hcK]at hst
   (try with_reducible refine Fz.of ?_);(replace hb0:=true_and True);refine Go1.mk ?_;repeat' ((first|(with_reducible refine Go1.go ?_)|((with_reducible first|refine brv_mk ?_ ?_|refine gsplitD ?_ ?_|refine gsplitG ?_ ?_)<;>intro h<;>(try simp only[Bool.not_eq_true',Bool.not_eq_false']at h)<;>replace hb0:=h)|(((with_reducible refine isCall0 (f:=18) ?_);refine callA0_nil (by kernel_rfl) ?_;refine (compare_ok qm sm qy sy qC sC k1 j1 hCi hCk (Stop.mk ?_))))|((with_reducible refine isDraw [some 163,some 164,some 165,some 166,some 167,some 168,some 169,some 170,some 171,some 172,some 173,some 174,some 175,some 176,some 177,some 178,some 179,some 180,some 181,some 182,some 183,some 184,some 185,some 186,some 187,some 188,some 189,some 190,some 191,some 192,some 24] (by decide) ?_);refine draw_rule [(0,[]),(1,[]),(2,[]),(3,[]),(4,[]),(5,[]),(6,[]),(7,[6]),(8,[6]),(9,[6]),(10,[6]),(11,[6]),(12,[]),(13,[]),(14,[]),(15,[]),(16,[]),(17,[]),(18,[]),(19,[]),(20,[]),(21,[19]),(22,[19]),(23,[19]),(24,[19]),(25,[19]),(26,[19]),(27,[]),(28,[]),(29,[]),(30,[])] [[],[0],[0,1],[0,1],[0,1,2,3],[0,1,2,3,4],[0,1,2,3,4,5],[0,1],[0,1],[0,1,7,8],[0,1,7,8,9],[0,1,7,8,9,10],[0,1,2,3,4,5,6,7,8,9,10,11],[0,1,2,3,4,5,6,7,8,9,10,11,12],[0,1,2,3,4,5,6,7,8,9,10,11,12,13],[0,1,2,3,4,5,6,7,8,9,10,11,12,13,14],[0,1,2,3,4,5,6,7,8,9,10,11,12,13,14],[0,1,2,3,4,5,6,7,8,9,10,11,12,13,14,15,16],[0,1,2,3,4,5,6,7,8,9,10,11,12,13,14,15,16,17],[0,1,2,3,4,5,6,7,8,9,10,11,12,13,14,15,16,17,18],[0,1,2,3,4,5,6,7,8,9,10,11,12,13,14,15,16,17,18,19],[0,1,2,3,4,5,6,7,8,9,10,11,12,13,14],[0,1,2,3,4,5,6,7,8,9,10,11,12,13,14],[0,1,2,3,4,5,6,7,8,9,10,11,12,13,14,21,22],[0,1,2,3,4,5,6,7,8,9,10,11,12,13,14,21,22,23],[0,1,2,3,4,5,6,7,8,9,10,11,12,13,14,21,22,23,24],[0,1,2,3,4,5,6,7,8,9,10,11,12,13,14,21,22,23,24,25],[0,1,2,3,4,5,6,7,8,9,10,11,12,13,14,15,16,17,18,19,20,21,22,23,24,25,26],[0,1,2,3,4,5,6,7,8,9,10,11,12,13,14,15,16,17,18,19,20,21,22,23,24,25,26,27],[0,1,2,3,4,5,6,7,8,9,10,11,12,13,14,15,16,17,18,19,20,21,22,23,24,25,26,27,28],[0,1,2,3,4,5,6,7,8,9,10,11,12,13,14,15,16,17,18,19,20,21,22,23,24,25,26,27,28,29]] [165,166,167,168,169,170,171,172,173,174,178,179,180,181,182,183,184,185,186,187,188,189] [] (by kernel_rfl) (by kernel_rfl) (by kernel_rfl) (by kernel_rfl) (by exact trivial) ?_)|(refine And.intro ?_ ?_;(try simp only[sxO]at *);omega)|fail)<;>(try simp (maxSteps:=1000000) only [hb0,goF,c2,wk,z2,z3,y2,y3,an,ap,aw,av,bn,bp,bw,bv,qo,qln,qs,yo',so,sln,ss,syo,ao,bo,al,asl,bl,bsl,hasK_nil,↓hold_pre,awayP,runOps,regK,step1,newK,genR,appR,obl,buildR,Value.cells,closeK,keepH,outV,retK,ret1,retC,RetV,Option.getD,runD,stepD,afterK,undef,simprocAttr,sxB,↓sxD,sxE,sxTab]))
   generalize cmpG (qm,qC) (sm,sC)=cz at *
   by_cases hcz:cz=0
   ·have d1:decide (cz=0)=true:=decide_eq_true hcz
    rw[d1,Bool.true_and]at hst
    refine Stop.go ?_
    (try with_reducible refine Fz.of ?_);(replace hb0:=true_and True);refine Go1.mk ?_;repeat' ((first|(with_reducible refine Go1.go ?_)|((with_reducible first|refine brv_mk ?_ ?_|refine gsplitD ?_ ?_|refine gsplitG ?_ ?_)<;>intro h<;>(try simp only[Bool.not_eq_true',Bool.not_eq_false']at h)<;>replace hb0:=h)|(refine And.intro ?_ ?_;(try simp only[sxO]at *);omega)|fail)<;>(try simp (maxSteps:=1000000) only [hb0,d1,wk,z2,z3,y2,y3,an,ap,aw,av,bn,bp,bw,bv,qo,qln,qs,yo',so,sln,ss,syo,ao,bo,al,asl,bl,bsl,hasK_nil,↓hold_pre,awayP,runOps,regK,step1,newK,genR,appR,obl,buildR,Value.cells,closeK,keepH,outV,retK,ret1,retC,RetV,Option.getD,runD,stepD,afterK,undef,simprocAttr,sxB,↓sxD,sxE,sxTab]))
    exact ⟨L.length-(k+1),goF M7 ga gb i (k+1) ((List.range (k+1)).any cF),by omega,le_sub ⟨rfl,by rw[hst];rfl,rfl,rfl,rfl,trivial⟩ trivial rfl rfl rfl trivial,k+1,rfl,by omega,rfl⟩
   ·have d1:decide (cz=0)=false:=decide_eq_false hcz
    rw[d1,Bool.false_and]at hst
    refine Stop.go ?_
    (try with_reducible refine Fz.of ?_);(replace hb0:=true_and True);refine Go1.mk ?_;repeat' ((first|(with_reducible refine Go1.go ?_)|((with_reducible first|refine brv_mk ?_ ?_|refine gsplitD ?_ ?_|refine gsplitG ?_ ?_)<;>intro h<;>(try simp only[Bool.not_eq_true',Bool.not_eq_false']at h)<;>replace hb0:=h)|(refine And.intro ?_ ?_;(try simp only[sxO]at *);omega)|fail)<;>(try simp (maxSteps:=1000000) only [hb0,d1,wk,ao,bo,al,asl,bl,bsl,hasK_nil,↓hold_pre,awayP,runOps,regK,step1,newK,genR,appR,obl,buildR,Value.cells,closeK,keepH,outV,retK,ret1,retC,RetV,Option.getD,runD,stepD,afterK,undef,simprocAttr,sxB,↓sxD,sxE,sxTab]))
    exact ⟨L.length-(k+1),goF M7 ga gb i (k+1) ((List.range (k+1)).any cF),by omega,le_sub ⟨rfl,by rw[hst];rfl,rfl,rfl,rfl,trivial⟩ trivial rfl rfl rfl trivial,k+1,rfl,by omega,rfl⟩
 have c1:decide ((i:Int)<(n:Int))=true:=by rw[decide_eq_true_eq];omega
 have z2:(0:Int)≤(i:Int):=by omega
 have z3:(i:Int)<(n:Int):=by omega
 have wi:IntKind.i64.wrap ((i:Int)+1)=((i+1:Nat):Int):=by rw[wrap_id (by omega) (by omega)];omega
 (try with_reducible refine Fz.of ?_);(replace hb0:=true_and True);refine Go1.mk ?_;repeat' ((first|(with_reducible refine Go1.go ?_)|((with_reducible first|refine brv_mk ?_ ?_|refine gsplitD ?_ ?_|refine gsplitG ?_ ?_)<;>intro h<;>(try simp only[Bool.not_eq_true',Bool.not_eq_false']at h)<;>replace hb0:=h)|(refine And.intro ?_ ?_;(try simp only[sxO]at *);omega)|fail)<;>(try simp (maxSteps:=1000000) only [hb0,goC,c1,xo,xl,xs,hasK_nil,↓hold_pre,awayP,runOps,regK,step1,newK,genR,appR,obl,buildR,Value.cells,closeK,keepH,outV,retK,ret1,retC,RetV,Option.getD,runD,stepD,afterK,undef,simprocAttr,sxB,↓sxD,sxE,sxTab]))
 refine ⟨fun q z=>∃k,q=n-k∧k≤n∧z=goD M7 x pl ga gb U1 U2 i k,⟨n,goD M7 x pl ga gb U1 U2 i 0,le_sub ⟨rfl,rfl,rfl,rfl,rfl,rfl,rfl,rfl,trivial⟩ trivial rfl rfl rfl trivial,0,rfl,Nat.zero_le _,rfl⟩,?_⟩
 rintro q z ⟨k,rfl,hk,rfl⟩
 by_cases hkn:k<n
 case neg=>
  have c2:decide ((k:Int)<(n:Int))=false:=by rw[decide_eq_false_iff_not];omega
  (try with_reducible refine Fz.of ?_);(replace hb0:=true_and True);refine Go1.mk ?_;repeat' ((first|(with_reducible refine Go1.go ?_)|((with_reducible first|refine brv_mk ?_ ?_|refine gsplitD ?_ ?_|refine gsplitG ?_ ?_)<;>intro h<;>(try simp only[Bool.not_eq_true',Bool.not_eq_false']at h)<;>replace hb0:=h)|(refine And.intro ?_ ?_;(try simp only[sxO]at *);omega)|fail)<;>(try simp (maxSteps:=1000000) only [hb0,goD,c2,wi,xo,xl,xs,hasK_nil,↓hold_pre,awayP,runOps,regK,step1,newK,genR,appR,obl,buildR,Value.cells,closeK,keepH,outV,retK,ret1,retC,RetV,Option.getD,runD,stepD,afterK,undef,simprocAttr,sxB,↓sxD,sxE,sxTab]))
  exact ⟨n-(i+1),goC M7 x pl ga gb U1 U2 (i+1),by omega,le_sub ⟨rfl,rfl,rfl,rfl,rfl,rfl,rfl,trivial⟩ trivial rfl rfl rfl trivial,i+1,rfl,by omega,rfl⟩
 have c2:decide ((k:Int)<(n:Int))=true:=by rw[decide_eq_true_eq];omega
 have y2:(0:Int)≤(k:Int):=by omega
 have y3:(k:Int)<(n:Int):=by omega
 have wk:IntKind.i64.wrap ((k:Int)+1)=((k+1:Nat):Int):=by rw[wrap_id (by omega) (by omega)];omega
 obtain ⟨bb,hb1,hb2⟩:∃bb,togO (grpO T f) i k=bb∧togO (grpO S g) (P.getD i 0) (P.getD k 0)=bb:=by
  refine ⟨decide (f i=f k),tog_lab (R:=lnkR T dd) (by rw[hTl];exact lf) (by omega) (by omega),?_⟩
  rw[tog_lab (R:=lnkR S dd) (by rw[hSl];exact lg) (by rw[hSl];exact (hI.at_ i hin).1) (by rw[hSl];exact (hI.at_ k hkn).1)]
  exact decide_eq_decide.2 (hPm.tog2 lf lg hin hkn)
 obtain ⟨u1,u2,u3,_,r1,w1,w2,w3,w4,w5,w6⟩:=mat_at (P:=Try.prog) (T1:=48) (T2:=4) hU1 tk48 tz48 tk4 tz4 hin hkn
 obtain ⟨v1',v2',v3',_,r2,x1,x2,x3,x4,x5,x6⟩:=mat_at (P:=Try.prog) (T1:=48) (T2:=4) hU2 tk48 tz48 tk4 tz4 (hI.at_ i hin).1 (hI.at_ k hkn).1
 rw[hb1]at w6
 rw[hb2]at x6
 have pi:=hp7.at (P:=Try.prog) (T:=3) tk3 tz3 (show i<P.length by omega)
 have pk:=hp7.at (P:=Try.prog) (T:=3) tk3 tz3 (show k<P.length by omega)
 have pn:=hp7.nn (show i<P.length by omega)
 have gi:P.getD i 0=P[i]'(by omega):=by rw[List.getD_eq_getElem?_getD,List.getElem?_eq_getElem (by omega)];rfl
 have gk:P.getD k 0=P[k]'(by omega):=by rw[List.getD_eq_getElem?_getD,List.getElem?_eq_getElem (by omega)];rfl
 rw[←gi]at pi
 rw[←gk]at pk
 have hpi:=(hI.at_ i hin).1
 have hpk:=(hI.at_ k hkn).1
 clear hb1 hb2 gi gk
 generalize P.getD i 0=pI at *
 generalize P.getD k 0=pK at *
 have e1:(0:Int)≤(pI:Int):=by omega
 have e2:(pI:Int)<(n:Int):=by omega
 have e3:(0:Int)≤(pK:Int):=by omega
 have e4:(pK:Int)<(n:Int):=by omega
 cases bb
 all_goals
  (try with_reducible refine Fz.of ?_);(replace hb0:=true_and True);refine Go1.mk ?_;repeat' ((first|(with_reducible refine Go1.go ?_)|((with_reducible first|refine brv_mk ?_ ?_|refine gsplitD ?_ ?_|refine gsplitG ?_ ?_)<;>intro h<;>(try simp only[Bool.not_eq_true',Bool.not_eq_false']at h)<;>replace hb0:=h)|((with_reducible refine isDraw [some 130,some 131,some 132,some 133,some 134,some 135,some 136,some 137,some 138,some 139,some 140,some 141,some 142,some 143,some 144,some 145,some 146,some 147,some 148,some 149,some 150] (by decide) ?_);refine draw_rule [(0,[]),(1,[]),(2,[]),(3,[]),(4,[3]),(5,[]),(6,[]),(7,[3,6]),(8,[3,6]),(9,[3,6]),(10,[3,6]),(11,[3,6]),(12,[3,6]),(13,[3,6]),(14,[3,6,11,13]),(15,[3,6,11,13]),(16,[3,6,11,13]),(17,[3,6,11,13]),(18,[3,6]),(19,[3,6]),(20,[])] [[],[],[0,1],[0,1,2],[],[0,1,2,3,4],[0,1,2,3,4,5],[],[],[],[8,9],[8,9,10],[7,8,9,10,11],[7,8,9,10,11,12],[],[],[14,15],[14,15,16],[7,8,9,10,11,12,13,14,15,16,17],[7,8,9,10,11,12,13,14,15,16,17,18],[0,1,2,3,4,5,6,7,8,9,10,11,12,13,14,15,16,17,18,19]] [130,131,132,133,134,135,136,137,138,139,140,141,142,143,144,145,146,147,148,149] [] (by kernel_rfl) (by kernel_rfl) (by kernel_rfl) (by kernel_rfl) (by exact trivial) ?_)|(refine And.intro ?_ ?_;(try simp only[sxO]at *);omega)|fail)<;>(try simp (maxSteps:=1000000) only [hb0,goD,natV,c2,z2,z3,y2,y3,wk,u1,u2,u3,w1,w2,w3,w4,w5,w6,v1',v2',v3',x1,x2,x3,x4,x5,x6,pi,pk,pn,e1,e2,e3,e4,po,pls,pll,U1o,U2o,xo,xl,xs,hasK_nil,↓hold_pre,awayP,runOps,regK,step1,newK,genR,appR,obl,buildR,Value.cells,closeK,keepH,outV,retK,ret1,retC,RetV,Option.getD,runD,stepD,afterK,undef,simprocAttr,sxB,↓sxD,sxE,sxTab]))
  exact ⟨n-(k+1),goD M7 x pl ga gb U1 U2 i (k+1),by omega,le_sub ⟨rfl,rfl,rfl,rfl,rfl,rfl,rfl,rfl,trivial⟩ trivial rfl rfl rfl trivial,k+1,rfl,by omega,rfl⟩
end
end Go.Proofs.Ytoblkpomikokhaa.Sx
