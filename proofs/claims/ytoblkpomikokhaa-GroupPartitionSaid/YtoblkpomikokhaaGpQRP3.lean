/- Part 28 of the texts of this claim: a symbolic executor and contracts of functions. -/
import Derived.Test.YtoblkpomikokhaaGpQRP2
namespace Go.Proofs.Ytoblkpomikokhaa.Sx
open Go Go.RowKit
set_option linter.unusedVariables false
set_option linter.unusedSimpArgs false
set_option maxRecDepth 100000
set_option maxHeartbeats 8000000
attribute [local congr] fin_congr finG_congr stepG_congr step1_congr runOps_congr brv_congr obl_congr condK_congr LoopK_congr seqK_congr CutK_congr vc_congr DrawK_congr regK_congr CallK_congr AskK_congr newK_congr retC_congr ret1_congr retK_congr outV_congr closeK_congr genR_congr appR_congr finD_congr finGD_congr stepGD_congr stepD_congr CallK0_congr runD_congr okR_congr CallS_congr vcX_congr
attribute [local congr] Stop_congr
theorem GRF.move{M' M'' M3:Mem}{U:Value}{O:List GO}(h:GRF M' M'' U O)(h3:∀b,M' b=none→M3 b=M'' b):GRV M3 U O:=by
 obtain ⟨L,h1,h2,h4,h5⟩:=h
 exact ⟨L,SlM.move h1 h2 h3,fun g hg=>⟨(h4 g hg).1.1.move (h4 g hg).2.1 h3,(h4 g hg).1.2.move (h4 g hg).2.2 h3⟩,h5⟩
theorem isPt_add{v:Value}(o:Nat)(h:isPt v=true):isPt (addP v o)=true:=by
 unfold isPt at h
 split at h
 ·rfl
 ·cases h
theorem addP_addP{v:Value}(a b:Nat)(h:isPt v=true):addP (addP v a) b=addP v (a+b):=by
 unfold isPt at h
 split at h
 ·by_cases ha:a=0<;>by_cases hb:b=0<;>simp[addP,Addr.add,ha,hb,Nat.add_assoc]
 ·cases h
def kn1(v:Value):Fa:=([112],[116],0,[97,32,49],v,stkF [[102],[103]])
def kn2(v:Value):Fa:=([112],[116],0,[98],v,stkF [[102],[103]])
def kn3(v:Value):Fa:=([112],[116],0,[98],v,stkF [])
def knC:List Bst:=[[102,64,120,46,103,111],[103,64,120,46,103,111]]
def knT:List (Bst×List Bst):=[([97,32,35],knC),([98],knC),([98],[])]
theorem kn_T(a b c:Value):[kn1 a,kn2 b,kn3 c].map faB=knT:=by
 show [faB (kn1 (.bool true)),faB (kn2 (.bool true)),faB (kn3 (.bool true))]=knT
 decide +kernel
theorem kn_E2(a b c:Value):sgnE [kn1 a,kn2 b,kn3 c] 2=0:=by
 show sgnE [kn1 (.bool true),kn2 (.bool true),kn3 (.bool true)] 2=0
 decide +kernel
theorem kn_E3(a b c:Value):sgnE [kn1 a,kn2 b,kn3 c] 3=0:=by
 show sgnE [kn1 (.bool true),kn2 (.bool true),kn3 (.bool true)] 3=0
 decide +kernel
theorem lnk_iff{T:List (Bst×List Bst)}{d:Int}{i k:Nat}:lnkR T d i k↔lkB (sgK T d i) (sgK T d k)=true:=lkB_iff.symm
theorem kn_l2:Lab 3 (lnkR knT 2) fun _=>0:=by
 have h01:lnkR knT 2 0 1:=lnk_iff.2 (by decide +kernel)
 have h12:lnkR knT 2 1 2:=lnk_iff.2 (by decide +kernel)
 have c0:∀i,i<3→Conn (lnkR knT 2) 3 0 i:=fun i hi=>by
  match i,hi with
  | 0,_=>exact .refl (by decide)
  | 1,_=>exact .one (by decide) (by decide) h01
  | 2,_=>exact (Conn.one (by decide) (by decide) h01).trans (.one (by decide) (by decide) h12)
 exact ⟨fun i _=>Nat.zero_le _,fun _ _=>rfl,fun _ _ _ _ _=>rfl,fun i k hi hk _=>((c0 i hi).symm lnkR_symm).trans (c0 k hk)⟩
theorem kn_l3:Lab 3 (lnkR knT 3) fun i=>if i=0 then 0 else 1:=by
 have h12:lnkR knT 3 1 2:=lnk_iff.2 (by decide +kernel)
 have n01:¬lnkR knT 3 0 1:=fun h=>absurd (lnk_iff.1 h) (by decide +kernel)
 have n02:¬lnkR knT 3 0 2:=fun h=>absurd (lnk_iff.1 h) (by decide +kernel)
 refine ⟨fun i hi=>by split<;>omega,fun i hi=>by split<;>simp,fun i k hi hk hR=>?_,fun i k hi hk e=>?_⟩
 ·match i,k,hi,hk with
  | 0,0,_,_=>rfl
  | 0,1,_,_=>exact absurd hR n01
  | 0,2,_,_=>exact absurd hR n02
  | 1,0,_,_=>exact absurd (lnkR_symm _ _ hR) n01
  | 2,0,_,_=>exact absurd (lnkR_symm _ _ hR) n02
  | 1,1,_,_=>rfl
  | 1,2,_,_=>rfl
  | 2,1,_,_=>rfl
  | 2,2,_,_=>rfl
 ·match i,k,hi,hk,e with
  | 0,0,_,_,_=>exact .refl (by decide)
  | 1,1,_,_,_=>exact .refl (by decide)
  | 2,2,_,_,_=>exact .refl (by decide)
  | 1,2,_,_,_=>exact .one (by decide) (by decide) h12
  | 2,1,_,_,_=>exact .one (by decide) (by decide) (lnkR_symm _ _ h12)
def knO2:List GO:=[(([97,32,35],knC),[0,1,2])]
def knO3:List GO:=[(([97,32,35],knC),[0]),(([98],[]),[1,2])]
theorem kn_g2:GrpO knT 2 knO2:=⟨_,kn_l2,by decide +kernel⟩
theorem kn_g3:GrpO knT 3 knO3:=⟨_,kn_l3,by decide +kernel⟩
theorem knO3_ok:okO knO3:=⟨by decide,fun o ho=>by
 have:okB o.1.1 o.1.2∧o.2.length≤64∧o.1.2.length<1000000:=by
  rcases List.mem_cons.1 ho with rfl|ho
  ·exact ⟨⟨by decide,by decide,by decide⟩,by decide,by decide⟩
  ·rw[List.mem_singleton.1 ho];exact ⟨⟨by decide,by decide,by decide⟩,by decide,by decide⟩
 exact this⟩
section
variable {M:Mem}{K:AV→Hp→Mem→Prop}
theorem gsplit_bor(k n:Nat)(T:TypeId)(L:List Fa)(d:Int)(hn:n=L.length)(ho:∀f∈L,faOk M f)(hb:L.length<1000000)
  (hK1:sgnE L d≠0→∀M',Mem.le M M'→K (.ext (.tuple #[.slice none 0 0,.int .i64 (sgnE L d)])) [(k,T,faF L)] M')
  (hK2:sgnE L d=0→∀u' M' O,Mem.le M M'→GrpO (L.map faB) d O→GRV M' u' O→K (.ext (.tuple #[u',.int .i64 0])) [(k,T,faF L)] M') :
  CallS Try.prog 16 [.slo k 0 n 5,.ext (.int .i64 d)] [(k,T,faF L)] M [] K:=by
 refine CallS.bor ⟨⟨_,rfl⟩,trivial⟩ fun us M' hM hb'=>?_
 obtain ⟨v1,_,rfl,hv,_,_,rfl,rfl,rfl⟩:=hb'
 have g1:IsR M' 5 faC v1 L:=by
  have h:=hv T (L.flatMap faC) (by simp[lkH,faF]) (by rw[flat_len (z:=5) (fun _=>rfl)];omega)
  rw[List.drop_zero,List.take_of_length_le (by rw[flat_len (z:=5) (fun _=>rfl)];omega)]at h
  unfold IsR
  rw[←hn];exact h
 refine gsplit_ok v1 L d g1 (fun f hf=>⟨(ho f hf).1.le hM,(ho f hf).2⟩) hb (fun he M2 c1=>⟨fun j hj=>rfl,fun M3 h5 h6 _=>hK1 he M3 h5⟩) (fun he u' M2 O c1 c2 c3=>⟨fun j hj=>rfl,fun M3 h5 h6 _=>hK2 he u' M3 O h5 c2 (c3.move h6)⟩)
theorem known27_ok(hK:∀M',Mem.le M M'→K (.ext (.bool true)) [] M'):CallS Try.prog 9 [] [] M [] K:=by
 refine inlS (cs:=[]) Try.mixed Try.func9 rfl (by kernel_rfl) 0 rfl rfl ?_
 simp only[Try.f9]
 have n1:[AV.ext (.string (bs [102])),.ext (.string (bs [103]))]=cE sbV [[102],[103]]:=rfl
 refine Go1.mk ?_;repeat' ((first|(with_reducible refine Go1.go ?_)|((with_reducible refine isCall (f:=22) ?_);refine callA ?_)|((with_reducible refine isCallS (f:=22) ?_);refine (fail_bor [97,32,49] 6 2 _ [[102],[103]] rfl (by decide) (fun v1 M1 m1 g1=>Stop.mk ?_)))|(refine And.intro ?_ ?_;(try simp only[sxO]at *);omega)|fail)<;>(try simp (maxSteps:=1000000) only [n1,cE_ment,cE_kill,hasK_nil,bs_mk,bs_app,bs_ext,bs_size,bs_toList,bs_at,bs_cells,List.take_length,imp_ga,guard_pk,guard_pk2,↓hold_pre,awayP,runOps,regK,step1,newK,genR,appR,obl,buildR,Value.cells,closeK,keepH,outV,retK,ret1,retC,RetV,Option.getD,runD,stepD,afterK,undef,simprocAttr,sxB,↓sxD,sxE,sxTab]))
 have m1:Mem.le M M1:=m1
 have o1:=g1.one
 refine Stop.go ?_
 refine Go1.mk ?_;repeat' ((first|(with_reducible refine Go1.go ?_)|((with_reducible refine isCall (f:=22) ?_);refine callA ?_)|((with_reducible refine isCallS (f:=22) ?_);refine (fail_bor [98] 8 2 _ [[102],[103]] rfl (by decide) (fun v2 M2 m2 g2=>Stop.mk ?_)))|(refine And.intro ?_ ?_;(try simp only[sxO]at *);omega)|fail)<;>(try simp (maxSteps:=1000000) only [n1,faV,o1,cE_ment,cE_kill,hasK_nil,bs_mk,bs_app,bs_ext,bs_size,bs_toList,bs_at,bs_cells,List.take_length,imp_ga,guard_pk,guard_pk2,↓hold_pre,awayP,runOps,regK,step1,newK,genR,appR,obl,buildR,Value.cells,closeK,keepH,outV,retK,ret1,retC,RetV,Option.getD,runD,stepD,afterK,undef,simprocAttr,sxB,↓sxD,sxE,sxTab]))
 have m2:Mem.le M1 M2:=m2
 have o2:=g2.one
 refine Stop.go ?_
 refine Go1.mk ?_;repeat' ((first|(with_reducible refine Go1.go ?_)|(((with_reducible refine isCall (f:=22) ?_);refine callA_nil (by kernel_rfl) ?_;refine (fail_ok [98] (.slice none 0 0) [] (isL_nil _ _ _) (by decide) (fun v3 M3 m3 g3 _=>Stop.mk ?_))))|(refine And.intro ?_ ?_;(try simp only[sxO]at *);omega)|fail)<;>(try simp (maxSteps:=1000000) only [n1,faV,o1,o2,cE_ment,cE_kill,hasK_nil,bs_mk,bs_app,bs_ext,bs_size,bs_toList,bs_at,bs_cells,List.take_length,imp_ga,guard_pk,guard_pk2,↓hold_pre,awayP,runOps,regK,step1,newK,genR,appR,obl,buildR,Value.cells,closeK,keepH,outV,retK,ret1,retC,RetV,Option.getD,runD,stepD,afterK,undef,simprocAttr,sxB,↓sxD,sxE,sxTab]))
 have m3:Mem.le M2 M3:=m3
 have o3:=g3.one
 have n4:faF [kn1 v1,kn2 v2,kn3 v3]=[AV.ext (.string (bs [112])),.ext (.string (bs [116])),.ext (.int .i64 0),.ext (.string (bs [97,32,49])),.ext v1,.ext (.string (bs [112])),.ext (.string (bs [116])),.ext (.int .i64 0),.ext (.string (bs [98])),.ext v2,.ext (.string (bs [112])),.ext (.string (bs [116])),.ext (.int .i64 0),.ext (.string (bs [98])),.ext v3]:=rfl
 have ho:∀f∈[kn1 v1,kn2 v2,kn3 v3],faOk M3 f:=by
  have hc:∀L:List Bst,L=[[102],[103]]∨L=[]→∀c∈stkF L,clOk c:=by
   rintro L (rfl|rfl)
   ·intro c hc
    have h:∀c∈stkF [[102],[103]],c.1.length≤140737488351232∧c.2.1.length≤140737488351232:=by decide
    exact h c hc
   ·intro c hc;cases hc
  intro f hf
  rcases List.mem_cons.1 hf with rfl|hf
  ·exact ⟨(g1.le m2).le m3,by show (stkF [[102],[103]]).length<_;decide,by show ([97,32,49]:Bst).length<_;decide,hc _ (.inl rfl)⟩
  rcases List.mem_cons.1 hf with rfl|hf
  ·exact ⟨g2.le m3,by show (stkF [[102],[103]]).length<_;decide,by show ([98]:Bst).length<_;decide,hc _ (.inl rfl)⟩
  ·rw[List.mem_singleton.1 hf]
   exact ⟨g3,by show (stkF []).length<_;decide,by show ([98]:Bst).length<_;decide,hc _ (.inr rfl)⟩
 have e2:=kn_E2 v1 v2 v3
 have e3:=kn_E3 v1 v2 v3
 have eT:=kn_T v1 v2 v3
 refine Stop.go ?_
 refine Go1.mk ?_;repeat' ((first|(with_reducible refine Go1.go ?_)|((with_reducible refine isCall (f:=16) ?_);refine callA ?_)|((with_reducible refine isCallS (f:=16) ?_);refine (gsplit_bor 11 3 _ [kn1 v1,kn2 v2,kn3 v3] 2 rfl ho (by simp) (fun h=>absurd e2 h) (fun _ x2 M4 O2 m4 hO2 gO2=>Stop.mk ?_)))|(refine And.intro ?_ ?_;(try simp only[sxO]at *);omega)|fail)<;>(try simp (maxSteps:=1000000) only [n1,faV,o1,o2,o3,←n4,faF_ment,faF_kill,cE_ment,cE_kill,hasK_nil,bs_mk,bs_app,bs_ext,bs_size,bs_toList,bs_at,bs_cells,List.take_length,imp_ga,guard_pk,guard_pk2,↓hold_pre,awayP,runOps,regK,step1,newK,genR,appR,obl,buildR,Value.cells,closeK,keepH,outV,retK,ret1,retC,RetV,Option.getD,runD,stepD,afterK,undef,simprocAttr,sxB,↓sxD,sxE,sxTab]))
 have m4:Mem.le M3 M4:=m4
 rw[eT]at hO2
 obtain rfl:=hO2.uniq kn_g2
 refine Stop.go ?_
 obtain ⟨L2,b1,b2,b3⟩:=gO2
 have p1:=b1.one
 refine Go1.mk ?_;repeat' ((first|(with_reducible refine Go1.go ?_)|((with_reducible refine isCall (f:=16) ?_);refine callA ?_)|((with_reducible refine isCallS (f:=16) ?_);refine (gsplit_bor 11 3 _ [kn1 v1,kn2 v2,kn3 v3] 3 rfl (fun f hf=>⟨(ho f hf).1.le m4,(ho f hf).2⟩) (by simp) (fun h=>absurd e3 h) (fun _ x3 M5 O3 m5 hO3 gO3=>Stop.mk ?_)))|(refine And.intro ?_ ?_;(try simp only[sxO]at *);omega)|fail)<;>(try simp (maxSteps:=1000000) only [o1,o2,o3,p1,faF_ment,cE_ment,cE_kill,hasK_nil,bs_mk,bs_app,bs_ext,bs_size,bs_toList,bs_at,bs_cells,List.take_length,imp_ga,guard_pk,guard_pk2,↓hold_pre,awayP,runOps,regK,step1,newK,genR,appR,obl,buildR,Value.cells,closeK,keepH,outV,retK,ret1,retC,RetV,Option.getD,runD,stepD,afterK,undef,simprocAttr,sxB,↓sxD,sxE,sxTab]))
 have m5:Mem.le M4 M5:=m5
 rw[eT]at hO3
 obtain rfl:=hO3.uniq kn_g3
 have b1:=b1.le m5
 have hl2:L2.length=1:=by have:=congrArg List.length b3;simpa [knO2] using this
 have hz:0<L2.length:=by omega
 have p2:=b1.len
 have p3:=b1.sl
 have p4:=b1.nn hz
 have p5:=b1.pt hz
 rw[hl2]at p2
 have p8:=isPt_add 0 p5
 have p9:addP (addP (elemP x2 3 0) 0) 0=addP (elemP x2 3 0) 0:=addP_addP 0 0 p5
 have p6:lookM Try.prog 25 M5 (addP (elemP x2 3 0) 2)=some L2[0].u:=b1.atF (P:=Try.prog) (T:=25) (fun _=>rfl) tk25 tz25 hz (o:=2) (v:=L2[0].u) rfl
 have p7:lookM Try.prog 9 M5 (addP (elemP x2 3 0) 0)=some (.string (bs L2[0].m)):=b1.atF (P:=Try.prog) (T:=9) (fun _=>rfl) tk9 tz9 hz (o:=0) (v:=.string (bs L2[0].m)) rfl
 have hg:L2[0].o=(([97,32,35],knC),[0,1,2]):=by
  have h:(L2.map GX.o)[0]? = knO2[0]?:=by rw[b3]
  rw[List.getElem?_map,List.getElem?_eq_getElem hz]at h
  exact Option.some.inj h
 have hgl:L2[0].l=[0,1,2]:=congrArg Prod.snd hg
 have hgm:L2[0].m=[97,32,35]:=congrArg (fun x=>x.1.1) hg
 have q1:=(b2 _ (List.getElem_mem hz)).2.le m5
 have q2:=q1.one
 have q3:=q1.len
 have q4:=q1.sl
 rw[hgl]at q3
 rw[hgm]at p7
 have q3:slen L2[0].u=3:=q3
 clear hg hgl hgm
 generalize L2[0].u=gu at *
 have c1:x3.oneCell'=true:=by obtain ⟨_,h,_⟩:=gO3;exact h.one
 have hl3:slen x3=2∧isSl x3=true:=by
  obtain ⟨L3,h1,_,h3⟩:=gO3
  refine ⟨?_,h1.sl⟩
  rw[h1.len]
  have:=congrArg List.length h3;simpa [knO3] using this
 obtain ⟨c2,c3⟩:=hl3
 have elr:lrgO knO3=1:=by decide +kernel
 refine Stop.go ?_
 refine Go1.mk ?_;repeat' ((first|(with_reducible refine Go1.go ?_)|(((with_reducible refine isCall (f:=26) ?_);refine callA_nil (by kernel_rfl) ?_;refine (plargest_ok x3 knO3 gO3 knO3_ok (Stop.mk ?_))))|(refine And.intro ?_ ?_;(try simp only[sxO]at *);omega)|fail)<;>(try simp (maxSteps:=1000000) only [o1,o2,o3,p1,p2,p3,p4,p5,p6,p7,p8,p9,q2,q3,q4,c1,c2,c3,faF_ment,cE_ment,cE_kill,hasK_nil,bs_mk,bs_app,bs_ext,bs_size,bs_toList,bs_at,bs_cells,List.take_length,imp_ga,guard_pk,guard_pk2,↓hold_pre,awayP,runOps,regK,step1,newK,genR,appR,obl,buildR,Value.cells,closeK,keepH,outV,retK,ret1,retC,RetV,Option.getD,runD,stepD,afterK,undef,simprocAttr,sxB,↓sxD,sxE,sxTab]))
 rw[elr]
 refine Stop.go ?_
 refine Go1.mk ?_;repeat' ((first|(with_reducible refine Go1.go ?_)|(refine And.intro ?_ ?_;(try simp only[sxO]at *);omega)|fail)<;>(try simp (maxSteps:=1000000) only [hasK_nil,bs_mk,bs_app,bs_ext,bs_size,bs_toList,bs_at,bs_cells,List.take_length,imp_ga,guard_pk,guard_pk2,↓hold_pre,awayP,runOps,regK,step1,newK,genR,appR,obl,buildR,Value.cells,closeK,keepH,outV,retK,ret1,retC,RetV,Option.getD,runD,stepD,afterK,undef,simprocAttr,sxB,↓sxD,sxE,sxTab]))
 exact hK M5 (m1.trans (m2.trans (m3.trans (m4.trans m5))))
end
section
variable {M:Mem}{K:AV→Hp→Mem→Prop}
theorem dsign_ok{least:Nat}(f:Fa)(hd:drF least f)(hl:least≤50)(hf:faOk M f)(hK:∀u' M',Mem.le M M'→IsL M' sbV u' (faB f).2→FreshS M u'→K (.ext (sgT (faB f).1 u' 0)) [] M'):CallS Try.prog 10 [.ext (faV f.1 f.2.1 f.2.2.1 f.2.2.2.1 f.2.2.2.2.1)] [] M [] K:=by
 obtain ⟨p,t,e,m,u,X⟩:=f
 obtain ⟨a1,a2,a3,a4⟩:=hf
 obtain ⟨h1,h2,h3,h4,_,h5⟩:=hd
 have h1:p=[112]:=h1
 have h2:t.length=1:=h2
 have h3:0≤e:=h3
 have h4:e≤1:=h4
 have h5:X.length≤least+3:=h5
 have e1:usB p t=true:=by unfold usB;rw[h1,h2];decide
 have e2:plB e=true:=by unfold plB;simp[h3];omega
 have e3:(usB p t&&plB e)=true:=by rw[e1,e2];rfl
 exact sign_ok p t e m u X a1 a2 a3 a4 (fun h=>by rw[e3]at h;cases h) (fun _ h=>by omega) fun _ _ u' M' c1 c2 c3=>hK u' M' c1 c2 c3
end
structure AnsG (L:List Fa) (d:Int) (O:List GO):Prop where
 ok:sgnE L d=0→GrpO (L.map faB) d O
 no:sgnE L d≠0→O=[]
theorem AnsG.uniq{L:List Fa}{d:Int}{O O':List GO}(h:AnsG L d O)(h':AnsG L d O'):O=O':=by
 by_cases he:sgnE L d=0
 ·exact (h.ok he).uniq (h'.ok he)
 ·rw[h.no he,h'.no he]
theorem sgnE_64{L:List Fa}{d:Int}(he:sgnE L d=0):L.length≤64:=by
 unfold sgnE at he
 split at he
 ·cases he
 ·split at he
  ·cases he
  ·split at he
   ·cases he
   ·omega
theorem GRV.nil(M:Mem):GRV M (.slice none 0 0) []:=⟨[],slM_nil _ _ _,(fun g hg=>by cases hg),rfl⟩
theorem faOk.le{M M':Mem}{f:Fa}(h:faOk M f)(hM:Mem.le M M'):faOk M' f:=⟨h.1.le hM,h.2⟩
section
variable {M:Mem}{K:AV→Hp→Mem→Prop}
end
theorem Cmp.le{α:Type}{c:α→α→Int}(h:Cmp c){a b d:α}(h1:c a b≤0)(h2:c b d≤0):c a d≤0:=by
 by_cases e1:c a b=0
 ·rw[(h.zero a b).1 e1];exact h2
 ·by_cases e2:c b d=0
  ·rw[←(h.zero b d).1 e2];exact h1
  ·have:=h.trans a b d (by omega) (by omega);omega
theorem Cmp.self{α:Type}{c:α→α→Int}(h:Cmp c)(a:α):c a a=0:=(h.zero a a).2 rfl
theorem fold_min{α:Type}{c:α→α→Int}(h:Cmp c)(g:Nat→α):∀(l:List Nat) (a:Nat),c (g (l.foldl (fun a j=>if decide (c (g j) (g a)<0)=true then j else a) a)) (g a)≤0∧∀x∈l,c (g (l.foldl (fun a j=>if decide (c (g j) (g a)<0)=true then j else a) a)) (g x)≤0
 | [],a=>⟨by rw[List.foldl_nil,h.self];exact Int.le_refl _,fun x hx=>by cases hx⟩
 | j :: l,a=>by
  rw[List.foldl_cons]
  obtain ⟨i1,i2⟩:=fold_min h g l (if decide (c (g j) (g a)<0)=true then j else a)
  have k1:c (g (if decide (c (g j) (g a)<0)=true then j else a)) (g a)≤0:=by
   by_cases e:c (g j) (g a)<0
   ·rw[if_pos (decide_eq_true e)];omega
   ·rw[if_neg (by simpa using e),h.self];exact Int.le_refl _
  have k2:c (g (if decide (c (g j) (g a)<0)=true then j else a)) (g j)≤0:=by
   by_cases e:c (g j) (g a)<0
   ·rw[if_pos (decide_eq_true e),h.self];exact Int.le_refl _
   ·rw[if_neg (by simpa using e),h.anti];omega
  refine ⟨h.le i1 k1,fun x hx=>?_⟩
  rcases List.mem_cons.1 hx with rfl|hx
  ·exact h.le i1 k2
  ·exact i2 x hx
section
variable {T:List (Bst×List Bst)}{f:Nat→Nat}{n r i j k:Nat}
theorem bestU_le:cmpG (T.getD (bestU (ltG T) f n r) ([],[])) (T.getD r ([],[]))≤0∧∀x∈memU f n r,cmpG (T.getD (bestU (ltG T) f n r) ([],[])) (T.getD x ([],[]))≤0:=
 fold_min cmp_G (fun j=>T.getD j ([],[])) (memU f n r) r
theorem rootsU_pw:(rootsU f n).Pairwise (· < ·):=List.Pairwise.filter _ List.pairwise_lt_range
theorem memU_pw:(memU f n r).Pairwise (· < ·):=List.Pairwise.filter _ List.pairwise_lt_range
theorem pw_at{l:List Nat}(h:l.Pairwise (· < ·)){i j:Nat}(hij:i<j)(hj:j<l.length):l[i]'(by omega)<l[j]:=List.pairwise_iff_getElem.1 h i j (by omega) hj hij
theorem memU_root(hr:r<n)(hf:f r=r)(hle:∀j,j<n→f j≤j):∃t,memU f n r=r :: t:=by
 have hm:r∈memU f n r:=memU_in.2 ⟨hr,hf⟩
 have hp:=memU_pw (f:=f) (n:=n) (r:=r)
 have hall:∀j∈memU f n r,r≤j:=fun j hj=>by
  obtain ⟨h1,h2⟩:=memU_in.1 hj
  have:=hle j h1;omega
 cases h:memU f n r with
 | nil=>rw[h]at hm;cases hm
 | cons a t=>
  rw[h]at hm hp hall
  rcases List.mem_cons.1 hm with e|e
  ·exact ⟨t,by rw[e]⟩
  ·have h1:=(List.pairwise_cons.1 hp).1 r e
   have h2:=hall a List.mem_cons_self
   omega
theorem grpO_len:(grpO T f).length=(rootsU f T.length).length:=by unfold grpO outU;rw[List.length_map,List.length_map]
theorem grpO_at(h:i<(rootsU f T.length).length):(grpO T f)[i]'(by rw[grpO_len];exact h)=(T.getD (bestU (ltG T) f T.length (rootsU f T.length)[i]) ([],[]),memU f T.length (rootsU f T.length)[i]):=by
 simp only[grpO,outU,List.getElem_map]
def seenG(f:Nat→Nat)(n:Nat)(rs:List Nat)(i:Nat)(ms:List Nat):List Bool:=(List.range n).map fun j=>(rs.take i).contains (f j) || ms.contains j
theorem seenG_len{rs ms:List Nat}:(seenG f n rs i ms).length=n:=by simp[seenG]
theorem seenG_at{rs ms:List Nat}(hj:j<n):(seenG f n rs i ms)[j]'(by rw[seenG_len];exact hj)=((rs.take i).contains (f j) || ms.contains j):=by simp[seenG]
theorem seenG_zero{rs:List Nat}:seenG f n rs 0 []=List.replicate n false:=by
 apply List.ext_getElem
 ·simp[seenG]
 ·intro j h1 h2
  rw[seenG_at (by simpa [seenG] using h1)];simp
theorem take_contains_succ{l:List Nat}{q x:Nat}(hq:q<l.length):(l.take (q+1)).contains x=((l.take q).contains x || (l[q]==x)):=by
 rw[List.take_succ_eq_append_getElem hq,Bool.eq_iff_iff]
 simp only[List.contains_iff_mem,List.mem_append,List.mem_singleton,Bool.or_eq_true,beq_iff_eq]
 exact ⟨fun h=>h.imp id Eq.symm,fun h=>h.imp id Eq.symm⟩
theorem seenG_set{rs ms:List Nat}(hk:k<ms.length)(hm:ms[k]<n):(seenG f n rs i (ms.take k)).set ms[k] true=seenG f n rs i (ms.take (k+1)):=by
 apply List.ext_getElem
 ·simp[seenG]
 ·intro j h1 h2
  have hj:j<n:=by rw[seenG_len]at h2;exact h2
  rw[List.getElem_set,seenG_at hj,seenG_at hj,take_contains_succ hk]
  by_cases e:ms[k]=j
  ·rw[if_pos e];simp[e]
  ·rw[if_neg e]
   have:(ms[k]==j)=false:=by simpa using e
   rw[this,Bool.or_false]
theorem seenG_next{rs:List Nat}(hi:i<rs.length):seenG f n rs i (memU f n rs[i])=seenG f n rs (i+1) []:=by
 apply List.ext_getElem
 ·simp[seenG]
 ·intro j h1 h2
  have hj:j<n:=by rw[seenG_len]at h2;exact h2
  rw[seenG_at hj,seenG_at hj,take_contains_succ hi]
  have:(memU f n rs[i]).contains j=(rs[i]==f j):=by
   rw[Bool.eq_iff_iff]
   simp only[List.contains_iff_mem,memU_in,beq_iff_eq]
   constructor
   ·intro h;exact h.2.symm
   ·intro h;exact ⟨hj,h.symm⟩
  rw[this];simp
theorem seenG_no{rs ms:List Nat}(hp:rs.Pairwise (· < ·))(hi:i<rs.length)(hms:ms=memU f n rs[i])(hk:k<ms.length):∃h:ms[k]<n,(seenG f n rs i (ms.take k))[ms[k]]'(by rw[seenG_len];exact h)=false:=by
 have hm:=List.getElem_mem hk
 have hm2:ms[k]∈memU f n rs[i]:=by rw[←hms];exact hm
 obtain ⟨h1,h2⟩:=memU_in.1 hm2
 refine ⟨h1,?_⟩
 rw[seenG_at h1,h2]
 have a1:(rs.take i).contains rs[i]=false:=by
  rw[←Bool.not_eq_true,List.contains_iff_mem]
  intro h
  obtain ⟨q,hq,e⟩:=List.getElem_of_mem h
  rw[List.getElem_take]at e
  have hqi:q<i:=by rw[List.length_take]at hq;omega
  have:=pw_at hp hqi hi
  omega
 have a2:(ms.take k).contains ms[k]=false:=by
  rw[←Bool.not_eq_true,List.contains_iff_mem]
  intro h
  obtain ⟨q,hq,e⟩:=List.getElem_of_mem h
  rw[List.getElem_take]at e
  have hqi:q<k:=by rw[List.length_take]at hq;omega
  have hpm:ms.Pairwise (· < ·):=by rw[hms];exact memU_pw
  have:=pw_at hpm hqi hk
  omega
 rw[a1,a2];rfl
theorem seenG_all{rs:List Nat}(hrs:rs=rootsU f n)(hle:∀j,j<n→f j≤j)(hid:∀j,j<n→f (f j)=f j)(hj:j<n):(seenG f n rs rs.length [])[j]'(by rw[seenG_len];exact hj)=true:=by
 rw[seenG_at hj,List.take_length]
 have:f j∈rs:=by rw[hrs];exact rootsU_in.2 ⟨Nat.lt_of_le_of_lt (hle j hj) hj,hid j hj⟩
 simp[this]
end
theorem firE_0:∀{L:List Fa},(∀f∈L,faE f=0)→firE L=0
 | [],_=>rfl
 | f :: L,h=>by
  simp only[firE]
  rw[h f List.mem_cons_self,if_pos rfl]
  exact firE_0 fun x hx=>h x (List.mem_cons_of_mem _ hx)
theorem sgnE_0{L:List Fa}{d:Int}(h:∀f∈L,faE f=0)(hl:L.length≤64)(h1:1≤d)(h2:d≤16):sgnE L d=0:=by
 unfold sgnE
 rw[if_neg (by omega),if_neg (by omega),if_neg (by omega)]
 exact firE_0 h
def fstI(rs:List Nat)(i:Nat):Int:=if i=0 then -1 else ((rs.getD (i-1) 0:Nat):Int)
section
variable {M:Mem}{K:AV→Hp→Mem→Prop}
theorem dsplit_ok(u:Value)(L:List Fa)(d:Int)(hu:IsR M 5 faC u L)(ho:∀f∈L,faOk M f)(he:sgnE L d=0)(hK:∀u' M' f,Mem.le M M'→Lab L.length (lnkR (L.map faB) d) f→GRV M' u' (grpO (L.map faB) f)→K (.ext (.tuple #[u',.int .i64 0])) [] M'):CallS Try.prog 16 [.ext u,.ext (.int .i64 d)] [] M [] K:=
 gsplit_ok u L d hu ho (by have:=sgnE_64 he;omega) (fun h=>absurd he h) fun _ u' M1 O m1 h1 h2=>by
  obtain ⟨f,h3,rfl⟩:=h1
  rw[List.length_map]at h3
  exact hK u' M1 f m1 h3 h2.v
def paA(M:Mem)(x g:Value)(n i:Nat)(b:Int)(S:List Bool):St:={env:=[(10,.ext (.int .i64 (i:Int))),(9,.ext (.int .i64 b)),(8,.slo 54 0 n 1),(6,.ext g),(5,.ext x)],hp:=[(54,4,cE Value.bool S)],M:=M,kb:=20,fx:=[]}
def paB(M:Mem)(x g m:Value)(n i k:Nat)(b:Int)(le:Bool)(S:List Bool):St:={env:=[(13,.ext (.int .i64 (k:Int))),(12,.ext (.bool le)),(11,.ext m),(10,.ext (.int .i64 (i:Int))),(9,.ext (.int .i64 b)),(8,.slo 54 0 n 1),(6,.ext g),(5,.ext x)],hp:=[(54,4,cE Value.bool S)],M:=M,kb:=20,fx:=[]}
def paC(M:Mem)(x:Value)(n i:Nat)(S:List Bool):St:={env:=[(17,.ext (.int .i64 (i:Int))),(8,.slo 54 0 n 1),(5,.ext x)],hp:=[(54,4,cE Value.bool S)],M:=M,kb:=20,fx:=[]}
theorem part27_ok(v0:Value)(l0:List Int)(d:Int)(hl:IsL M intV64 v0 l0)(hK:∀M',Mem.le M M'→K (.ext (.bool true)) [] M'):CallS Try.prog 4 [.ext v0,.ext (.int .i64 d)] [] M [] K:=by
 refine inlS (cs:=[]) Try.mixed Try.func4 rfl (by kernel_rfl) 20 rfl rfl ?_
 simp only[Try.f4]
 have vo:=hl.one
 refine Go1.mk ?_;repeat' ((first|(with_reducible refine Go1.go ?_)|((with_reducible refine isCall (f:=15) ?_);refine callA ?_)|((with_reducible refine isCallS (f:=15) ?_);refine (failures_ok v0 l0 0 20 0 hl (by decide) (by decide) (by decide) (fun x X M1 p m1 hx hX hp hf=>Stop.mk ?_)))|(refine And.intro ?_ ?_;(try simp only[sxO]at *);omega)|fail)<;>(try simp (maxSteps:=1000000) only [vo,hasK_nil,↓hold_pre,awayP,runOps,regK,step1,newK,genR,appR,obl,buildR,Value.cells,closeK,keepH,outV,retK,ret1,retC,RetV,Option.getD,runD,stepD,afterK,undef,simprocAttr,sxB,↓sxD,sxE,sxTab]))
 have m1:Mem.le M M1:=m1
 have xo:=hx.one
 have xl:=hx.len
 have xs:=hx.sl
 obtain ⟨n,hn⟩:∃n,n=X.length:=⟨_,rfl⟩
 rw[←hn]at hX xl
 refine Stop.go ?_
 refine Go1.mk ?_;repeat' ((first|(with_reducible refine Go1.go ?_)|(((with_reducible refine isCall (f:=17) ?_);refine callA_nil (by kernel_rfl) ?_;refine (fold_ok _ _ (Stop.mk ?_))))|(refine And.intro ?_ ?_;(try simp only[sxO]at *);omega)|fail)<;>(try simp (maxSteps:=1000000) only [tpH,vo,xo,xl,xs,hasK_nil,↓hold_pre,awayP,runOps,regK,step1,newK,genR,appR,obl,buildR,Value.cells,closeK,keepH,outV,retK,ret1,retC,RetV,Option.getD,runD,stepD,afterK,undef,simprocAttr,sxB,↓sxD,sxE,sxTab]))
 obtain ⟨q0,q1⟩:=foldI_bd1 d 4 (by decide) (by decide)
 obtain ⟨y,hy⟩:=Int.eq_ofNat_of_zero_le q0
 rw[hy]at q1 ⊢
 have wy:IntKind.i64.wrap (1+(y:Int))=((1+y:Nat):Int):=by rw[wrap_id (by omega) (by omega)];omega
 have he:sgnE X ((1+y:Nat):Int)=0:=sgnE_0 (fun f h=>(hf f h).1.noE (by decide)) (by omega) (by omega) (by omega)
 refine Stop.go ?_
 refine Go1.mk ?_;repeat' ((first|(with_reducible refine Go1.go ?_)|(((with_reducible refine isCall (f:=16) ?_);refine callA_nil (by kernel_rfl) ?_;refine (dsplit_ok x X _ hx (fun f h=>(hf f h).2) he (fun g M2 f m2 hlab hg=>Stop.mk ?_))))|(refine And.intro ?_ ?_;(try simp only[sxO]at *);omega)|fail)<;>(try simp (maxSteps:=1000000) only [wy,tpH,vo,xo,xl,xs,hasK_nil,↓hold_pre,awayP,runOps,regK,step1,newK,genR,appR,obl,buildR,Value.cells,closeK,keepH,outV,retK,ret1,retC,RetV,Option.getD,runD,stepD,afterK,undef,simprocAttr,sxB,↓sxD,sxE,sxTab]))
 have m2:Mem.le M1 M2:=m2
 obtain ⟨T,hT⟩:∃T,T=X.map faB:=⟨_,rfl⟩
 rw[←hT]at hlab hg
 have hTl:T.length=X.length:=by rw[hT,List.length_map]
 rw[←hn]at hTl hlab
 obtain ⟨L,g1,g2,g3⟩:=hg
 obtain ⟨rs,hrs⟩:∃rs,rs=rootsU f n:=⟨_,rfl⟩
 have hL:L.length=rs.length:=by
  have:=congrArg List.length g3
  rw[List.length_map,grpO_len,hTl,←hrs]at this;exact this
 have hLat:∀i (h:i<L.length),∃h2:i<rs.length,L[i].o=(T.getD (bestU (ltG T) f n (rs[i]'h2)) ([],[]),memU f n (rs[i]'h2)):=fun i h=>by
  have h2:i<rs.length:=by omega
  refine ⟨h2,?_⟩
  have e:(L.map GX.o)[i]'(by rw[List.length_map];exact h)=(grpO T f)[i]'(by rw[grpO_len,hTl,←hrs];exact h2):=by simp only[g3]
  rw[List.getElem_map]at e
  rw[e,grpO_at (by rw[hTl,←hrs];exact h2)]
  simp only[hTl,←hrs]
 have hrsp:rs.Pairwise (· < ·):=by rw[hrs];exact rootsU_pw
 have hrin:∀i (h:i<rs.length),rs[i]<n∧f rs[i]=rs[i]:=fun i h=>by
  have h2:rs[i]∈rootsU f n:=by rw[←hrs];exact List.getElem_mem h
  exact rootsU_in.1 h2
 have hrl:rs.length≤n:=by
  have h1:=List.length_filter_le (fun j=>f j==j) (List.range n)
  rw[List.length_range]at h1
  rw[hrs];exact h1
 have n0:(0:Int)≤(n:Int):=by omega
 have nT:((n:Int)).toNat=n:=by omega
 have hz:(repN [.bool false] n).map AV.ext=cE Value.bool (List.replicate n false):=cE_rep Value.bool n false
 have go:=g1.one
 have gl:=g1.len
 have gs:=g1.sl
 have hTok:∀s∈T,okB s.1 s.2:=fun s hs=>by
  rw[hT]at hs
  obtain ⟨f,h,rfl⟩:=List.mem_map.1 hs
  exact okB_fa (hf f h).2
 refine Stop.go ?_
 refine Go1.mk ?_;repeat' ((first|(with_reducible refine Go1.go ?_)|(refine And.intro ?_ ?_;(try simp only[sxO]at *);omega)|fail)<;>(try simp (maxSteps:=1000000) only [n0,nT,hz,maxLen,tpH,vo,xo,xl,xs,go,gl,gs,cE_ment,cE_kill,hasK_nil,↓hold_pre,awayP,runOps,regK,step1,newK,genR,appR,obl,buildR,Value.cells,closeK,keepH,outV,retK,ret1,retC,RetV,Option.getD,runD,stepD,afterK,undef,simprocAttr,sxB,↓sxD,sxE,sxTab]))
 refine ⟨fun k z=>∃M' i,k=rs.length-i∧i≤rs.length∧Mem.le M2 M'∧z=paA M' x g n i (fstI rs i) (seenG f n rs i []),⟨rs.length,paA M2 x g n 0 (-1) (List.replicate n false),le_sub ⟨rfl,rfl,rfl,rfl,rfl,trivial⟩ ⟨rfl,trivial⟩ rfl rfl rfl (keepLt_of rfl),M2,0,rfl,Nat.zero_le _,Mem.le.refl _,by rw[seenG_zero];rfl⟩,?_⟩
 rintro k z ⟨M3,i,rfl,hi,m3,rfl⟩
 have lS:(cE Value.bool (seenG f n rs i [])).length=n:=by rw[cE_len,seenG_len]
 by_cases hlt:i<rs.length
 case neg=>
  obtain rfl:i=rs.length:=by omega
  have c1:decide ((rs.length:Int)<(L.length:Int))=false:=by rw[decide_eq_false_iff_not];omega
  refine Go1.mk ?_;repeat' ((first|(with_reducible refine Go1.go ?_)|(refine And.intro ?_ ?_;(try simp only[sxO]at *);omega)|fail)<;>(try simp (maxSteps:=1000000) only [paA,c1,xo,xl,xs,go,gl,gs,lS,cE_ment,cE_kill,hasK_nil,↓hold_pre,awayP,runOps,regK,step1,newK,genR,appR,obl,buildR,Value.cells,closeK,keepH,outV,retK,ret1,retC,RetV,Option.getD,runD,stepD,afterK,undef,simprocAttr,sxB,↓sxD,sxE,sxTab]))
  refine ⟨fun k z=>∃j,k=n-j∧j≤n∧z=paC M3 x n j (seenG f n rs rs.length []),⟨n,paC M3 x n 0 (seenG f n rs rs.length []),le_sub ⟨rfl,rfl,rfl,trivial⟩ ⟨rfl,trivial⟩ rfl rfl rfl (keepLt_of rfl),0,rfl,Nat.zero_le _,rfl⟩,?_⟩
  rintro k z ⟨j,rfl,hj,rfl⟩
  by_cases hjn:j<n
  case neg=>
   have c2:decide ((j:Int)<(n:Int))=false:=by rw[decide_eq_false_iff_not];omega
   refine Go1.mk ?_;repeat' ((first|(with_reducible refine Go1.go ?_)|(((with_reducible refine isCall (f:=9) ?_);refine callA_nil (by kernel_rfl) ?_;refine (known27_ok (fun M4 m4=>Stop.mk ?_))))|(refine And.intro ?_ ?_;(try simp only[sxO]at *);omega)|fail)<;>(try simp (maxSteps:=1000000) only [paC,c2,xo,xl,xs,lS,cE_ment,cE_kill,hasK_nil,↓hold_pre,awayP,runOps,regK,step1,newK,genR,appR,obl,buildR,Value.cells,closeK,keepH,outV,retK,ret1,retC,RetV,Option.getD,runD,stepD,afterK,undef,simprocAttr,sxB,↓sxD,sxE,sxTab]))
   refine Stop.go ?_
   refine Go1.mk ?_;repeat' ((first|(with_reducible refine Go1.go ?_)|(refine And.intro ?_ ?_;(try simp only[sxO]at *);omega)|fail)<;>(try simp (maxSteps:=1000000) only [hasK_nil,↓hold_pre,awayP,runOps,regK,step1,newK,genR,appR,obl,buildR,Value.cells,closeK,keepH,outV,retK,ret1,retC,RetV,Option.getD,runD,stepD,afterK,undef,simprocAttr,sxB,↓sxD,sxE,sxTab]))
   exact hK _ (m1.trans (m2.trans (m3.trans m4)))
  have c2:decide ((j:Int)<(n:Int))=true:=by rw[decide_eq_true_eq];omega
  have z2:(0:Int)≤(j:Int):=by omega
  have z3:(j:Int)<(n:Int):=by omega
  have wj:IntKind.i64.wrap ((j:Int)+1)=((j+1:Nat):Int):=by rw[wrap_id (by omega) (by omega)];omega
  have hat:(cE Value.bool (seenG f n rs rs.length []))[j]? = some (.ext (.bool true)):=by
   rw[cE_at Value.bool (show j<(seenG f n rs rs.length []).length by rw[seenG_len];exact hjn),seenG_all hrs hlab.le hlab.id hjn]
  refine Go1.mk ?_;repeat' ((first|(with_reducible refine Go1.go ?_)|(refine And.intro ?_ ?_;(try simp only[sxO]at *);omega)|fail)<;>(try simp (maxSteps:=1000000) only [paC,c2,z2,z3,hjn,hat,wj,xo,xl,xs,lS,Nat.mul_one,Nat.zero_add,cE_ment,cE_kill,hasK_nil,↓hold_pre,awayP,runOps,regK,step1,newK,genR,appR,obl,buildR,Value.cells,closeK,keepH,outV,retK,ret1,retC,RetV,Option.getD,runD,stepD,afterK,undef,simprocAttr,sxB,↓sxD,sxE,sxTab]))
  exact ⟨n-(j+1),paC M3 x n (j+1) (seenG f n rs rs.length []),by omega,le_sub ⟨rfl,rfl,rfl,trivial⟩ ⟨rfl,trivial⟩ rfl rfl rfl (keepLt_of rfl),j+1,rfl,by omega,rfl⟩
 have hiL:i<L.length:=by omega
 obtain ⟨_,hLo⟩:=hLat i hiL
 obtain ⟨hr1,hr2⟩:=hrin i hlt
 obtain ⟨tl,htl⟩:=memU_root hr1 hr2 hlab.le
 obtain ⟨ms,hms⟩:∃ms,ms=memU f n rs[i]:=⟨_,rfl⟩
 have hnx:=seenG_next (f:=f) (n:=n) hlt
 have hml:ms.length≤n:=by
  have h1:=List.length_filter_le (fun j=>f j==rs[i]) (List.range n)
  rw[List.length_range]at h1
  rw[hms];exact h1
 rw[←hms]at htl hLo hnx
 have c1:decide ((i:Int)<(L.length:Int))=true:=by rw[decide_eq_true_eq];omega
 have z2:(0:Int)≤(i:Int):=by omega
 have z3:(i:Int)<(L.length:Int):=by omega
 have wi:IntKind.i64.wrap ((i:Int)+1)=((i+1:Nat):Int):=by rw[wrap_id (by omega) (by omega)];omega
 have g13:=g1.le m3
 have gn:=g13.nn hiL
 have gp:=g13.pt hiL
 have ga:lookM Try.prog 25 M3 (addP (elemP g 3 i) 2)=some L[i].u:=g13.atF (P:=Try.prog) (T:=25) (fun _=>rfl) tk25 tz25 hiL (o:=2) (v:=L[i].u) rfl
 obtain ⟨k1,k2⟩:=g2 _ (List.getElem_mem hiL)
 have k1:=k1.le m3
 have k2:=k2.le m3
 have hLl:L[i].l=ms:=congrArg Prod.snd hLo
 have hLm:(L[i].m,L[i].C)=T.getD (bestU (ltG T) f n rs[i]) ([],[]):=congrArg Prod.fst hLo
 have gw:∀{M':Mem},Mem.le M2 M'→lookM Try.prog 24 M' (addP (elemP g 3 i) 0)=some (.agg #[.string (bs L[i].m),L[i].y]):=fun h=>(g1.le h).part (fun _=>rfl) tk24 tz24 hiL (o:=0) (by decide)
 have hbU:=bestU_le (T:=T) (f:=f) (n:=n) (r:=rs[i])
 have hbM:=bestU_mem (lt:=ltG T) (f:=f) (i:=n) (r:=rs[i])
 rw[←hms,←hLm]at hbU
 rw[←hms]at hbM
 rw[hLl]at k2
 have hbC:L[i].C.length<4000000000000000000:=by
  have h:T.getD (bestU (ltG T) f n rs[i]) ([],[])∈T:=by
   have hb:bestU (ltG T) f n rs[i]<T.length:=by rw[hTl];exact bestU_lt hr1 (Nat.le_refl _)
   rw[List.getD_eq_getElem?_getD,List.getElem?_eq_getElem hb];exact List.getElem_mem _
  have h2:=(hTok _ h).2.1
  rw[←hLm]at h2
  exact Nat.lt_trans h2 (by decide)
 have hsno:=fun k (hk:k<ms.length)=>seenG_no (f:=f) (n:=n) hrsp hlt hms hk
 have hmsp:ms.Pairwise (· < ·):=by rw[hms];exact memU_pw
 have hrm:rs[i]∈ms:=by rw[htl];exact List.mem_cons_self
 have hbst:∃b∈ms,T.getD b ([],[])=(L[i].m,L[i].C):=by
  rcases hbM with h|h
  ·exact ⟨_,hrm,by rw[hLm,h]⟩
  ·exact ⟨_,h,hLm.symm⟩
 clear hLo hLl hLm hbM
 generalize L[i]=q at *
 obtain ⟨qm,qy,qC,qu,ql⟩:=q
 have k1:IsL M3 sbV qy qC:=k1
 have k2:IsL M3 natV qu ms:=k2
 have ga:lookM Try.prog 25 M3 (addP (elemP g 3 i) 2)=some qu:=ga
 have gw:∀{M':Mem},Mem.le M2 M'→lookM Try.prog 24 M' (addP (elemP g 3 i) 0)=some (.agg #[.string (bs qm),qy]):=gw
 have qo:=k2.one
 have ql1:=k2.len
 have qs:=k2.sl
 have yo:=k1.one
 have hm0:0<ms.length:=by rw[htl];simp
 have e0:ms[0]=rs[i]:=by simp only[htl];rfl
 have qn:=k2.nn hm0
 have p0:lookM Try.prog 3 M3 (elemP qu 1 0)=some (natV rs[i]):=by
  have h:=k2.at (P:=Try.prog) (T:=3) tk3 tz3 hm0
  rw[e0]at h;exact h
 have c3:decide ((ms.length:Int)=0)=false:=by rw[decide_eq_false_iff_not];omega
 have c4:decide (((rs[i]:Nat):Int)≤fstI rs i)=false:=by
  rw[decide_eq_false_iff_not]
  unfold fstI
  split
  ·omega
  ·have h:=pw_at hrsp (show i-1<i by omega) hlt
   rw[List.getD_eq_getElem?_getD,List.getElem?_eq_getElem (by omega),Option.getD_some]
   omega
 have c5:(0:Int)<(ms.length:Int):=by omega
 have fnx:fstI rs (i+1)=((rs[i]:Nat):Int):=by
  unfold fstI
  rw[if_neg (by omega),Nat.add_sub_cancel,List.getD_eq_getElem?_getD,List.getElem?_eq_getElem hlt];rfl
 obtain ⟨r0,hr0⟩:∃r0,r0=rs[i]:=⟨_,rfl⟩
 rw[←hr0]at p0 c4 fnx hr1
 refine Go1.mk ?_;repeat' ((first|(with_reducible refine Go1.go ?_)|(refine And.intro ?_ ?_;(try simp only[sxO]at *);omega)|fail)<;>(try simp (maxSteps:=1000000) only [paA,natV,c1,c3,c4,c5,z2,z3,gn,gp,ga,qo,ql1,qs,qn,p0,xo,xl,xs,go,gl,gs,lS,Nat.mul_one,Nat.zero_add,cE_ment,cE_kill,hasK_nil,↓hold_pre,awayP,runOps,regK,step1,newK,genR,appR,obl,buildR,Value.cells,closeK,keepH,outV,retK,ret1,retC,RetV,Option.getD,runD,stepD,afterK,undef,simprocAttr,sxB,↓sxD,sxE,sxTab]))
 obtain ⟨lf,hlf⟩:∃lf:Nat→Bool,∀k,lf k=(ms.take k).any fun j=>decide (cmpG (qm,qC) (T.getD j ([],[]))=0):=⟨_,fun _=>rfl⟩
 refine ⟨fun k' z=>∃M' k,k'=ms.length-k∧k≤ms.length∧Mem.le M3 M'∧z=paB M' x g qu n i k ((r0:Nat):Int) (lf k) (seenG f n rs i (ms.take k)),⟨ms.length,paB M3 x g qu n i 0 ((r0:Nat):Int) false (seenG f n rs i []),le_sub ⟨rfl,rfl,rfl,rfl,rfl,rfl,rfl,rfl,trivial⟩ ⟨rfl,trivial⟩ rfl rfl rfl (keepLt_of rfl),M3,0,rfl,Nat.zero_le _,Mem.le.refl _,by rw[hlf];rfl⟩,?_⟩
 rintro k' z ⟨M4,k,rfl,hk,m4,rfl⟩
 have lS:(cE Value.bool (seenG f n rs i (ms.take k))).length=n:=by rw[cE_len,seenG_len]
 by_cases hkm:k<ms.length
 case neg=>
  obtain rfl:k=ms.length:=by omega
  have b1:decide ((ms.length:Int)<(ms.length:Int))=false:=by simp
  have hl1:lf ms.length=true:=by
   rw[hlf,List.take_length,List.any_eq_true]
   obtain ⟨b,hb,e⟩:=hbst
   exact ⟨b,hb,by rw[e,cmp_G.self];rfl⟩
  rw[List.take_length]at lS ⊢
  refine Go1.mk ?_;repeat' ((first|(with_reducible refine Go1.go ?_)|(refine And.intro ?_ ?_;(try simp only[sxO]at *);omega)|fail)<;>(try simp (maxSteps:=1000000) only [paB,b1,hl1,wi,qo,ql1,qs,xo,go,lS,cE_ment,cE_kill,hasK_nil,↓hold_pre,awayP,runOps,regK,step1,newK,genR,appR,obl,buildR,Value.cells,closeK,keepH,outV,retK,ret1,retC,RetV,Option.getD,runD,stepD,afterK,undef,simprocAttr,sxB,↓sxD,sxE,sxTab]))
  exact ⟨rs.length-(i+1),paA M4 x g n (i+1) (fstI rs (i+1)) (seenG f n rs (i+1) []),by omega,le_sub ⟨rfl,by rw[fnx];rfl,rfl,rfl,rfl,trivial⟩ ⟨by rw[←hnx];rfl,trivial⟩ rfl rfl rfl (keepLt_of rfl),M4,i+1,rfl,by omega,m3.trans m4,rfl⟩
 have b1:decide ((k:Int)<(ms.length:Int))=true:=by rw[decide_eq_true_eq];omega
 have b2:(0:Int)≤(k:Int):=by omega
 have b3:(k:Int)<(ms.length:Int):=by omega
 have wk:IntKind.i64.wrap ((k:Int)+1)=((k+1:Nat):Int):=by rw[wrap_id (by omega) (by omega)];omega
 have k24:=k2.le m4
 have p1:=k24.at (P:=Try.prog) (T:=3) tk3 tz3 hkm
 obtain ⟨hjn,hsf⟩:=hsno k hkm
 have hset:=seenG_set (f:=f) (rs:=rs) (i:=i) hkm hjn
 have hat:(cE Value.bool (seenG f n rs i (ms.take k)))[ms[k]]? = some (.ext (.bool false)):=by
  rw[cE_at Value.bool (show ms[k]<(seenG f n rs i (ms.take k)).length by rw[seenG_len];exact hjn),hsf]
 have hset2:(cE Value.bool (seenG f n rs i (ms.take k))).set ms[k] (.ext (.bool true))=cE Value.bool (seenG f n rs i (ms.take (k+1))):=by
  rw[←hset];exact cE_set Value.bool _ _ true
 have hlk:lf (k+1)=(lf k || decide (cmpG (qm,qC) (T.getD ms[k] ([],[]))=0)):=by
  rw[hlf,hlf,List.take_succ_eq_append_getElem hkm,List.any_append];simp
 have hcm:=hbU.2 _ (List.getElem_mem hkm)
 have hprev:0<k→∃j':Nat,lookM Try.prog 3 M4 (elemP qu 1 (k-1))=some (natV j')∧decide (((ms[k]:Nat):Int)≤(j':Int))=false:=fun h0=>by
  refine ⟨ms[k-1]'(by omega),k24.at (P:=Try.prog) (T:=3) tk3 tz3 (by omega),?_⟩
  have:=pw_at hmsp (show k-1<k by omega) hkm
  rw[decide_eq_false_iff_not];omega
 obtain ⟨j,hj⟩:∃j,j=ms[k]:=⟨_,rfl⟩
 rw[←hj]at p1 hjn hat hset2 hlk hcm hprev
 clear hset hsf hj hsno
 have y1:decide ((j:Int)<0)=false:=by rw[decide_eq_false_iff_not];omega
 have y2:(0:Int)≤(j:Int):=by omega
 have y3:(j:Int)<(n:Int):=by omega
 have y4:decide ((n:Int)≤(j:Int))=false:=by rw[decide_eq_false_iff_not];omega
 have hjX:j<X.length:=by omega
 have hx4:=hx.le (m2.trans (m3.trans m4))
 have xn:=hx4.nn hjX
 have xat:lookM Try.prog 34 M4 (elemP x 5 j)=some (faV X[j].1 X[j].2.1 X[j].2.2.1 X[j].2.2.2.1 X[j].2.2.2.2.1):=hx4.at (P:=Try.prog) (T:=34) (fun _=>rfl) tk34 tz34 hjX
 obtain ⟨fd,fo⟩:=hf _ (List.getElem_mem hjX)
 have fo:=fo.le (m2.trans (m3.trans m4))
 have hTj:T.getD j ([],[])=faB X[j]:=by rw[hT,List.getD_eq_getElem?_getD,List.getElem?_map,List.getElem?_eq_getElem hjX];rfl
 rw[hTj]at hlk hcm
 generalize X[j]=fj at *
 have hBj:=okB_fa fo
 have fjo:=fo.1.one
 unfold faV at xat
 rcases Nat.eq_zero_or_pos k with h0|h0
 case' inr=>
  obtain ⟨j',pj,dj⟩:=hprev h0
  have d0:decide ((0:Int)<(k:Int))=true:=by rw[decide_eq_true_eq];omega
  have w0:IntKind.i64.wrap ((k:Int)-1)=((k-1:Nat):Int):=by rw[wrap_id (by omega) (by omega)];omega
  have e2:(0:Int)≤((k-1:Nat):Int):=by omega
  have e3:((k-1:Nat):Int)<(ms.length:Int):=by omega
  refine Go1.mk ?_;repeat' ((first|(with_reducible refine Go1.go ?_)|(((with_reducible refine isCall (f:=10) ?_);refine callA_nil (by kernel_rfl) ?_;refine (dsign_ok fj fd (by decide) fo (fun su M5 m5 g5 _=>Stop.mk ?_))))|((with_reducible refine isDraw [some 65,some 66,some 67,some 68,some 69,some 70,some 71,some 72,some 73,some 74,some 75,some 76,some 77,some 78,some 79,some 80,some 81,some 82,some 83,some 84,some 85,some 86,some 87,some 88,some 89,some 90,some 91,some 92,some 93,some 94,some 95,some 96,some 97,some 98,some 99,some 100,some 101,some 102,some 103] (by decide) ?_);refine draw_rule [(0,[]),(1,[]),(2,[]),(3,[]),(4,[]),(5,[]),(6,[]),(7,[]),(8,[]),(9,[]),(10,[9]),(11,[9]),(12,[]),(13,[]),(14,[]),(15,[]),(16,[]),(17,[]),(18,[]),(19,[]),(20,[]),(21,[]),(22,[21]),(23,[21]),(24,[21]),(25,[21]),(26,[21]),(27,[]),(28,[]),(29,[]),(30,[]),(31,[]),(32,[]),(33,[]),(34,[]),(35,[]),(36,[]),(37,[]),(38,[])] [[],[],[0,1],[0,1,2],[0,1,2,3],[0,1,2,3,4],[0,1,2,3,4,5],[0,1,2,3,4,5],[0,1,2,3,4,5,6,7],[0,1,2,3,4,5,6,7,8],[0,1,2,3,4,5],[0,1,2,3,4,5,10],[0,1,2,3,4,5,6,7,8,9,10,11],[0,1,2,3,4,5,6,7,8,9,10,11,12],[0,1,2,3,4,5,6,7,8,9,10,11,12,13],[0,1,2,3,4,5,6,7,8,9,10,11,12,13,14],[0,1,2,3,4,5,6,7,8,9,10,11,12,13,14,15],[0,1,2,3,4,5,6,7,8,9,10,11,12,13,14,15,16],[0,1,2,3,4,5,6,7,8,9,10,11,12,13,14,15,16,17],[0,1,2,3,4,5,6,7,8,9,10,11,12,13,14,15,16,17],[0,1,2,3,4,5,6,7,8,9,10,11,12,13,14,15,16,17,18,19],[0,1,2,3,4,5,6,7,8,9,10,11,12,13,14,15,16,17,18,19,20],[0,1,2,3,4,5,6,7,8,9,10,11,12,13,14,15,16,17],[0,1,2,3,4,5,6,7,8,9,10,11,12,13,14,15,16,17],[0,1,2,3,4,5,6,7,8,9,10,11,12,13,14,15,16,17,23],[0,1,2,3,4,5,6,7,8,9,10,11,12,13,14,15,16,17,22,23,24],[0,1,2,3,4,5,6,7,8,9,10,11,12,13,14,15,16,17,22,23,24,25],[0,1,2,3,4,5,6,7,8,9,10,11,12,13,14,15,16,17,18,19,20,21,22,23,24,25,26],[0,1,2,3,4,5,6,7,8,9,10,11,12,13,14,15,16,17,18,19,20,21,22,23,24,25,26,27],[0,1,2,3,4,5,6,7,8,9,10,11,12,13,14,15,16,17,18,19,20,21,22,23,24,25,26,27,28],[0,1,2,3,4,5,6,7,8,9,10,11,12,13,14,15,16,17,18,19,20,21,22,23,24,25,26,27,28,29],[0,1,2,3,4,5,6,7,8,9,10,11,12,13,14,15,16,17,18,19,20,21,22,23,24,25,26,27,28,29,30],[0,1,2,3,4,5,6,7,8,9,10,11,12,13,14,15,16,17,18,19,20,21,22,23,24,25,26,27,28,29,30],[0,1,2,3,4,5,6,7,8,9,10,11,12,13,14,15,16,17,18,19,20,21,22,23,24,25,26,27,28,29,30],[0,1,2,3,4,5,6,7,8,9,10,11,12,13,14,15,16,17,18,19,20,21,22,23,24,25,26,27,28,29,30,32,33],[0,1,2,3,4,5,6,7,8,9,10,11,12,13,14,15,16,17,18,19,20,21,22,23,24,25,26,27,28,29,30,32,33,34],[0,1,2,3,4,5,6,7,8,9,10,11,12,13,14,15,16,17,18,19,20,21,22,23,24,25,26,27,28,29,30,31,32,33,34,35],[0,1,2,3,4,5,6,7,8,9,10,11,12,13,14,15,16,17,18,19,20,21,22,23,24,25,26,27,28,29,30,31,32,33,34,35,36],[0,1,2,3,4,5,6,7,8,9,10,11,12,13,14,15,16,17,18,19,20,21,22,23,24,25,26,27,28,29,30,31,32,33,34,35,36,37]] [65,66,71,72,73,74,75,76,83,84,85,86,87,88,89,90,91,96,97,98,99,100] [] (by kernel_rfl) (by kernel_rfl) (by kernel_rfl) (by kernel_rfl) (by exact trivial) ?_)|(refine And.intro ?_ ?_;(try simp only[sxO]at *);omega)|fail)<;>(try simp (maxSteps:=1000000) only [paB,faV,natV,b1,b2,b3,y1,y2,y3,y4,d0,w0,e2,e3,pj,dj,ge_iff_le,gt_iff_lt,hjn,hat,hset2,xn,xat,p1,qn,qo,ql1,qs,xo,xl,xs,go,lS,fjo,Nat.mul_one,Nat.zero_add,cE_ment,cE_kill,hasK_nil,bs_mk,bs_app,bs_ext,bs_size,bs_toList,bs_at,bs_cells,List.take_length,imp_ga,guard_pk,guard_pk2,↓hold_pre,awayP,runOps,regK,step1,newK,genR,appR,obl,buildR,Value.cells,closeK,keepH,outV,retK,ret1,retC,RetV,Option.getD,runD,stepD,afterK,undef,simprocAttr,sxB,↓sxD,sxE,sxTab]))
 case' inl=>
  have d0:decide ((0:Int)<(k:Int))=false:=by rw[decide_eq_false_iff_not];omega
  refine Go1.mk ?_;repeat' ((first|(with_reducible refine Go1.go ?_)|(((with_reducible refine isCall (f:=10) ?_);refine callA_nil (by kernel_rfl) ?_;refine (dsign_ok fj fd (by decide) fo (fun su M5 m5 g5 _=>Stop.mk ?_))))|((with_reducible refine isDraw [some 65,some 66,some 67,some 68,some 69,some 70,some 71,some 72,some 73,some 74,some 75,some 76,some 77,some 78,some 79,some 80,some 81,some 82,some 83,some 84,some 85,some 86,some 87,some 88,some 89,some 90,some 91,some 92,some 93,some 94,some 95,some 96,some 97,some 98,some 99,some 100,some 101,some 102,some 103] (by decide) ?_);refine draw_rule [(0,[]),(1,[]),(2,[]),(3,[]),(4,[]),(5,[]),(6,[]),(7,[]),(8,[]),(9,[]),(10,[9]),(11,[9]),(12,[]),(13,[]),(14,[]),(15,[]),(16,[]),(17,[]),(18,[]),(19,[]),(20,[]),(21,[]),(22,[21]),(23,[21]),(24,[21]),(25,[21]),(26,[21]),(27,[]),(28,[]),(29,[]),(30,[]),(31,[]),(32,[]),(33,[]),(34,[]),(35,[]),(36,[]),(37,[]),(38,[])] [[],[],[0,1],[0,1,2],[0,1,2,3],[0,1,2,3,4],[0,1,2,3,4,5],[0,1,2,3,4,5],[0,1,2,3,4,5,6,7],[0,1,2,3,4,5,6,7,8],[0,1,2,3,4,5],[0,1,2,3,4,5,10],[0,1,2,3,4,5,6,7,8,9,10,11],[0,1,2,3,4,5,6,7,8,9,10,11,12],[0,1,2,3,4,5,6,7,8,9,10,11,12,13],[0,1,2,3,4,5,6,7,8,9,10,11,12,13,14],[0,1,2,3,4,5,6,7,8,9,10,11,12,13,14,15],[0,1,2,3,4,5,6,7,8,9,10,11,12,13,14,15,16],[0,1,2,3,4,5,6,7,8,9,10,11,12,13,14,15,16,17],[0,1,2,3,4,5,6,7,8,9,10,11,12,13,14,15,16,17],[0,1,2,3,4,5,6,7,8,9,10,11,12,13,14,15,16,17,18,19],[0,1,2,3,4,5,6,7,8,9,10,11,12,13,14,15,16,17,18,19,20],[0,1,2,3,4,5,6,7,8,9,10,11,12,13,14,15,16,17],[0,1,2,3,4,5,6,7,8,9,10,11,12,13,14,15,16,17],[0,1,2,3,4,5,6,7,8,9,10,11,12,13,14,15,16,17,23],[0,1,2,3,4,5,6,7,8,9,10,11,12,13,14,15,16,17,22,23,24],[0,1,2,3,4,5,6,7,8,9,10,11,12,13,14,15,16,17,22,23,24,25],[0,1,2,3,4,5,6,7,8,9,10,11,12,13,14,15,16,17,18,19,20,21,22,23,24,25,26],[0,1,2,3,4,5,6,7,8,9,10,11,12,13,14,15,16,17,18,19,20,21,22,23,24,25,26,27],[0,1,2,3,4,5,6,7,8,9,10,11,12,13,14,15,16,17,18,19,20,21,22,23,24,25,26,27,28],[0,1,2,3,4,5,6,7,8,9,10,11,12,13,14,15,16,17,18,19,20,21,22,23,24,25,26,27,28,29],[0,1,2,3,4,5,6,7,8,9,10,11,12,13,14,15,16,17,18,19,20,21,22,23,24,25,26,27,28,29,30],[0,1,2,3,4,5,6,7,8,9,10,11,12,13,14,15,16,17,18,19,20,21,22,23,24,25,26,27,28,29,30],[0,1,2,3,4,5,6,7,8,9,10,11,12,13,14,15,16,17,18,19,20,21,22,23,24,25,26,27,28,29,30],[0,1,2,3,4,5,6,7,8,9,10,11,12,13,14,15,16,17,18,19,20,21,22,23,24,25,26,27,28,29,30,32,33],[0,1,2,3,4,5,6,7,8,9,10,11,12,13,14,15,16,17,18,19,20,21,22,23,24,25,26,27,28,29,30,32,33,34],[0,1,2,3,4,5,6,7,8,9,10,11,12,13,14,15,16,17,18,19,20,21,22,23,24,25,26,27,28,29,30,31,32,33,34,35],[0,1,2,3,4,5,6,7,8,9,10,11,12,13,14,15,16,17,18,19,20,21,22,23,24,25,26,27,28,29,30,31,32,33,34,35,36],[0,1,2,3,4,5,6,7,8,9,10,11,12,13,14,15,16,17,18,19,20,21,22,23,24,25,26,27,28,29,30,31,32,33,34,35,36,37]] [65,66,71,72,73,74,75,76,83,84,85,86,87,88,89,90,91,96,97,98,99,100] [] (by kernel_rfl) (by kernel_rfl) (by kernel_rfl) (by kernel_rfl) (by exact trivial) ?_)|(refine And.intro ?_ ?_;(try simp only[sxO]at *);omega)|fail)<;>(try simp (maxSteps:=1000000) only [paB,faV,natV,b1,b2,b3,y1,y2,y3,y4,d0,ge_iff_le,gt_iff_lt,hjn,hat,hset2,xn,xat,p1,qn,qo,ql1,qs,xo,xl,xs,go,lS,fjo,Nat.mul_one,Nat.zero_add,cE_ment,cE_kill,hasK_nil,bs_mk,bs_app,bs_ext,bs_size,bs_toList,bs_at,bs_cells,List.take_length,imp_ga,guard_pk,guard_pk2,↓hold_pre,awayP,runOps,regK,step1,newK,genR,appR,obl,buildR,Value.cells,closeK,keepH,outV,retK,ret1,retC,RetV,Option.getD,runD,stepD,afterK,undef,simprocAttr,sxB,↓sxD,sxE,sxTab]))
 all_goals
  have m5:Mem.le M4 M5:=m5
  have suo:=g5.one
  have gw5:=gw (m3.trans (m4.trans m5))
  have k15:=(k1.le m4).le m5
  have sl5:(faB fj).2.length<4000000000000000000:=Nat.lt_trans hBj.2.1 (by decide)
  refine Stop.go ?_
  refine Go1.mk ?_;repeat' ((first|(with_reducible refine Go1.go ?_)|(((with_reducible refine isCall0 (f:=18) ?_);refine callA0_nil (by kernel_rfl) ?_;refine (compare_ok qm (faB fj).1 qy su qC (faB fj).2 k15 g5 hbC sl5 (Stop.mk ?_))))|((with_reducible refine isDraw [some 121,some 122,some 123,some 124,some 125,some 126,some 127,some 16] (by decide) ?_);refine draw_rule [(0,[]),(1,[]),(2,[]),(3,[]),(4,[]),(5,[4]),(6,[]),(7,[])] [[],[],[0,1],[0,1,2],[0,1,2,3],[],[0,1,2,3,4,5],[0,1,2,3,4,5,6]] [121,122,123,124,125,126] [] (by kernel_rfl) (by kernel_rfl) (by kernel_rfl) (by kernel_rfl) (by exact trivial) ?_)|(refine And.intro ?_ ?_;(try simp only[sxO]at *);omega)|fail)<;>(try simp (maxSteps:=1000000) only [sgT,gn,gp,gw5,yo,suo,c1,z2,z3,qo,ql1,qs,xo,xl,xs,go,gl,gs,lS,fjo,Nat.mul_one,Nat.zero_add,cE_ment,cE_kill,hasK_nil,bs_mk,bs_app,bs_ext,bs_size,bs_toList,bs_at,bs_cells,List.take_length,imp_ga,guard_pk,guard_pk2,↓hold_pre,awayP,runOps,regK,step1,newK,genR,appR,obl,buildR,Value.cells,closeK,keepH,outV,retK,ret1,retC,RetV,Option.getD,runD,stepD,afterK,undef,simprocAttr,sxB,↓sxD,sxE,sxTab]))
  have hcm2:cmpG (qm,qC) ((faB fj).1,(faB fj).2)≤0:=hcm
  have hlk2:lf (k+1)=(lf k || decide (cmpG (qm,qC) ((faB fj).1,(faB fj).2)=0)):=hlk
  generalize cmpG (qm,qC) ((faB fj).1,(faB fj).2)=cz at *
  have d9:decide (0<cz)=false:=by rw[decide_eq_false_iff_not];omega
  cases hlfk:lf k with
  | true=>
   rw[hlfk,Bool.true_or]at hlk2
   refine Stop.go ?_
   refine Go1.mk ?_;repeat' ((first|(with_reducible refine Go1.go ?_)|(refine And.intro ?_ ?_;(try simp only[sxO]at *);omega)|fail)<;>(try simp (maxSteps:=1000000) only [d9,hlfk,wk,qo,ql1,qs,xo,xl,xs,go,gl,gs,lS,cE_ment,cE_kill,hasK_nil,bs_mk,bs_app,bs_ext,bs_size,bs_toList,bs_at,bs_cells,List.take_length,imp_ga,guard_pk,guard_pk2,↓hold_pre,awayP,runOps,regK,step1,newK,genR,appR,obl,buildR,Value.cells,closeK,keepH,outV,retK,ret1,retC,RetV,Option.getD,runD,stepD,afterK,undef,simprocAttr,sxB,↓sxD,sxE,sxTab]))
   exact ⟨ms.length-(k+1),paB M5 x g qu n i (k+1) ((r0:Nat):Int) (lf (k+1)) (seenG f n rs i (ms.take (k+1))),by omega,le_sub ⟨rfl,by rw[hlk2];rfl,rfl,rfl,rfl,rfl,rfl,rfl,trivial⟩ ⟨rfl,trivial⟩ rfl rfl rfl (keepLt_of rfl),M5,k+1,rfl,by omega,m4.trans m5,rfl⟩
  | false=>
   rw[hlfk,Bool.false_or]at hlk2
   refine Stop.go ?_
   refine Go1.mk ?_;repeat' ((first|(with_reducible refine Go1.go ?_)|(refine And.intro ?_ ?_;(try simp only[sxO]at *);omega)|fail)<;>(try simp (maxSteps:=1000000) only [d9,hlfk,wk,qo,ql1,qs,xo,xl,xs,go,gl,gs,lS,cE_ment,cE_kill,hasK_nil,bs_mk,bs_app,bs_ext,bs_size,bs_toList,bs_at,bs_cells,List.take_length,imp_ga,guard_pk,guard_pk2,↓hold_pre,awayP,runOps,regK,step1,newK,genR,appR,obl,buildR,Value.cells,closeK,keepH,outV,retK,ret1,retC,RetV,Option.getD,runD,stepD,afterK,undef,simprocAttr,sxB,↓sxD,sxE,sxTab]))
   exact ⟨ms.length-(k+1),paB M5 x g qu n i (k+1) ((r0:Nat):Int) (lf (k+1)) (seenG f n rs i (ms.take (k+1))),by omega,le_sub ⟨rfl,by rw[hlk2];rfl,rfl,rfl,rfl,rfl,rfl,rfl,trivial⟩ ⟨rfl,trivial⟩ rfl rfl rfl (keepLt_of rfl),M5,k+1,rfl,by omega,m4.trans m5,rfl⟩
end
end Go.Proofs.Ytoblkpomikokhaa.Sx
