/- Part 38 of the texts of this claim: a symbolic executor and contracts of functions. -/
import Derived.Test.YtbclgnojcnkehaaGreatPuCRP4
namespace Go.Proofs.YtbclgnojcnkehaaGreat.Sx
open Go Go.RowKit
set_option linter.unusedVariables false
set_option linter.unusedSimpArgs false
set_option maxRecDepth 100000
set_option maxHeartbeats 8000000
attribute [local congr] fin_congr finG_congr stepG_congr step1_congr runOps_congr brv_congr obl_congr condK_congr LoopK_congr seqK_congr CutK_congr vc_congr DrawK_congr regK_congr CallK_congr AskK_congr newK_congr retC_congr ret1_congr retK_congr outV_congr closeK_congr genR_congr appR_congr finD_congr finGD_congr stepGD_congr stepD_congr CallK0_congr runD_congr okR_congr CallS_congr vcX_congr
attribute [local congr] Stop_congr
set_option exponentiation.threshold 5000
structure OneD (W:List FR) (Y:List Nat) (D:Nat):Prop where
 pos:0<D
 le:D≤b0*1000000^6*1000000
 val:W.map prV=(Y.map fun y=>red y D).map fun q=>(ofN q.1,ofN q.2)
 small:∀y∈Y,y≤D
 few:Y.length≤300
theorem posF_red{y D:Nat}(h:posF (ofN (red y D).1) (ofN (red y D).2)=true):0<y:=by
 rcases Nat.eq_zero_or_pos y with e|e
 ·subst e
  unfold posF at h
  rw[Bool.and_eq_true,decide_eq_true_eq]at h
  have:(red 0 D).1=0:=by unfold red;rw[Nat.zero_div]
  rw[this,ofN_zero]at h
  exact absurd h.2 (by decide)
 ·exact e
theorem OneD.plain{l s:List Int}{W:List FR}{Y:List Nat}{D:Nat}(h:OneD W Y D)(hc:chkB l s W=true) :
  chkL l=true∧s=(toN s).map (fun (x:Nat)=>(x:Int))∧(∃m:Int,(m=1∨m=2)∧toN s=setsL l m)∧(∀x∈toN s,x<256)∧W.map prV=(qX Y).map (fun q=>(ofN q.1,ofN q.2))∧PX (toN s) Y (b0*1000000^6*1000000):=by
 have hcb:=chkB_of hc
 have hbig:Sm (b0*1000000^6*1000000*1000000):=smB8
 have hDs:Sm D:=hbig.le (Nat.le_trans h.le (Nat.le_mul_of_pos_right _ (by decide)))
 have hsum:lsum Y≤Y.length*D:=lsum_le h.small
 have hSs:Sm (lsum Y):=hbig.le (Nat.le_trans hsum (by
  rw[Nat.mul_comm]
  exact Nat.mul_le_mul h.le (by have:=h.few;omega)))
 unfold chkB at hc
 simp only[Bool.and_eq_true,decide_eq_true_eq]at hc
 obtain ⟨_,hlen,hS,hall,hone⟩:=hc
 have hcong:W.map prV=((Y.map fun y=>red y D).map qFR).map prV:=h.val.trans (by simp only[List.map_map];rfl)
 have hlW:W.length=Y.length:=by have:=congrArg List.length h.val;simpa using this
 have hYpos:∀y∈Y,0<y:=fun y hy=>by
  rw[all_cong posF W _ hcong,List.all_eq_true]at hall
  exact posF_red (hall (qFR (red y D)) (List.mem_map.2 ⟨red y D,List.mem_map.2 ⟨y,hy,rfl⟩,rfl⟩))
 have hYD:lsum Y=D:=by
  unfold oneS at hone
  rw[sumF_cong hcong,sumF_red h.pos hDs hSs,Bool.and_eq_true,decide_eq_true_eq]at hone
  have h1:=hone.2
  rw[decide_eq_true_eq]at h1
  have h2:=cmp_red (x:=lsum Y) (d:=D) (y:=1) (e:=1) h.pos (by decide) hSs hDs (sm1000 (by decide)) (sm1000 (by decide))
  rw[red_self (by decide)]at h2
  rw[h2,Nat.mul_one,Nat.one_mul]at h1
  unfold cmpN at h1
  (repeat' split at h1)<;>omega
 have hs:∃m:Int,(m=1∨m=2)∧toN s=setsL l m:=by
  unfold chkS at hS
  simp only[Bool.or_eq_true,decide_eq_true_eq]at hS
  rcases hS with h|h
  ·exact ⟨1,.inl rfl,by rw[←h,toN_hI]⟩
  ·exact ⟨2,.inr rfl,by rw[←h,toN_hI]⟩
 refine ⟨hcb.cl,hcb.cs,hs,hcb.cb,?_,?_,hYpos,by rw[hYD];exact h.pos,by rw[hYD];exact h.le⟩
 ·unfold qX
  rw[hYD];exact h.val
 ·have:(toN s).length=s.length:=by unfold toN;rw[List.length_map]
  omega
theorem OneD.set{W:List FR}{X:List Nat}{N i:Nat}{a:Nat×Nat}{v1 v2:Value}(hN:0<N)(hb:N≤b0*1000000^6)(hs:Sm (b0*1000000^6*1000000))(hX:∀x∈X,x≤N)(hl:X.length≤256)(hv:W.map prV=(X.map fun y=>red y N).map fun q=>(ofN q.1,ofN q.2))(ha:OkN a):OneD (W.set i ⟨v1,v2,ofN a.1,ofN a.2⟩) ((X.map (· * a.2)).set i (a.1*N)) (N*a.2):=by
 obtain ⟨a1,a2,a3,a4⟩:=ha.sm
 have a5:=ha.2.2.1
 have a6:=ha.2.1
 have hD:N*a.2≤b0*1000000^6*1000000:=Nat.mul_le_mul hb (by omega)
 have hDs:=hs.le hD
 refine ⟨Nat.mul_pos hN a2,hD,?_,fun y hy=>?_,by rw[List.length_set,List.length_map];omega⟩
 ·rw[List.map_set,List.map_set,List.map_set,hv]
  simp only[List.map_map]
  have e1:red (a.1*N) (N*a.2)=a:=by
   have h1:red (a.1*N) (N*a.2)=red a.1 a.2:=red_cross (Nat.mul_pos hN a2) a2 (hDs.le (by rw[Nat.mul_comm a.1];exact Nat.mul_le_mul_left _ (Nat.le_of_lt a6))) hDs a3 a4 (by grind)
   rw[h1,red_okn ha]
  rw[e1]
  congr 1
  refine List.map_congr_left fun x hx=>?_
  have e2:red (x*a.2) (N*a.2)=red x N:=red_cross (Nat.mul_pos hN a2) hN (hDs.le (Nat.mul_le_mul_right _ (hX x hx))) hDs (hs.le (Nat.le_trans (hX x hx) (Nat.le_trans hb (Nat.le_mul_of_pos_right _ (by decide))))) (hs.le (Nat.le_trans hb (Nat.le_mul_of_pos_right _ (by decide)))) (by grind)
  show (ofN (red x N).1,ofN (red x N).2)=(ofN (red (x*a.2) (N*a.2)).1,ofN (red (x*a.2) (N*a.2)).2)
  rw[e2]
 ·rcases List.mem_or_eq_of_mem_set hy with h1|h1
  ·obtain ⟨x,hx,rfl⟩:=List.mem_map.1 h1
   exact Nat.mul_le_mul_right _ (hX x hx)
  ·rw[h1,Nat.mul_comm a.1];exact Nat.mul_le_mul_left _ (Nat.le_of_lt a6)
theorem frC_dropG:∀(Q:List FR) (o:Nat),(Q.flatMap FR.c).drop (o*2)=(Q.drop o).flatMap FR.c
 | Q,0=>by simp
 | [],o+1=>by simp
 | x :: r,o+1=>by
  rw[List.drop_succ_cons,←frC_dropG r o,List.flatMap_cons,Nat.succ_mul,Nat.add_comm,←List.drop_drop]
  rfl
theorem okFL_set'{M:Mem}{L:List FR}{i:Nat}{x:FR}(h:okFL M L)(hx:IsF M x.u1 x.u2 x.l1 x.l2):okFL M (L.set i x):=fun y hy=>by
 rcases List.mem_or_eq_of_mem_set hy with h1|h1
 ·exact h y h1
 ·rw[h1];exact hx
theorem okFL_snoc{M:Mem}{L:List FR}{x:FR}(h:okFL M L)(hx:IsF M x.u1 x.u2 x.l1 x.l2):okFL M (L++[x]):=fun y hy=>by
 rcases List.mem_append.1 hy with h1|h1
 ·exact h y h1
 ·rw[List.mem_singleton.1 h1];exact hx
section
variable {M:Mem}{K:AV→Hp→Mem→Prop}
def ckSt(M:Mem)(u:Value)(p:Nat)(n m nw o:Nat)(R S:List Int)(W:List FR):St:={env:=[(6,.own 15 0),(5,.own 38 0),(4,.ext (.bool false))],hp:=[(51,27,frC W),(48,3,cE intV64 S),(57,3,cE intV64 R),(15,40,[.slo 57 0 n 1,.slo 48 o (m-o) 1,.slo 51 (o*2) (nw-o) 2]),(38,31,[.ext u,.ext (.int .i64 (p:Int))])],M:=M,kb:=9,fx:=[]}
def ckSt2(M:Mem)(u:Value)(p:Nat)(n m:Nat)(R S:List Int)(W:List FR)(k:Nat):St:={env:=[(9,.ext (.int .i64 (k:Int))),(6,.own 15 0),(5,.own 38 0),(4,.ext (.bool false))],hp:=[(51,27,frC W),(48,3,cE intV64 S),(57,3,cE intV64 R),(15,40,[.slo 57 0 n 1,.slo 48 0 m 1,.slo 51 0 m 2]),(38,31,[.ext u,.ext (.int .i64 (p:Int))])],M:=M,kb:=9,fx:=[]}
def cfSt(M:Mem)(a b c:Value)(good:Bool)(e:Int)(j:Nat):St:={env:=[(171,.ext (.int .i64 (j:Int))),(170,.ext (.int .i64 6)),(169,.slo 178 0 6 1),(11,.ext (.bool good)),(6,.own 15 0),(4,.ext (.bool false))],hp:=[(178,41,[.ext (.int .i64 e),.ext (.int .i64 e),.ext (.int .i64 e),.ext (.int .i64 e),.ext (.int .i64 e),.ext (.int .i64 e)]),(15,40,[.ext a,.ext b,.ext c])],M:=M,kb:=9,fx:=[]}
theorem pchecks_ok(u:Value)(t:List Int)(at_:Int)(hu:IsL M intV64 u t)(hK:∀M',Mem.le M M'→K (.ext (.bool true)) [] M'):CallS Tryz.prog 9 [.ext u,.ext (.int .i64 at_)] [] M [] K:=by
 refine inlS (cs:=[26]) Tryz.mixed Tryz.func9 rfl (by kernel_rfl) 9 rfl rfl ?_
 simp only[Tryz.f9]
 have o1:=hu.one
 (try with_reducible refine Fz.of ?_);have hf:=o1;refine sF ?_;(repeat' ((first|((with_reducible first|refine yA ?_|refine yC ?_);first|refine kH 19 ?_|refine kS 19 (lived38_ok u t 4 3 (by decide) (by decide) (by decide) (by decide) hu (fun l s q0 wr ws ww M1 p0 hp m1 hB hX=>Stop.mk ?_)))|refine oB ?_|fail)<;>refine sF ?_<;>try with_reducible exact tT))<;>try clear hf
 have m1:Mem.le M M1:=m1
 have c1:=hB.l.one
 have c2:=hB.s.one
 have c3:=hB.q.one
 have hlen:=hX.len
 have hcl:=hX.cl
 have hst:=hX.st
 obtain ⟨X,rfl,hP⟩:=hX.px
 have hl8:=chk_len hcl
 obtain ⟨L,g3,g4,g5⟩:=hB.q
 have hLl:L.length=s.length:=by have:=congrArg List.length g5;rw[List.length_map,List.length_map,qX_len,hP.len]at this;exact this
 have n1:=hB.l.len
 have s1:=hB.l.sl
 have n2:=hB.s.len
 have s2:=hB.s.sl
 have n3:=g3.len
 have s3:=g3.sl
 rw[hLl]at n3
 have rw1:=hB.l.row
 have rw2:=hB.s.row
 have rw3:=g3.row
 obtain ⟨S,hS⟩:∃S:List Int,S=s.map fun (x:Nat)=>(x:Int):=⟨_,rfl⟩
 have hSl:S.length=s.length:=by rw[hS,List.length_map]
 have e1:(l.map intV64).map AV.ext=cE intV64 l:=rfl
 have e2:(s.map natV).map AV.ext=cE intV64 S:=by rw[hS];unfold cE;rw[List.map_map,List.map_map,List.map_map];rfl
 have e3:(L.flatMap FR.c).map AV.ext=frC L:=rfl
 have al1:allOne (cE intV64 l)=True:=eq_true (allOne_cE intV64 (fun _=>rfl) l)
 have al2:allOne (cE intV64 S)=True:=eq_true (allOne_cE intV64 (fun _=>rfl) S)
 have al3:=frC_one g4
 refine Stop.go ?_
 (try with_reducible refine Fz.of ?_);have hf:=A12 e1 e2 e3 al1 al2 al3 o1 c1 c2 c3 n1 (A12 s1 n2 s2 n3 s3 rw1 rw2 rw3 @frC_ment @frC_kill @cE_ment (A2 @cE_kill @hasK_nil));refine sF ?_;(repeat' ((first|((with_reducible refine yN ?_);refine kS 12 (fold_ok _ _ ?_))|((with_reducible refine isE 37 (by decide) ?_);refine dR ((0,[]) :: (1,[]) :: (3,[1]) :: (4,[1]) :: (2,[3,4]) :: (6,[]) :: (5,[6]) :: (rP 7 3 [] [])) (rgL 37 7 []) [] ?_)|refine oB ?_|fail)<;>refine sF ?_<;>try with_reducible exact tT))<;>try clear hf
 have hsl:0<s.length:=by
  rw[←hP.len]
  rcases X with _|⟨x,r⟩
  ·exact absurd hP.sum (by decide)
  ·exact Nat.succ_pos _
 obtain ⟨f1,f2⟩:=foldI_bd1 at_ (s.length:Int) (by omega) (by omega)
 have hu1:=hu.le m1
 have hsm:=smB7
 have hX2:∀x∈X,x≤lsum X:=fun x hx=>lsum_mem hx
 have hXl:X.length=s.length:=hP.len
 have g5':L.map prV=(X.map fun y=>red y (lsum X)).map fun q=>(ofN q.1,ofN q.2):=g5
 have hone:OneD L X (lsum X):=⟨hP.sum,Nat.le_trans hP.le (Nat.le_mul_of_pos_right _ (by decide)),g5',hX2,by omega⟩
 refine ⟨fun z=>∃M' p Rv Sv Wv o,p≤300∧Mem.le M1 M'∧okFL M' Wv∧Rv.length=l.length∧Sv.length=s.length∧o≤1∧s.length≤Wv.length∧Wv.length≤s.length+1∧(chkB Rv (Sv.drop o) (Wv.drop o)=true→∃Y D,OneD (Wv.drop o) Y D)∧z=ckSt M' u p l.length s.length Wv.length o Rv Sv Wv,?_,?_⟩
 ·obtain ⟨ii,hii⟩:=Int.eq_ofNat_of_zero_le f1
  rw[hii]at f2
  have hfold:foldI at_ (s.length:Int)=(ii:Int):=hii
  have z1:(0:Int)≤(ii:Int):=by omega
  have z2:(ii:Int)<(s.length:Int):=by omega
  have e4:=cE_len intV64 l
  have e5:=cE_len intV64 S
  rw[hSl]at e5
  have e6:=frC_len L
  rw[hLl]at e6
  have hio:ii+1≤s.length:=by omega
  have hin:ii*2+2≤s.length*2:=by omega
  (try with_reducible refine Fz.of ?_);have hf:=A12 hfold z1 z2 e4 e5 e6 hio hin o1 c1 c2 (A7 c3 @frC_ment @frC_kill @cE_ment @cE_kill @hasK_nil @Nat.mul_one);refine sF ?_;(repeat' ((first|((with_reducible refine yN ?_);refine kS 12 (fold_ok _ _ (Stop.mk ?_)))|refine oB ?_|fail)<;>refine sF ?_<;>try with_reducible exact tT))<;>try clear hf
  generalize foldI _ 8=v
  by_cases v0:v=0
  ·have d0:decide (v=0)=true:=decide_eq_true v0
   refine Stop.go ?_
   (try with_reducible refine Fz.of ?_);have hf:=A12 d0 z1 z2 e4 e5 e6 hio hin o1 c1 c2 (A7 c3 @frC_ment @frC_kill @cE_ment @cE_kill @hasK_nil @Nat.mul_one);refine sF ?_;(repeat' ((first|((with_reducible first|refine yB ?_|refine yC ?_);first|refine kG 40 ?_|refine kS 40 (inner38_ok u t p0 hu1 (by omega) (fun a w1 w2 M2 m2 k1 k2=>Stop.mk ?_)))|((with_reducible refine isE 61 (by decide) ?_);refine dR ((0,[]) :: (1,[]) :: (rP 2 3 [1] [(5,[]),(6,[])])) (rgL 61 5 []) [] ?_)|refine oB ?_|fail)<;>refine sF ?_<;>try with_reducible exact tT))<;>try clear hf
   have m2:Mem.le M1 M2:=m2
   have q1:=k1.n.one
   have q2:=k1.d.one
   have hst:=frC_setF (L:=L) (i:=ii) (by omega) ⟨w1,w2,ofN a.1,ofN a.2⟩
   refine Stop.go ?_
   (try with_reducible refine Fz.of ?_);have hf:=A12 d0 hst q1 q2 z1 z2 e4 e5 e6 hio hin (A11 o1 c1 c2 c3 @frC_ment @frC_kill @cE_ment @cE_kill @hasK_nil @Nat.mul_one @Nat.zero_add);refine sF ?_;(repeat' ((first|refine oB ?_|fail)<;>refine sF ?_<;>try with_reducible exact tT))<;>try clear hf
   exact ⟨ckSt M2 u (p0+2) l.length s.length (L.set ii ⟨w1,w2,ofN a.1,ofN a.2⟩).length 0 l S (L.set ii ⟨w1,w2,ofN a.1,ofN a.2⟩),le_sub ⟨rfl,rfl,rfl,trivial⟩ ⟨rfl,rfl,rfl,by rw[List.length_set,hLl];rfl,rfl,trivial⟩ rfl rfl rfl (keepLt_of rfl),M2,p0+2,l,S,_,0,by omega,m2,okFL_set' (g4.le m2) k1,rfl,hSl,by omega,by rw[List.length_set];omega,by rw[List.length_set];omega,fun _=>⟨_,_,OneD.set hP.sum hP.le hsm hX2 (by omega) g5' k2⟩,rfl⟩
  have d0:decide (v=0)=false:=decide_eq_false v0
  by_cases v1:v=1
  ·have d1:decide (v=1)=true:=decide_eq_true v1
   have hst:(frC L).take (ii*2)++(.ext (.slice none 0 0) :: .ext (.slice none 0 0) :: (frC L).drop (ii*2+2))=frC (L.set ii zFR):=frC_setF (L:=L) (i:=ii) (by omega) zFR
   refine Stop.go ?_
   (try with_reducible refine Fz.of ?_);have hf:=A12 d0 d1 hst z1 z2 e4 e5 e6 hio hin o1 (A10 c1 c2 c3 @frC_ment @frC_kill @cE_ment @cE_kill @hasK_nil @Nat.mul_one @Nat.zero_add);refine sF ?_;(repeat' ((first|refine oB ?_|fail)<;>refine sF ?_<;>try with_reducible exact tT))<;>try clear hf
   refine ⟨ckSt M1 u p0 l.length s.length (L.set ii zFR).length 0 l S (L.set ii zFR),le_sub ⟨rfl,rfl,rfl,trivial⟩ ⟨rfl,rfl,rfl,by rw[List.length_set,hLl];rfl,rfl,trivial⟩ rfl rfl rfl (keepLt_of rfl),M1,p0,l,S,_,0,by omega,Mem.le.refl _,okFL_set' g4 (by have:=isF_zero M1;rwa[ofN_zero]at this),rfl,hSl,by omega,by rw[List.length_set];omega,by rw[List.length_set];omega,fun hc=>?_,rfl⟩
   exfalso
   unfold chkB at hc
   simp only[Bool.and_eq_true]at hc
   have h1:=List.all_eq_true.1 hc.2.2.2.1 zFR (by
    rw[List.drop_zero]
    exact List.mem_iff_getElem.2 ⟨ii,by rw[List.length_set];omega,by rw[List.getElem_set_self]⟩)
   exact absurd h1 (by decide)
  have d1:decide (v=1)=false:=decide_eq_false v1
  by_cases v2:v=2
  ·have d2:decide (v=2)=true:=decide_eq_true v2
   refine Stop.go ?_
   (try with_reducible refine Fz.of ?_);have hf:=A12 d0 d1 d2 z1 z2 e4 e5 e6 hio hin o1 (A9 c1 c2 c3 @frC_ment @frC_kill @cE_ment @cE_kill @hasK_nil @Nat.mul_one);refine sF ?_;(repeat' ((first|((with_reducible first|refine yB ?_|refine yC ?_);first|refine kG 14 ?_|refine kS 14 (nextI_ok 38 u t p0 20 hu1 (by omega) (by omega) (by omega) (fun x hx0 hx1=>Stop.mk ?_)))|((with_reducible refine isE 76 (by decide) ?_);refine dR ((0,[]) :: (1,[]) :: (rP 2 3 [1] [(5,[]),(6,[])])) (rgL 76 5 []) [] ?_)|refine oB ?_|fail)<;>refine sF ?_<;>try with_reducible exact tT))<;>try clear hf
   have hset:(cE intV64 S).set ii (.ext (.int .i64 x))=cE intV64 (S.set ii x):=cE_set intV64 S ii x
   refine Stop.go ?_
   (try with_reducible refine Fz.of ?_);have hf:=A12 d0 d1 d2 hset z1 z2 e4 e5 e6 hio hin (A10 o1 c1 c2 c3 @frC_ment @frC_kill @cE_ment @cE_kill @hasK_nil @Nat.mul_one);refine sF ?_;(repeat' ((first|refine oB ?_|fail)<;>refine sF ?_<;>try with_reducible exact tT))<;>try clear hf
   exact ⟨ckSt M1 u (p0+1) l.length s.length L.length 0 l (S.set ii x) L,le_sub ⟨rfl,rfl,rfl,trivial⟩ ⟨rfl,rfl,rfl,by rw[hLl];rfl,rfl,trivial⟩ rfl rfl rfl (keepLt_of rfl),M1,p0+1,l,S.set ii x,L,0,by omega,Mem.le.refl _,g4,rfl,by rw[List.length_set,hSl],by omega,by omega,by omega,fun _=>⟨X,_,hone⟩,rfl⟩
  have d2:decide (v=2)=false:=decide_eq_false v2
  by_cases v3:v=3
  ·have d3:decide (v=3)=true:=decide_eq_true v3
   have h1s:1≤s.length:=by omega
   refine Stop.go ?_
   (try with_reducible refine Fz.of ?_);have hf:=A12 d0 d1 d2 d3 h1s z1 z2 e4 e5 e6 hio (A11 hin o1 c1 c2 c3 @frC_ment @frC_kill @cE_ment @cE_kill @hasK_nil @Nat.mul_one);refine sF ?_;(repeat' ((first|((with_reducible refine isE 84 (by decide) ?_);refine dR (rP 0 3 [] (rP 3 3 [1,2] [(6,[5]),(7,[5]),(8,[]),(9,[])])) (rgL 84 7 []) [] ?_)|refine oB ?_|fail)<;>refine sF ?_<;>try with_reducible exact tT))<;>try clear hf
   exact ⟨ckSt M1 u p0 l.length s.length L.length 1 l S L,le_sub ⟨rfl,rfl,rfl,trivial⟩ ⟨rfl,rfl,rfl,by rw[hLl];rfl,rfl,trivial⟩ rfl rfl rfl (keepLt_of rfl),M1,p0,l,S,L,1,by omega,Mem.le.refl _,g4,rfl,hSl,by omega,by omega,by omega,fun _=>⟨X.drop 1,lsum X,hP.sum,hone.le,by rw[List.map_drop,g5',List.map_drop,List.map_drop],fun y hy=>hX2 y (List.mem_of_mem_drop hy),by rw[List.length_drop];omega⟩,rfl⟩
  have d3:decide (v=3)=false:=decide_eq_false v3
  by_cases v4:v=4
  ·have d4:decide (v=4)=true:=decide_eq_true v4
   have h1l:1≤l.length:=hl8.1
   have h0l:(0:Int)<(l.length:Int):=by omega
   refine Stop.go ?_
   (try with_reducible refine Fz.of ?_);have hf:=A12 d0 d1 d2 d3 d4 h1l h0l z1 z2 e4 e5 (A12 e6 hio hin o1 c1 c2 c3 @frC_ment @frC_kill @cE_ment @cE_kill (A2 @hasK_nil @Nat.mul_one));refine sF ?_;(repeat' ((first|((with_reducible first|refine yB ?_|refine yC ?_);first|refine kG 14 ?_|refine kS 14 (nextI_ok 38 u t p0 2 hu1 (by omega) (by omega) (by omega) (fun x hx0 hx1=>Stop.mk ?_)))|((with_reducible refine isE 94 (by decide) ?_);refine dR (rP 0 3 [] (rP 3 3 [2] [(6,[]),(7,[])])) (rgL 94 6 []) [] ?_)|refine oB ?_|fail)<;>refine sF ?_<;>try with_reducible exact tT))<;>try clear hf
   have hw:IntKind.i64.wrap (x-1)=x-1:=wrap_id (by omega) (by omega)
   have hset:(cE intV64 l).set 0 (.ext (.int .i64 (x-1)))=cE intV64 (l.set 0 (x-1)):=cE_set intV64 l 0 (x-1)
   refine Stop.go ?_
   (try with_reducible refine Fz.of ?_);have hf:=A12 d0 d1 d2 d3 d4 hset hw h1l h0l z1 z2 (A12 e4 e5 e6 hio hin o1 c1 c2 c3 @frC_ment @frC_kill (A4 @cE_ment @cE_kill @hasK_nil @Nat.mul_one));refine sF ?_;(repeat' ((first|refine oB ?_|fail)<;>refine sF ?_<;>try with_reducible exact tT))<;>try clear hf
   exact ⟨ckSt M1 u (p0+1) l.length s.length L.length 0 (l.set 0 (x-1)) S L,le_sub ⟨rfl,rfl,rfl,trivial⟩ ⟨rfl,rfl,rfl,by rw[hLl];rfl,rfl,trivial⟩ rfl rfl rfl (keepLt_of rfl),M1,p0+1,_,S,L,0,by omega,Mem.le.refl _,g4,List.length_set,hSl,by omega,by omega,by omega,fun _=>⟨X,_,hone⟩,rfl⟩
  have d4:decide (v=4)=false:=decide_eq_false v4
  by_cases v5:v=5
  ·have d5:decide (v=5)=true:=decide_eq_true v5
   refine Stop.go ?_
   (try with_reducible refine Fz.of ?_);have hf:=A12 d0 d1 d2 d3 d4 d5 z1 z2 e4 e5 e6 (A12 hio hin o1 c1 c2 c3 @frC_ment @frC_kill @cE_ment @cE_kill @hasK_nil @Nat.mul_one);refine sF ?_;(repeat' ((first|((with_reducible refine yM ?_);refine kS 13 (sml_ok 0 1 (by decide) (by decide) (by decide) (fun w1 w2 M2 m2 k1 k2 _ _=>Stop.mk ?_)))|((with_reducible refine isE 103 (by decide) ?_);refine dR ((0,[]) :: (1,[]) :: (2,[1]) :: (3,[1]) :: (rP 4 3 [] [])) (rgL 103 4 []) [] ?_)|refine oB ?_|fail)<;>refine sF ?_<;>try with_reducible exact tT))<;>try clear hf
   have m2:Mem.le M1 M2:=m2
   have kF:IsF M2 w1 w2 (ofN 0) (ofN 1):=isF_ofN k1 k2 ⟨ofN0_len,ofN1_len⟩
   have q1:=kF.n.one
   have q2:=kF.d.one
   have ap:=frC_app L ⟨w1,w2,ofN 0,ofN 1⟩
   simp only at ap
   refine Stop.go ?_
   (try with_reducible refine Fz.of ?_);have hf:=A12 d0 d1 d2 d3 d4 d5 ap q1 q2 z1 z2 (A12 e4 e5 e6 hio hin o1 c1 c2 c3 @frC_ment @frC_kill (A4 @cE_ment @cE_kill @hasK_nil @Nat.mul_one));refine sF ?_;(repeat' ((first|refine oB ?_|fail)<;>refine sF ?_<;>try with_reducible exact tT))<;>try clear hf
   exact ⟨ckSt M2 u p0 l.length s.length (L++[(⟨w1,w2,ofN 0,ofN 1⟩:FR)]).length 0 l S (L++[(⟨w1,w2,ofN 0,ofN 1⟩:FR)]),le_sub ⟨rfl,rfl,rfl,trivial⟩ ⟨rfl,rfl,rfl,by rw[List.length_append,hLl];rfl,rfl,trivial⟩ rfl rfl rfl (keepLt_of rfl),M2,p0,l,S,L++[(⟨w1,w2,ofN 0,ofN 1⟩:FR)],0,by omega,m2,okFL_snoc (x:=⟨w1,w2,ofN 0,ofN 1⟩) (g4.le m2) kF,rfl,hSl,by omega,by rw[List.length_append];omega,by rw[List.length_append,hLl];simp,fun _=>⟨X++[0],lsum X,hP.sum,hone.le,by rw[List.drop_zero,List.map_append,List.map_append,List.map_append,g5',List.map_cons,List.map_cons,List.map_cons,red_zero hP.sum];rfl,fun y hy=>by
    rcases List.mem_append.1 hy with h|h
    ·exact hX2 y h
    ·rw[List.mem_singleton.1 h];exact Nat.zero_le _,by rw[List.length_append];simp;omega⟩,rfl⟩
  have d5:decide (v=5)=false:=decide_eq_false v5
  by_cases v6:v=6
  ·have d6:decide (v=6)=true:=decide_eq_true v6
   refine Stop.go ?_
   (try with_reducible refine Fz.of ?_);have hf:=A12 d0 d1 d2 d3 d4 d5 d6 z1 z2 e4 e5 (A12 e6 hio hin o1 c1 c2 c3 @frC_ment @frC_kill @cE_ment @cE_kill (A2 @hasK_nil @Nat.mul_one));refine sF ?_;(repeat' ((first|refine oB ?_|fail)<;>refine sF ?_<;>try with_reducible exact tT))<;>try clear hf
   refine ⟨fun m z=>∃M' A k,m=s.length-k∧k≤s.length∧Mem.le M1 M'∧okFL M' A∧A.length=k∧A.map prV=List.replicate k (ofN 1,ofN s.length)∧z=ckSt2 M' u p0 l.length s.length l S (A++L.drop k) k,
    ⟨s.length,ckSt2 M1 u p0 l.length s.length l S ([]++L.drop 0) 0,le_sub ⟨rfl,rfl,rfl,rfl,trivial⟩ ⟨rfl,rfl,rfl,rfl,rfl,trivial⟩ rfl rfl rfl (keepLt_of rfl),⟨M1,[],0,by omega,by omega,Mem.le.refl _,(fun x hx=>by cases hx),rfl,rfl,rfl⟩⟩,?_⟩
   rintro m z ⟨M2,A,k,rfl,hk,m2,hA,hAl,hAv,rfl⟩
   have hwl:(A++L.drop k).length=s.length:=by rw[List.length_append,List.length_drop,hAl];omega
   have e7:=frC_len (A++L.drop k)
   rw[hwl]at e7
   by_cases hlt:k<s.length
   ·have y0:decide ((k:Int)<(s.length:Int))=true:=by rw[decide_eq_true_eq];omega
    have y1:(0:Int)≤(k:Int):=by omega
    have y2:(k:Int)<(s.length:Int):=by omega
    have wk:IntKind.i64.wrap ((k:Int)+1)=((k+1:Nat):Int):=succ_i (by omega)
    have hko:k*2+2≤s.length*2:=by omega
    (try with_reducible refine Fz.of ?_);have hf:=A12 @ckSt2.eq_1 y0 y1 y2 e7 o1 @frC_ment @frC_kill @cE_ment @cE_kill @hasK_nil @Nat.mul_one;refine sF ?_;(repeat' ((first|((with_reducible refine yM ?_);refine kS 13 (sml_ok 1 s.length (by decide) (by omega) (by omega) (fun w1 w2 M3 m3 k1 k2 _ _=>Stop.mk ?_)))|((with_reducible refine isE 118 (by decide) ?_);refine dR ((0,[]) :: (1,[]) :: (rP 2 5 [1] [(7,[]),(8,[])])) (rgL 118 7 []) [] ?_)|refine oB ?_|fail)<;>refine sF ?_<;>try with_reducible exact tT))<;>try clear hf
    have m3:Mem.le M2 M3:=m3
    rw[Nat.gcd_one_left,Nat.div_one]at k1 k2
    have kF:IsF M3 w1 w2 (ofN 1) (ofN s.length):=isF_ofN k1 k2 ⟨ofN1_len,(sm1000 (by omega)).len⟩
    have q1:=kF.n.one
    have q2:=kF.d.one
    have hst:=frC_setF (L:=A++L.drop k) (i:=k) (by omega) ⟨w1,w2,ofN 1,ofN s.length⟩
    have hse:(A++L.drop k).set k ⟨w1,w2,ofN 1,ofN s.length⟩=(A++[⟨w1,w2,ofN 1,ofN s.length⟩])++L.drop (k+1):=by
     rw[List.set_append_right _ _ (by omega),hAl,Nat.sub_self,List.drop_eq_getElem_cons (by omega),List.set_cons_zero];simp
    rw[hse]at hst
    refine Stop.go ?_
    (try with_reducible refine Fz.of ?_);have hf:=A12 y0 y1 y2 wk hko e7 hst q1 q2 o1 @frC_ment (A6 @frC_kill @cE_ment @cE_kill @hasK_nil @Nat.mul_one @Nat.zero_add);refine sF ?_;(repeat' ((first|refine oB ?_|fail)<;>refine sF ?_<;>try with_reducible exact tT))<;>try clear hf
    exact ⟨s.length-(k+1),ckSt2 M3 u p0 l.length s.length l S ((A++[⟨w1,w2,ofN 1,ofN s.length⟩])++L.drop (k+1)) (k+1),by omega,le_sub ⟨rfl,rfl,rfl,rfl,trivial⟩ ⟨rfl,rfl,rfl,rfl,rfl,trivial⟩ rfl rfl rfl (keepLt_of rfl),M3,_,k+1,rfl,by omega,m2.trans m3,okFL_snoc (x:=⟨w1,w2,ofN 1,ofN s.length⟩) (hA.le m3) kF,by rw[List.length_append,hAl];rfl,by rw[List.map_append,hAv,List.replicate_succ'];rfl,rfl⟩
   obtain rfl:k=s.length:=by omega
   have y0:decide ((s.length:Int)<(s.length:Int))=false:=by simp
   rw[List.drop_of_length_le (by omega),List.append_nil]at e7 hwl
   (try with_reducible refine Fz.of ?_);have hf:=A9 @ckSt2.eq_1 y0 e7 o1 @frC_ment @frC_kill @cE_ment @cE_kill @hasK_nil;refine sF ?_;(repeat' ((first|refine oB ?_|fail)<;>refine sF ?_<;>try with_reducible exact tT))<;>try clear hf
   have hdl:A++L.drop s.length=A:=by rw[List.drop_of_length_le (by omega),List.append_nil]
   exact ⟨ckSt M2 u p0 l.length s.length A.length 0 l S A,le_sub ⟨rfl,rfl,rfl,trivial⟩ ⟨by rw[hdl];rfl,rfl,rfl,by rw[hwl];rfl,rfl,trivial⟩ rfl rfl rfl (keepLt_of rfl),M2,p0,l,S,A,0,by omega,m2,hA,rfl,hSl,by omega,by omega,by omega,fun _=>⟨List.replicate s.length 1,s.length,hsl,Nat.le_trans hlen.2.1 (by decide),by
    rw[List.drop_zero,hAv,List.map_replicate,List.map_replicate]
    congr 1
    unfold red
    rw[Nat.gcd_one_left,Nat.div_one,Nat.div_one],fun y hy=>by rw[(List.mem_replicate.1 hy).2];omega,by rw[List.length_replicate];omega⟩,rfl⟩
  have d6:decide (v=6)=false:=decide_eq_false v6
  refine Stop.go ?_
  (try with_reducible refine Fz.of ?_);have hf:=A12 d0 d1 d2 d3 d4 d5 d6 z1 z2 e4 e5 (A12 e6 hio hin o1 c1 c2 c3 @frC_ment @frC_kill @cE_ment @cE_kill (A2 @hasK_nil @Nat.mul_one));refine sF ?_;(repeat' ((first|refine oB ?_|fail)<;>refine sF ?_<;>try with_reducible exact tT))<;>try clear hf
  exact ⟨ckSt M1 u p0 l.length s.length L.length 0 l S L,le_sub ⟨rfl,rfl,rfl,trivial⟩ ⟨rfl,rfl,rfl,by rw[hLl];rfl,rfl,trivial⟩ rfl rfl rfl (keepLt_of rfl),M1,p0,l,S,L,0,by omega,Mem.le.refl _,g4,rfl,hSl,by omega,by omega,by omega,fun _=>⟨X,_,hone⟩,rfl⟩
 clear hone hX2 g5' al1 al2 al3 rw1 rw2 rw3 e1 e2 e3 n1 n2 n3 s1 s2 s3 c1 c2 c3 f1 f2
 rintro z ⟨M2,p,R,S',W',o,hp',m2,hWo,hRl,hSl',ho,hW1,hW2,hgood,rfl⟩
 have fx9:∀(hp0:Hp),hp0=[(51,27,frC W'),(48,3,cE intV64 S'),(57,3,cE intV64 R),(15,40,[.slo 57 0 l.length 1,.slo 48 o (s.length-o) 1,.slo 51 (o*2) (W'.length-o) 2]),(38,31,[.ext u,.ext (.int .i64 (p:Int))])]→∀j,j<9→(lkH hp0 j).isSome=true→j∈([]:List Nat):=fun hp0 e j hj hj2=>by
  exfalso
  subst e
  simp only[lkH]at hj2
  rw[if_neg (by omega),if_neg (by omega),if_neg (by omega),if_neg (by omega),if_neg (by omega)]at hj2
  cases hj2
 refine Fz.bind (Fz.cellI (k:=57) (j:=15) (p0:=0) (n:=l.length) (q:=1) (off:=0) (T:=3) (T0:=40) (R.map intV64) [(6,.own 15 0),(5,.own 38 0),(4,.ext (.bool false))] [(51,27,frC W'),(48,3,cE intV64 S'),(38,31,[.ext u,.ext (.int .i64 (p:Int))])] rfl rfl rfl (by rw[List.length_map,hRl];omega) (show 9≤57 by decide) (by decide) ⟨rfl,rfl,rfl,trivial⟩ (by simp[mentE,AV.ment]) ⟨rfl,rfl,rfl,trivial⟩ (by simp[mentH,mentL,AV.ment,frC_ment,cE_ment]) (keepLt_of rfl) (fun j hj hj2=>fx9 _ rfl j hj hj2) (fun M3 a m3 ha _=>?_))
 have m3:Mem.le M2 M3:=m3
 refine Fz.bind (Fz.cellI (k:=48) (j:=15) (p0:=1) (n:=s.length-o) (q:=1) (off:=o) (T:=3) (T0:=40) (S'.map intV64) [(6,.own 15 0),(5,.own 38 0),(4,.ext (.bool false))] [(51,27,frC W'),(38,31,[.ext u,.ext (.int .i64 (p:Int))])] rfl rfl rfl (by rw[List.length_map,hSl'];omega) (show 9≤48 by decide) (by decide) ⟨rfl,rfl,rfl,trivial⟩ (by simp[mentE,AV.ment]) ⟨rfl,rfl,trivial⟩ (by simp[mentH,mentL,AV.ment,frC_ment,cE_ment]) (keepLt_of rfl) (fun j hj hj2=>?_) (fun M4 b m4 hb _=>?_))
 ·exfalso
  have hj:j<9:=hj
  simp only[lkH]at hj2
  rw[if_neg (by omega),if_neg (by omega),if_neg (by omega),if_neg (by omega)]at hj2
  cases hj2
 have m4:Mem.le M3 M4:=m4
 refine Fz.cellI (k:=51) (j:=15) (p0:=2) (n:=W'.length-o) (q:=2) (off:=o*2) (T:=27) (T0:=40) (W'.flatMap FR.c) [(6,.own 15 0),(5,.own 38 0),(4,.ext (.bool false))] [(38,31,[.ext u,.ext (.int .i64 (p:Int))])] rfl rfl rfl (by rw[flat_len (z:=2) (f:=FR.c) (fun _=>rfl)];omega) (show 9≤51 by decide) (by decide) ⟨rfl,rfl,rfl,trivial⟩ (by simp[mentE,AV.ment]) ⟨rfl,trivial⟩ (by simp[mentH,mentL,AV.ment]) (keepLt_of rfl) (fun j hj hj2=>?_) (fun M5 c m5 hcc _=>?_)
 ·exfalso
  have hj:j<9:=hj
  simp only[lkH]at hj2
  rw[if_neg (by omega),if_neg (by omega),if_neg (by omega)]at hj2
  cases hj2
 have m5:Mem.le M4 M5:=m5
 have hM5:Mem.le M M5:=m1.trans (m2.trans (m3.trans (m4.trans m5)))
 have h1:IsL M5 intV64 a R:=by
  have:IsL M3 intV64 a R:=by
   unfold IsL;rw[hRl]
   rw[List.drop_zero,List.take_of_length_le (by rw[List.length_map,hRl];omega)]at ha
   exact ha
  exact (this.le m4).le m5
 have h2:IsL M5 intV64 b (S'.drop o):=by
  have:IsL M4 intV64 b (S'.drop o):=by
   unfold IsL;rw[List.length_drop,hSl']
   rw[←List.map_drop,List.take_of_length_le (by rw[List.length_map,List.length_drop,hSl'];omega)]at hb
   exact hb
  exact this.le m5
 have h3:IsR M5 2 FR.c c (W'.drop o):=by
  unfold IsR
  rw[List.length_drop]
  rw[frC_dropG,List.take_of_length_le (by rw[flat_len (z:=2) (f:=FR.c) (fun _=>rfl),List.length_drop];omega)]at hcc
  exact hcc
 have h4:okFL M5 (W'.drop o):=fun x hx=>(((hWo x (List.mem_of_mem_drop hx)).le m3).le m4).le m5
 have b1:R.length<1000000:=by omega
 have b2:(S'.drop o).length<1000000:=by rw[List.length_drop];omega
 have b3:(W'.drop o).length<1000000:=by rw[List.length_drop];omega
 have hwl:(W'.drop o).length≤257:=by rw[List.length_drop];omega
 generalize S'.drop o=S2 at *
 generalize W'.drop o=W2 at *
 have c4:=h1.one
 have c5:=h2.one
 have c6:=h3.one
 have hu5:=hu.le hM5
 (try with_reducible refine Fz.of ?_);have hf:=A5 @ckSt.eq_1 c4 c5 c6 o1;refine sF ?_;(repeat' ((first|((with_reducible first|refine yA ?_|refine yC ?_);first|refine kH 20 ?_|refine kS 20 (model38_ok u t p hu5 (by omega) (fun f g y1 y2 x1 x2 p2 M6 m6 k1 k2 k3 k4 k5 k6=>Stop.mk ?_)))|refine oB ?_|fail)<;>refine sF ?_<;>try with_reducible exact tT))<;>try clear hf
 have m6:Mem.le M5 M6:=m6
 have e1:=k1.n.one
 have e2:=k1.d.one
 have e3:=k2.n.one
 have e4:=k2.d.one
 refine Stop.go ?_
 (try with_reducible refine Fz.of ?_);have hf:=A8 c4 c5 c6 e1 e2 e3 e4 o1;refine sF ?_;(repeat' ((first|((with_reducible refine yN ?_);refine kS 41 (rcheck35_ok (h1.le m6) (h2.le m6) (h3.le m6) (h4.le m6) b1 b2 b3 (fun M7 m7=>Stop.mk ?_)))|refine oB ?_|fail)<;>refine sF ?_<;>try with_reducible exact tT))<;>try clear hf
 have m7:Mem.le M6 M7:=m7
 have m57:=m6.trans m7
 have k1:=k1.le m7
 have k2:=k2.le m7
 cases hc:chkB R S2 W2 with
 | true=>
  obtain ⟨Y,D,hOD⟩:=hgood hc
  obtain ⟨hcl2,hcs2,hm2,hs256,hval,hPX⟩:=hOD.plain hc
  have gB:IsB M5 a b c R (toN S2) (qX Y):=⟨h1,by
   have:=h2
   rw[hcs2]at this
   exact this.toNat,W2,h3,h4,hval⟩
  have hl2:=chk_len hcl2
  have hset0:setB R 0=true:=setB_of (Int.le_refl 0) (by have:=Nat.one_le_two_pow (n:=R.length);omega)
  have hts:(toN S2).length=S2.length:=by unfold toN;rw[List.length_map]
  have hYN:=hPX.sum
  have hYs:Sm (lsum Y):=smB8.le (Nat.le_trans hPX.le (Nat.le_mul_of_pos_right _ (by decide)))
  have hr0:riskE R S2 W2 0=(0,red (totX Y (toN S2) (badC (effN R 0))) (lsum Y)):=by
   unfold riskE riskF
   rw[hc,if_pos rfl,if_pos hset0]
   exact totF_red hYN hYs hYs _ hval
  have hg0:guiltF R S2 W2 0=(0,red (totX Y (toN S2) (hasC 0)) (lsum Y)):=by
   unfold guiltF
   rw[hc,if_pos rfl,if_pos (by omega)]
   exact totF_red hYN hYs hYs _ hval
  have hsl2:0<S2.length:=by
   rw[←hts,←hPX.len]
   rcases Y with _|⟨x,r⟩
   ·exact absurd hYN (by decide)
   ·exact Nat.succ_pos _
  have hcb:=chkB_of hc
  refine Stop.go ?_
  (try with_reducible refine Fz.of ?_);have hf:=A9 c4 c5 c6 e1 e2 e3 e4 o1 hr0;refine sF ?_;(repeat' ((first|((with_reducible refine yN ?_);refine kS 31 (pRisk_ok 0 (h1.le m57) (h2.le m57) (h3.le m57) (h4.le m57) b1 b2 b3 (fun v1 v2 M8 m8 q1=>Stop.mk ?_)))|refine oB ?_|fail)<;>refine sF ?_<;>try with_reducible exact tT))<;>try clear hf
  have m8:Mem.le M7 M8:=m8
  have j1:=q1.n.one
  have j2:=q1.d.one
  have n8:=m57.trans m8
  refine Stop.go ?_
  (try with_reducible refine Fz.of ?_);have hf:=A11 c4 c5 c6 e1 e2 e3 e4 o1 hr0 j1 j2;refine sF ?_;(repeat' ((first|((with_reducible refine yN ?_);refine kS 27 (failX_ok 0 (gB.le n8) hPX hcl2 hm2 b1 (by omega) k3 k4 k5 smB8 hset0 (k1.le m8) (k2.le m8) (fun v3 v4 M9 m9 q2=>Stop.mk ?_)))|refine oB ?_|fail)<;>refine sF ?_<;>try with_reducible exact tT))<;>try clear hf
  have m9:Mem.le M8 M9:=m9
  have j3:=q2.n.one
  have j4:=q2.d.one
  have n9:=n8.trans m9
  refine Stop.go ?_
  (try with_reducible refine Fz.of ?_);have hf:=A12 c4 c5 c6 e1 e2 e3 e4 o1 hr0 j1 j2 (A2 j3 j4);refine sF ?_;(repeat' ((first|((with_reducible refine yN ?_);refine kS 21 (updX_ok 0 true (gB.le n9) hPX hcl2 hm2 b1 (by omega) k3 k4 k5 smB8 hset0 ((k1.le m8).le m9) ((k2.le m8).le m9) (fun ar as_ aw M10 m10 q3=>Stop.mk ?_)))|refine oB ?_|fail)<;>refine sF ?_<;>try with_reducible exact tT))<;>try clear hf
  have m10:Mem.le M9 M10:=m10
  have j5:=q3.l.one
  have j6:=q3.s.one
  have j7:=q3.q.one
  have n10:=n9.trans m10
  refine Stop.go ?_
  (try with_reducible refine Fz.of ?_);have hf:=A12 c4 c5 c6 e1 e2 e3 e4 o1 hr0 hg0 j1 (A6 j2 j3 j4 j5 j6 j7);refine sF ?_;(repeat' ((first|((with_reducible refine yN ?_);refine kS 34 (pguilt_ok 0 (h1.le n10) (h2.le n10) (h3.le n10) (h4.le n10) b1 b2 b3 (fun v5 v6 M11 m11 q4=>Stop.mk ?_)))|refine oB ?_|fail)<;>refine sF ?_<;>try with_reducible exact tT))<;>try clear hf
  have m11:Mem.le M10 M11:=m11
  have j8:=q4.n.one
  have j9:=q4.d.one
  have n11:=n10.trans m11
  refine Stop.go ?_
  (try with_reducible refine Fz.of ?_);have hf:=A12 c4 c5 c6 e1 e2 e3 e4 o1 hr0 hg0 j1 (A8 j2 j3 j4 j5 j6 j7 j8 j9);refine sF ?_;(repeat' ((first|((with_reducible refine yN ?_);refine kS 36 (best_ok (h1.le n11) (h2.le n11) (h3.le n11) (h4.le n11) b1 b2 b3 hc hsl2 hcb.cn (fun v7 v8 M12 m12 q5=>Stop.mk ?_)))|refine oB ?_|fail)<;>refine sF ?_<;>try with_reducible exact tT))<;>try clear hf
  have m12:Mem.le M11 M12:=m12
  have j10:=q5.n.one
  have j11:=q5.d.one
  have n12:=n11.trans m12
  refine Stop.go ?_
  (try with_reducible refine Fz.of ?_);have hf:=A12 c4 c5 c6 e1 e2 e3 e4 o1 hr0 hg0 j1 (A10 j2 j3 j4 j5 j6 j7 j8 j9 j10 j11);refine sF ?_;(repeat' ((first|((with_reducible refine yN ?_);refine kS 38 (psplit_ok (gB.le n12) hPX hcl2 hm2 (by omega) hs256 smB8 (fun M13 m13=>Stop.mk ?_)))|refine oB ?_|fail)<;>refine sF ?_<;>try with_reducible exact tT))<;>try clear hf
  have m13:Mem.le M12 M13:=m13
  have hMM:=n12.trans m13
  refine Stop.go ?_
  (try with_reducible refine Fz.of ?_);have hf:=A12 c4 c5 c6 e1 e2 e3 e4 o1 hr0 hg0 j1 (A10 j2 j3 j4 j5 j6 j7 j8 j9 j10 j11);refine sF ?_;(repeat' ((first|refine oB ?_|fail)<;>refine sF ?_<;>try with_reducible exact tT))<;>try clear hf
  generalize M13=MM at *
  refine ⟨fun m z=>∃M' j,m=6-j∧j≤6∧Mem.le MM M'∧z=cfSt M' a b c true 0 j,
   ⟨6,cfSt MM a b c true 0 0,le_sub ⟨rfl,rfl,rfl,rfl,rfl,rfl,trivial⟩ ⟨rfl,rfl,trivial⟩ rfl rfl rfl (keepLt_of rfl),⟨MM,0,rfl,by omega,Mem.le.refl _,rfl⟩⟩,?_⟩
  rintro m z ⟨M20,j,rfl,hj,m20,rfl⟩
  by_cases hj2:j<6
  ·have z0:decide ((j:Int)<6)=true:=by rw[decide_eq_true_eq];omega
   have z1:(0:Int)≤(j:Int):=by omega
   have z2:(j:Int)<6:=by omega
   have wj:IntKind.i64.wrap ((j:Int)+1)=((j+1:Nat):Int):=succ_i (by omega)
   have hjo:j+1≤6:=by omega
   have hat:([.ext (.int .i64 0),.ext (.int .i64 0),.ext (.int .i64 0),.ext (.int .i64 0),.ext (.int .i64 0),.ext (.int .i64 0)]:List AV)[j]? = some (.ext (.int .i64 0)):=by
    rcases (by omega:j=0∨j=1∨j=2∨j=3∨j=4∨j=5) with rfl|rfl|rfl|rfl|rfl|rfl<;>rfl
   (try with_reducible refine Fz.of ?_);have hf:=A11 @cfSt.eq_1 z0 z1 z2 wj hjo hat c4 c5 c6 @Nat.mul_one;refine sF ?_;(repeat' ((first|refine oB ?_|fail)<;>refine sF ?_<;>try with_reducible exact tT))<;>try clear hf
   exact ⟨6-(j+1),cfSt M20 a b c true 0 (j+1),by omega,le_sub ⟨rfl,rfl,rfl,rfl,rfl,rfl,trivial⟩ ⟨rfl,rfl,trivial⟩ rfl rfl rfl (keepLt_of rfl),M20,j+1,rfl,by omega,m20,rfl⟩
  obtain rfl:j=6:=by omega
  (try with_reducible refine Fz.of ?_);have hf:=A4 @cfSt.eq_1 c4 c5 c6;refine sF ?_;(repeat' ((first|((with_reducible refine yN ?_);refine kS 18 (pcheck_ok (h1.le (hMM.trans m20)) (h2.le (hMM.trans m20)) (h3.le (hMM.trans m20)) (h4.le (hMM.trans m20)) b1 b2 b3 (fun M21 m21=>Stop.mk ?_)))|refine oB ?_|fail)<;>refine sF ?_<;>try with_reducible exact tT))<;>try clear hf
  have m21:Mem.le M20 M21:=m21
  refine Stop.go ?_
  (try with_reducible refine Fz.of ?_);have hf:=A4 hc c4 c5 c6;refine sF ?_;(repeat' ((first|((with_reducible refine yN ?_);refine kS 10 (known35_ok (fun M22 m22=>Stop.mk ?_)))|refine oB ?_|fail)<;>refine sF ?_<;>try with_reducible exact tT))<;>try clear hf
  have hk:=hK M22 (hM5.trans (hMM.trans (m20.trans (m21.trans m22))))
  refine Stop.go ?_
  (try with_reducible refine Fz.of ?_);have hf:=c4;refine sF ?_;(repeat' ((first|refine oB ?_|fail)<;>refine sF ?_<;>try with_reducible exact tT))<;>try clear hf
  exact hk
 | false=>
  have hr0:riskE R S2 W2 0=(1,0,0):=by unfold riskE;rw[hc];rfl
  have hg0:guiltF R S2 W2 0=(1,0,0):=by unfold guiltF;rw[hc];rfl
  have hf0:failF R S2 W2 (opN f) (opN g) 0=(1,0,0):=by unfold failF;rw[hc,Bool.false_and];rfl
  have hu0:updB R S2 W2 (opN f) (opN g) 0 true=errB 1:=by unfold updB;rw[hc,Bool.false_and];rfl
  have hu1:(errB 1).e=1:=rfl
  refine Stop.go ?_
  (try with_reducible refine Fz.of ?_);have hf:=A9 c4 c5 c6 e1 e2 e3 e4 o1 hr0;refine sF ?_;(repeat' ((first|((with_reducible refine yN ?_);refine kS 31 (pRisk_ok 0 (h1.le m57) (h2.le m57) (h3.le m57) (h4.le m57) b1 b2 b3 (fun v1 v2 M8 m8 q1=>Stop.mk ?_)))|refine oB ?_|fail)<;>refine sF ?_<;>try with_reducible exact tT))<;>try clear hf
  have m8:Mem.le M7 M8:=m8
  have j1:=q1.n.one
  have j2:=q1.d.one
  have n8:=m57.trans m8
  refine Stop.go ?_
  (try with_reducible refine Fz.of ?_);have hf:=A12 c4 c5 c6 e1 e2 e3 e4 o1 hr0 hf0 j1 j2;refine sF ?_;(repeat' ((first|((with_reducible refine yN ?_);refine kS 27 (pfailing_ok (fl:=opN f) (dt:=opN g) 0 (h1.le n8) (h2.le n8) (h3.le n8) (h4.le n8) b1 b2 b3 (k1.le m8) (k2.le m8) (fun v3 v4 M9 m9 q2=>Stop.mk ?_)))|refine oB ?_|fail)<;>refine sF ?_<;>try with_reducible exact tT))<;>try clear hf
  have m9:Mem.le M8 M9:=m9
  have j3:=q2.n.one
  have j4:=q2.d.one
  have n9:=n8.trans m9
  refine Stop.go ?_
  (try with_reducible refine Fz.of ?_);have hf:=A12 c4 c5 c6 e1 e2 e3 e4 o1 hr0 hf0 hu0 (A5 hu1 j1 j2 j3 j4);refine sF ?_;(repeat' ((first|((with_reducible refine yN ?_);refine kS 21 (update_ok (fl:=opN f) (dt:=opN g) 0 true (h1.le n9) (h2.le n9) (h3.le n9) (h4.le n9) b1 b2 b3 ((k1.le m8).le m9) ((k2.le m8).le m9) (fun ar as_ aw M10 m10 q3 q31 q32=>Stop.mk ?_)))|refine oB ?_|fail)<;>refine sF ?_<;>try with_reducible exact tT))<;>try clear hf
  have m10:Mem.le M9 M10:=m10
  have j5:=q3.one
  have j6:=q31.one
  have j7:=q32.one
  have n10:=n9.trans m10
  refine Stop.go ?_
  (try with_reducible refine Fz.of ?_);have hf:=A12 c4 c5 c6 e1 e2 e3 e4 o1 hr0 hf0 hu0 (A9 hu1 hg0 j1 j2 j3 j4 j5 j6 j7);refine sF ?_;(repeat' ((first|((with_reducible refine yN ?_);refine kS 34 (pguilt_ok 0 (h1.le n10) (h2.le n10) (h3.le n10) (h4.le n10) b1 b2 b3 (fun v5 v6 M11 m11 q4=>Stop.mk ?_)))|refine oB ?_|fail)<;>refine sF ?_<;>try with_reducible exact tT))<;>try clear hf
  have m11:Mem.le M10 M11:=m11
  have j8:=q4.n.one
  have j9:=q4.d.one
  have n11:=n10.trans m11
  refine Stop.go ?_
  (try with_reducible refine Fz.of ?_);have hf:=A12 c4 c5 c6 e1 e2 e3 e4 o1 hr0 hf0 hu0 (A11 hu1 hg0 j1 j2 j3 j4 j5 j6 j7 j8 j9);refine sF ?_;(repeat' ((first|((with_reducible refine yN ?_);refine kS 36 (pbestN_ok (h1.le n11) (h2.le n11) (h3.le n11) (h4.le n11) b1 b2 b3 hc (fun M12 m12=>Stop.mk ?_)))|refine oB ?_|fail)<;>refine sF ?_<;>try with_reducible exact tT))<;>try clear hf
  have m12:Mem.le M11 M12:=m12
  have n12:=n11.trans m12
  refine Stop.go ?_
  (try with_reducible refine Fz.of ?_);have hf:=A12 c4 c5 c6 e1 e2 e3 e4 o1 hr0 hf0 hu0 (A11 hu1 hg0 j1 j2 j3 j4 j5 j6 j7 j8 j9);refine sF ?_;(repeat' ((first|((with_reducible refine yN ?_);refine kS 38 (psplitN_ok (h1.le n12) (h2.le n12) (h3.le n12) (h4.le n12) b1 b2 b3 hc (fun M13 m13=>Stop.mk ?_)))|refine oB ?_|fail)<;>refine sF ?_<;>try with_reducible exact tT))<;>try clear hf
  have m13:Mem.le M12 M13:=m13
  have hMM:=n12.trans m13
  refine Stop.go ?_
  (try with_reducible refine Fz.of ?_);have hf:=A12 c4 c5 c6 e1 e2 e3 e4 o1 hr0 hf0 hu0 (A11 hu1 hg0 j1 j2 j3 j4 j5 j6 j7 j8 j9);refine sF ?_;(repeat' ((first|refine oB ?_|fail)<;>refine sF ?_<;>try with_reducible exact tT))<;>try clear hf
  generalize M13=MM at *
  refine ⟨fun m z=>∃M' j,m=6-j∧j≤6∧Mem.le MM M'∧z=cfSt M' a b c false 1 j,
   ⟨6,cfSt MM a b c false 1 0,le_sub ⟨rfl,rfl,rfl,rfl,rfl,rfl,trivial⟩ ⟨rfl,rfl,trivial⟩ rfl rfl rfl (keepLt_of rfl),⟨MM,0,rfl,by omega,Mem.le.refl _,rfl⟩⟩,?_⟩
  rintro m z ⟨M20,j,rfl,hj,m20,rfl⟩
  by_cases hj2:j<6
  ·have z0:decide ((j:Int)<6)=true:=by rw[decide_eq_true_eq];omega
   have z1:(0:Int)≤(j:Int):=by omega
   have z2:(j:Int)<6:=by omega
   have wj:IntKind.i64.wrap ((j:Int)+1)=((j+1:Nat):Int):=succ_i (by omega)
   have hjo:j+1≤6:=by omega
   have hat:([.ext (.int .i64 1),.ext (.int .i64 1),.ext (.int .i64 1),.ext (.int .i64 1),.ext (.int .i64 1),.ext (.int .i64 1)]:List AV)[j]? = some (.ext (.int .i64 1)):=by
    rcases (by omega:j=0∨j=1∨j=2∨j=3∨j=4∨j=5) with rfl|rfl|rfl|rfl|rfl|rfl<;>rfl
   (try with_reducible refine Fz.of ?_);have hf:=A11 @cfSt.eq_1 z0 z1 z2 wj hjo hat c4 c5 c6 @Nat.mul_one;refine sF ?_;(repeat' ((first|refine oB ?_|fail)<;>refine sF ?_<;>try with_reducible exact tT))<;>try clear hf
   exact ⟨6-(j+1),cfSt M20 a b c false 1 (j+1),by omega,le_sub ⟨rfl,rfl,rfl,rfl,rfl,rfl,trivial⟩ ⟨rfl,rfl,trivial⟩ rfl rfl rfl (keepLt_of rfl),M20,j+1,rfl,by omega,m20,rfl⟩
  obtain rfl:j=6:=by omega
  (try with_reducible refine Fz.of ?_);have hf:=A4 @cfSt.eq_1 c4 c5 c6;refine sF ?_;(repeat' ((first|((with_reducible refine yN ?_);refine kS 18 (pcheck_ok (h1.le (hMM.trans m20)) (h2.le (hMM.trans m20)) (h3.le (hMM.trans m20)) (h4.le (hMM.trans m20)) b1 b2 b3 (fun M21 m21=>Stop.mk ?_)))|refine oB ?_|fail)<;>refine sF ?_<;>try with_reducible exact tT))<;>try clear hf
  have m21:Mem.le M20 M21:=m21
  refine Stop.go ?_
  (try with_reducible refine Fz.of ?_);have hf:=A4 hc c4 c5 c6;refine sF ?_;(repeat' ((first|((with_reducible refine yN ?_);refine kS 10 (known35_ok (fun M22 m22=>Stop.mk ?_)))|refine oB ?_|fail)<;>refine sF ?_<;>try with_reducible exact tT))<;>try clear hf
  have hk:=hK M22 (hM5.trans (hMM.trans (m20.trans (m21.trans m22))))
  refine Stop.go ?_
  (try with_reducible refine Fz.of ?_);have hf:=c4;refine sF ?_;(repeat' ((first|refine oB ?_|fail)<;>refine sF ?_<;>try with_reducible exact tT))<;>try clear hf
  exact hk
end
end Go.Proofs.YtbclgnojcnkehaaGreat.Sx
