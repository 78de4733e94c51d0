/- Part 17 of the texts of this claim: a symbolic executor and contracts of functions. -/
import Derived.Test.YtjapnklocibgaaaOCiRCBor
namespace Go.Proofs.Ytjapnklocibgaaa.Sx
open Go Go.RowKit
set_option linter.unusedVariables false
set_option linter.unusedSimpArgs false
set_option maxRecDepth 100000
set_option maxHeartbeats 8000000
attribute [local congr] fin_congr finG_congr stepG_congr step1_congr runOps_congr brv_congr obl_congr condK_congr LoopK_congr seqK_congr CutK_congr vc_congr DrawK_congr regK_congr CallK_congr AskK_congr newK_congr retC_congr ret1_congr retK_congr outV_congr closeK_congr genR_congr appR_congr finD_congr finGD_congr stepGD_congr stepD_congr CallK0_congr runD_congr okR_congr CallS_congr vcX_congr
structure Stop (p:Prop):Prop where
 intro ::
 get:p
theorem Stop_congr(p:Prop):Stop p=Stop p:=rfl
theorem Stop.mk{p:Prop}(h:Stop p):p:=h.get
theorem Stop.go{p:Prop}(h:p):Stop p:=⟨h⟩
theorem keepLt0{z:Hp}:∀h:Hp,keepLt 0 z h
 | []=>trivial
 | (_,_) :: r=>⟨.inl (Nat.zero_le _),keepLt0 r⟩
def keepB(kb:Nat)(zs:List Nat):List Nat→Bool
 | []=>true
 | k :: r=>(Nat.ble kb k || hasK k zs)&&keepB kb zs r
theorem keysH_is{k:Nat}:∀{h:Hp},hasK k (keysH h)=true→(lkH h k).isSome=true
 | [],h=>by simp[keysH,hasK]at h
 | (j,_) :: r,h=>by
  simp only[keysH,hasK,Bool.or_eq_true,beq_iff_eq]at h
  simp only[lkH]
  split
  ·rfl
  ·rename_i hne;exact keysH_is (h.resolve_left hne)
theorem keepLt_of{kb:Nat}{z:Hp}:∀{h:Hp},keepB kb (keysH z) (keysH h)=true→keepLt kb z h
 | [],_=>trivial
 | (k,_) :: r,h=>by
  simp only[keysH,keepB,Bool.and_eq_true,Bool.or_eq_true]at h
  exact ⟨h.1.imp (fun e=>Nat.le_of_ble_eq_true e) keysH_is,keepLt_of h.2⟩
def intV64(x:Int):Value:=.int .i64 x
def natV(x:Nat):Value:=.int .i64 (x:Int)
def cE{α:Type}(g:α→Value)(l:List α):List AV:=(l.map g).map .ext
theorem cE_len{α:Type}(g:α→Value)(l:List α):(cE g l).length=l.length:=by simp[cE]
theorem cE_ment{α:Type}(g:α→Value)(l:List α):mentL (cE g l)=[]:=mentL_ext _
theorem cE_snoc{α:Type}(g:α→Value)(l:List α)(x:α):cE g l++[.ext (g x)]=cE g (l++[x]):=by simp[cE]
theorem hasK_nil(k:Nat):hasK k []=false:=rfl
theorem wrap_id{x:Int}(h1 : -9223372036854775808≤x)(h2:x≤9223372036854775807):IntKind.i64.wrap x=x:=IntWalk.i64_in _ ⟨h1,h2⟩
section
variable {M:Mem}{K:AV→Hp→Mem→Prop}
def foldI(v n:Int):Int:=if n≤1 then 0 else if v.tmod n<0 then IntKind.i64.wrap (v.tmod n+n) else v.tmod n
theorem fold_ok(v n:Int)(hK:K (.ext (.int .i64 (foldI v n))) [] M):CallS Try.prog 20 [.ext (.int .i64 v),.ext (.int .i64 n)] [] M [] K:=by
 refine inlS (cs:=[]) Try.mixed Try.func20 rfl (by kernel_rfl) 0 rfl rfl ?_
 generalize hr:foldI v n=r at hK
 simp only[Try.f20]
 (replace hb0:=true_and True);refine Go1.mk ?_;repeat' ((first|(with_reducible refine Go1.go ?_)|((with_reducible first|refine brv_mk ?_ ?_|refine gsplitD ?_ ?_|refine gsplitG ?_ ?_)<;>intro h<;>(try simp only[Bool.not_eq_true',Bool.not_eq_false']at h)<;>replace hb0:=h)|(refine And.intro ?_ ?_;(try simp only[sxO]at *);omega)|fail)<;>(try simp (maxSteps:=1000000) only [hb0,↓hold_pre,awayP,runOps,regK,step1,newK,genR,appR,obl,buildR,Value.cells,closeK,keepH,outV,retK,ret1,retC,RetV,Option.getD,runD,stepD,afterK,undef,simprocAttr,sxB,↓sxD,sxE,sxTab]))
 all_goals
  unfold foldI at hr
  (repeat' split at hr)<;>subst hr<;>first
   | exact hK
   | (exfalso;simp_all;done)
theorem foldI_bd(v n:Int)(h:1<n)(h2:n<1000000000):0≤foldI v n∧foldI v n<n:=by
 unfold foldI
 rw[if_neg (by omega)]
 have h3:v.tmod n<n:=Int.tmod_lt_of_pos v (by omega)
 have h4 : -n<v.tmod n:=by
  have:=Int.neg_tmod v n
  have h5:=Int.tmod_lt_of_pos (-v) (show 0<n by omega)
  omega
 split
 ·rw[wrap_id (by omega) (by omega)];omega
 ·omega
theorem foldI_bd1(v n:Int)(h:0<n)(h2:n<1000000000):0≤foldI v n∧foldI v n<n:=by
 by_cases h1:n=1
 ·subst h1;simp[foldI]
 ·exact foldI_bd v n (by omega) h2
def tapeV(l:List Int)(p:Nat):Int:=if h:p<l.length then l[p] else ((p:Int)*7).tmod 11
theorem next_ok(k:Nat)(u:Value)(l:List Int)(p:Nat)(n:Int)(hu:IsL M intV64 u l)(hp:p<1000000000)(hK:K (.ext (.int .i64 (foldI (tapeV l p) n))) [(k,25,[.ext u,.ext (.int .i64 ((p+1:Nat):Int))])] M) :
  CallS Try.prog 18 [.own k 0,.ext (.int .i64 n)] [(k,25,[.ext u,.ext (.int .i64 (p:Int))])] M [] K:=by
 have hw1:IntKind.i64.wrap ((p:Int)+1)=((p+1:Nat):Int):=by rw[wrap_id (by omega) (by omega)];omega
 have hw7:IntKind.i64.wrap ((p:Int)*7)=(p:Int)*7:=wrap_id (by omega) (by omega)
 refine inlS (cs:=[]) (f:=18) Try.mixed Try.func18 rfl (by kernel_rfl) (k+1) rfl (by simp[ltB,keysH]) ?_
 simp only[Try.f18]
 by_cases h:p<l.length
 ·have hat:=hu.at (P:=Try.prog) (T:=3) tk3 tz3 h
  have hnn:=hu.nn h
  have hlt:decide ((p:Int)<(l.length:Int))=true:=by simp;omega
  have hlt2:(p:Int)<(l.length:Int):=by omega
  have h0:(0:Int)≤(p:Int):=by omega
  have htv:tapeV l p=l[p]:=by simp[tapeV,h]
  rw[htv]at hK
  (replace hb0:=true_and True);refine Go1.mk ?_;repeat' ((first|(with_reducible refine Go1.go ?_)|((with_reducible first|refine brv_mk ?_ ?_|refine gsplitD ?_ ?_|refine gsplitG ?_ ?_)<;>intro h<;>(try simp only[Bool.not_eq_true',Bool.not_eq_false']at h)<;>replace hb0:=h)|(((with_reducible refine isCall (f:=20) ?_);refine callA_nil (by kernel_rfl) ?_;refine (fold_ok _ _ ?_)))|((with_reducible refine isDraw [some 12,some 13,some 14,some 15,some 16,some 17,some 18,some 19,some 20,some 21] (by decide) ?_);refine draw_rule [(0,[]),(1,[]),(2,[]),(3,[]),(4,[3]),(5,[3]),(6,[3]),(7,[3]),(8,[3]),(9,[])] [[],[0],[0,1],[0,1,2],[],[4],[4,5],[4,5,6],[4,5,6,7],[0,1,2,3,4,5,6,7,8]] [12,13,14,15,16,17,18,19,20] [] (by kernel_rfl) (by kernel_rfl) (by kernel_rfl) (by kernel_rfl) (by exact trivial) ?_)|((with_reducible refine isDraw [some 22,some 23,some 24,some 25,some 26,some 27,some 28,some 29,some 30,some 31,some 5] (by decide) ?_);refine draw_rule [(0,[]),(1,[]),(2,[]),(3,[]),(4,[3]),(5,[3]),(6,[3]),(7,[3]),(8,[]),(9,[]),(10,[])] [[],[0],[0,1],[0,1,2],[],[4],[4,5],[4,5,6],[0,1,2,3,4,5,6,7],[0,1,2,3,4,5,6,7,8],[0,1,2,3,4,5,6,7,8,9]] [22,23,24,25,26,27,28,29] [] (by kernel_rfl) (by kernel_rfl) (by kernel_rfl) (by kernel_rfl) (by exact trivial) ?_)|(refine And.intro ?_ ?_;(try simp only[sxO]at *);omega)|fail)<;>(try simp (maxSteps:=1000000) only [hb0,hu.len,hu.sl,hat,hnn,hlt,hlt2,h0,hw1,hw7,intV64,↓hold_pre,awayP,runOps,regK,step1,newK,genR,appR,obl,buildR,Value.cells,closeK,keepH,outV,retK,ret1,retC,RetV,Option.getD,runD,stepD,afterK,undef,simprocAttr,sxB,↓sxD,sxE,sxTab]))
  all_goals exact hK
 ·have hlt:decide ((p:Int)<(l.length:Int))=false:=by simp;omega
  have htv:tapeV l p=((p:Int)*7).tmod 11:=by simp[tapeV,h]
  rw[htv]at hK
  (replace hb0:=true_and True);refine Go1.mk ?_;repeat' ((first|(with_reducible refine Go1.go ?_)|((with_reducible first|refine brv_mk ?_ ?_|refine gsplitD ?_ ?_|refine gsplitG ?_ ?_)<;>intro h<;>(try simp only[Bool.not_eq_true',Bool.not_eq_false']at h)<;>replace hb0:=h)|(((with_reducible refine isCall (f:=20) ?_);refine callA_nil (by kernel_rfl) ?_;refine (fold_ok _ _ ?_)))|((with_reducible refine isDraw [some 12,some 13,some 14,some 15,some 16,some 17,some 18,some 19,some 20,some 21] (by decide) ?_);refine draw_rule [(0,[]),(1,[]),(2,[]),(3,[]),(4,[3]),(5,[3]),(6,[3]),(7,[3]),(8,[3]),(9,[])] [[],[0],[0,1],[0,1,2],[],[4],[4,5],[4,5,6],[4,5,6,7],[0,1,2,3,4,5,6,7,8]] [12,13,14,15,16,17,18,19,20] [] (by kernel_rfl) (by kernel_rfl) (by kernel_rfl) (by kernel_rfl) (by exact trivial) ?_)|((with_reducible refine isDraw [some 22,some 23,some 24,some 25,some 26,some 27,some 28,some 29,some 30,some 31,some 5] (by decide) ?_);refine draw_rule [(0,[]),(1,[]),(2,[]),(3,[]),(4,[3]),(5,[3]),(6,[3]),(7,[3]),(8,[]),(9,[]),(10,[])] [[],[0],[0,1],[0,1,2],[],[4],[4,5],[4,5,6],[0,1,2,3,4,5,6,7],[0,1,2,3,4,5,6,7,8],[0,1,2,3,4,5,6,7,8,9]] [22,23,24,25,26,27,28,29] [] (by kernel_rfl) (by kernel_rfl) (by kernel_rfl) (by kernel_rfl) (by exact trivial) ?_)|(refine And.intro ?_ ?_;(try simp only[sxO]at *);omega)|fail)<;>(try simp (maxSteps:=1000000) only [hb0,hu.len,hu.sl,hlt,hw1,hw7,↓hold_pre,awayP,runOps,regK,step1,newK,genR,appR,obl,buildR,Value.cells,closeK,keepH,outV,retK,ret1,retC,RetV,Option.getD,runD,stepD,afterK,undef,simprocAttr,sxB,↓sxD,sxE,sxTab]))
  all_goals exact hK
theorem nextI_ok(k:Nat)(u:Value)(l:List Int)(p:Nat)(n:Int)(hu:IsL M intV64 u l)(hp:p<1000000000)(hn:0<n)(hn2:n<1000000000)(hK:∀x:Int,0≤x→x<n→K (.ext (.int .i64 x)) [(k,25,[.ext u,.ext (.int .i64 ((p+1:Nat):Int))])] M) :
  CallS Try.prog 18 [.own k 0,.ext (.int .i64 n)] [(k,25,[.ext u,.ext (.int .i64 (p:Int))])] M [] K:=
 next_ok k u l p n hu hp (hK _ (foldI_bd1 _ _ hn hn2).1 (foldI_bd1 _ _ hn hn2).2)
end
end Go.Proofs.Ytjapnklocibgaaa.Sx
