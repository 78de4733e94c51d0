/- Part 17 of the texts of this claim: a symbolic executor and contracts of functions. -/
import Derived.Test.YtiipiciemgdaeaaGreatCvTRCBor
namespace Go.Proofs.YtiipiciemgdaeaaGreat.Sx
open Go Go.RowKit
set_option linter.unusedVariables false
set_option linter.unusedSimpArgs false
set_option maxRecDepth 100000
set_option maxHeartbeats 8000000
attribute [local congr] fin_congr finG_congr stepG_congr step1_congr runOps_congr brv_congr obl_congr condK_congr LoopK_congr seqK_congr CutK_congr vc_congr DrawK_congr regK_congr CallK_congr AskK_congr newK_congr retC_congr ret1_congr retK_congr outV_congr closeK_congr genR_congr appR_congr finD_congr finGD_congr stepGD_congr stepD_congr CallK0_congr runD_congr okR_congr CallS_congr vcX_congr
structure Stop (p:Prop):Prop where
 intro ::
 get:p
theorem Stop_congr(p:Prop):Stop p=Stop p:=rfl
theorem Stop.mk{p:Prop}(h:Stop p):p:=h.get
theorem Stop.go{p:Prop}(h:p):Stop p:=⟨h⟩
theorem keepLt0{z:Hp}:∀h:Hp,keepLt 0 z h
 | []=>trivial
 | (_,_) :: r=>⟨.inl (Nat.zero_le _),keepLt0 r⟩
def keepB(kb:Nat)(zs:List Nat):List Nat→Bool
 | []=>true
 | k :: r=>(Nat.ble kb k || hasK k zs)&&keepB kb zs r
theorem keysH_is{k:Nat}:∀{h:Hp},hasK k (keysH h)=true→(lkH h k).isSome=true
 | [],h=>by simp[keysH,hasK]at h
 | (j,_) :: r,h=>by
  simp only[keysH,hasK,Bool.or_eq_true,beq_iff_eq]at h
  simp only[lkH]
  split
  ·rfl
  ·rename_i hne;exact keysH_is (h.resolve_left hne)
theorem keepLt_of{kb:Nat}{z:Hp}:∀{h:Hp},keepB kb (keysH z) (keysH h)=true→keepLt kb z h
 | [],_=>trivial
 | (k,_) :: r,h=>by
  simp only[keysH,keepB,Bool.and_eq_true,Bool.or_eq_true]at h
  exact ⟨h.1.imp (fun e=>Nat.le_of_ble_eq_true e) keysH_is,keepLt_of h.2⟩
def intV64(x:Int):Value:=.int .i64 x
def natV(x:Nat):Value:=.int .i64 (x:Int)
def cE{α:Type}(g:α→Value)(l:List α):List AV:=(l.map g).map .ext
theorem cE_len{α:Type}(g:α→Value)(l:List α):(cE g l).length=l.length:=by simp[cE]
theorem cE_ment{α:Type}(g:α→Value)(l:List α):mentL (cE g l)=[]:=mentL_ext _
theorem cE_snoc{α:Type}(g:α→Value)(l:List α)(x:α):cE g l++[.ext (g x)]=cE g (l++[x]):=by simp[cE]
theorem hasK_nil(k:Nat):hasK k []=false:=rfl
theorem wrap_id{x:Int}(h1 : -9223372036854775808≤x)(h2:x≤9223372036854775807):IntKind.i64.wrap x=x:=IntWalk.i64_in _ ⟨h1,h2⟩
section
variable {M:Mem}{K:AV→Hp→Mem→Prop}
def foldI(v n:Int):Int:=if n≤1 then 0 else if v.tmod n<0 then IntKind.i64.wrap (v.tmod n+n) else v.tmod n
theorem fold_ok(v n:Int)(hK:K (.ext (.int .i64 (foldI v n))) [] M):CallS Tryz.prog 11 [.ext (.int .i64 v),.ext (.int .i64 n)] [] M [] K:=by
 refine inlS (cs:=[]) Tryz.mixed Tryz.func11 rfl (by kernel_rfl) 0 rfl rfl ?_
 generalize hr:foldI v n=r at hK
 simp only[Tryz.f11]
 (replace hb0:=true_and True);refine sW ?_;(repeat' ((first|((with_reducible first|refine brv_mk ?_ ?_|refine gsplitD ?_ ?_|refine gsplitG ?_ ?_)<;>intro h<;>(try simp only[Bool.not_eq_true',Bool.not_eq_false']at h)<;>replace hb0:=h)|refine oB ?_|fail)<;>refine sW ?_<;>try with_reducible exact tT))
 all_goals
  unfold foldI at hr
  (repeat' split at hr)<;>subst hr<;>first
   | exact hK
   | (exfalso;simp_all;done)
theorem foldI_bd(v n:Int)(h:1<n)(h2:n<1000000000):0≤foldI v n∧foldI v n<n:=by
 unfold foldI
 rw[if_neg (by omega)]
 have h3:v.tmod n<n:=Int.tmod_lt_of_pos v (by omega)
 have h4 : -n<v.tmod n:=by
  have:=Int.neg_tmod v n
  have h5:=Int.tmod_lt_of_pos (-v) (show 0<n by omega)
  omega
 split
 ·rw[wrap_id (by omega) (by omega)];omega
 ·omega
theorem foldI_bd1(v n:Int)(h:0<n)(h2:n<1000000000):0≤foldI v n∧foldI v n<n:=by
 by_cases h1:n=1
 ·subst h1;simp[foldI]
 ·exact foldI_bd v n (by omega) h2
def tapeV(l:List Int)(p:Nat):Int:=if h:p<l.length then l[p] else ((p:Int)*7).tmod 11
theorem next_ok(k:Nat)(u:Value)(l:List Int)(p:Nat)(n:Int)(hu:IsL M intV64 u l)(hp:p<1000000000)(hK:K (.ext (.int .i64 (foldI (tapeV l p) n))) [(k,25,[.ext u,.ext (.int .i64 ((p+1:Nat):Int))])] M) :
  CallS Tryz.prog 13 [.own k 0,.ext (.int .i64 n)] [(k,25,[.ext u,.ext (.int .i64 (p:Int))])] M [] K:=by
 have hw1:IntKind.i64.wrap ((p:Int)+1)=((p+1:Nat):Int):=by rw[wrap_id (by omega) (by omega)];omega
 have hw7:IntKind.i64.wrap ((p:Int)*7)=(p:Int)*7:=wrap_id (by omega) (by omega)
 refine inlS (cs:=[]) (f:=13) Tryz.mixed Tryz.func13 rfl (by kernel_rfl) (k+1) rfl (by simp[ltB,keysH]) ?_
 simp only[Tryz.f13]
 by_cases h:p<l.length
 ·have hat:=hu.at (P:=Tryz.prog) (T:=3) tk3 tz3 h
  have hnn:=hu.nn h
  have hlt:decide ((p:Int)<(l.length:Int))=true:=by simp;omega
  have hlt2:(p:Int)<(l.length:Int):=by omega
  have h0:(0:Int)≤(p:Int):=by omega
  have htv:tapeV l p=l[p]:=by simp[tapeV,h]
  rw[htv]at hK
  (replace hb0:=true_and True);have hf:=A10 hu.len hu.sl hat hnn hlt hlt2 h0 hw1 hw7 @intV64.eq_1;refine sV ?_;(repeat' ((first|((with_reducible first|refine brv_mk ?_ ?_|refine gsplitD ?_ ?_|refine gsplitG ?_ ?_)<;>intro h<;>(try simp only[Bool.not_eq_true',Bool.not_eq_false']at h)<;>replace hb0:=h)|((with_reducible refine yN ?_);refine kS 11 (fold_ok _ _ ?_))|((with_reducible refine isE 12 (by decide) ?_);refine dR (rP 0 4 [] (rP 4 5 [3] [(9,[])])) (rgL 12 9 []) [] ?_)|((with_reducible refine isE 22 (by decide) ?_);refine dR (rP 0 4 [] (rP 4 4 [3] (rP 8 3 [] []))) (rgL 22 8 []) [] ?_)|refine oB ?_|fail)<;>refine sV ?_<;>try with_reducible exact tT))<;>try clear hf
  all_goals exact hK
 ·have hlt:decide ((p:Int)<(l.length:Int))=false:=by simp;omega
  have htv:tapeV l p=((p:Int)*7).tmod 11:=by simp[tapeV,h]
  rw[htv]at hK
  (replace hb0:=true_and True);have hf:=A5 hu.len hu.sl hlt hw1 hw7;refine sV ?_;(repeat' ((first|((with_reducible first|refine brv_mk ?_ ?_|refine gsplitD ?_ ?_|refine gsplitG ?_ ?_)<;>intro h<;>(try simp only[Bool.not_eq_true',Bool.not_eq_false']at h)<;>replace hb0:=h)|((with_reducible refine yN ?_);refine kS 11 (fold_ok _ _ ?_))|((with_reducible refine isE 12 (by decide) ?_);refine dR (rP 0 4 [] (rP 4 5 [3] [(9,[])])) (rgL 12 9 []) [] ?_)|((with_reducible refine isE 22 (by decide) ?_);refine dR (rP 0 4 [] (rP 4 4 [3] (rP 8 3 [] []))) (rgL 22 8 []) [] ?_)|refine oB ?_|fail)<;>refine sV ?_<;>try with_reducible exact tT))<;>try clear hf
  all_goals exact hK
theorem nextI_ok(k:Nat)(u:Value)(l:List Int)(p:Nat)(n:Int)(hu:IsL M intV64 u l)(hp:p<1000000000)(hn:0<n)(hn2:n<1000000000)(hK:∀x:Int,0≤x→x<n→K (.ext (.int .i64 x)) [(k,25,[.ext u,.ext (.int .i64 ((p+1:Nat):Int))])] M) :
  CallS Tryz.prog 13 [.own k 0,.ext (.int .i64 n)] [(k,25,[.ext u,.ext (.int .i64 (p:Int))])] M [] K:=
 next_ok k u l p n hu hp (hK _ (foldI_bd1 _ _ hn hn2).1 (foldI_bd1 _ _ hn hn2).2)
theorem chance_ok(k:Nat)(u:Value)(l:List Int)(p:Nat)(n m:Int)(hu:IsL M intV64 u l)(hp:p<1000000000)(hm:0<m)(hm2:m<1000000000)(hK:∀b,K (.ext (.bool b)) [(k,25,[.ext u,.ext (.int .i64 ((p+1:Nat):Int))])] M) :
  CallS Tryz.prog 32 [.own k 0,.ext (.int .i64 n),.ext (.int .i64 m)] [(k,25,[.ext u,.ext (.int .i64 (p:Int))])] M [] K:=by
 refine inlS (cs:=[]) (f:=32) Tryz.mixed Tryz.func32 rfl (by kernel_rfl) (k+1) rfl (by simp[ltB,keysH]) ?_
 simp only[Tryz.f32]
 (replace hb0:=true_and True);have hf:=hu.one;refine sV ?_;(repeat' ((first|((with_reducible first|refine brv_mk ?_ ?_|refine gsplitD ?_ ?_|refine gsplitG ?_ ?_)<;>intro h<;>(try simp only[Bool.not_eq_true',Bool.not_eq_false']at h)<;>replace hb0:=h)|((with_reducible first|refine yA ?_|refine yC ?_);first|refine kH 13 ?_|refine kS 13 (nextI_ok k u l _ _ hu hp hm hm2 (fun x hx0 hx1=>?_)))|refine oB ?_|fail)<;>refine sV ?_<;>try with_reducible exact tT))<;>try clear hf
 all_goals exact hK _
end
theorem wrap_nat{n:Nat}(h:n<2^63):IntKind.i64.wrap (n:Int)=(n:Int):=wrap_id (by omega) (by omega)
theorem bits_and{a b:Nat}(ha:a<2^63)(hb:b<2^63):bits .and .i64 (a:Int) (b:Int)=((a &&& b:Nat):Int):=by
 show IntKind.i64.wrap ((BitVec.ofInt 64 (a:Int) &&& BitVec.ofInt 64 (b:Int)).toNat:Int)=_
 rw[BitVec.ofInt_natCast,BitVec.ofInt_natCast,BitVec.toNat_and,BitVec.toNat_ofNat,BitVec.toNat_ofNat]
 rw[Nat.mod_eq_of_lt (show a<2^64 by omega),Nat.mod_eq_of_lt (show b<2^64 by omega)]
 exact wrap_nat (Nat.lt_of_le_of_lt Nat.and_le_left ha)
theorem bits_or{a b:Nat}(ha:a<2^63)(hb:b<2^63):bits .or .i64 (a:Int) (b:Int)=((a ||| b:Nat):Int):=by
 show IntKind.i64.wrap ((BitVec.ofInt 64 (a:Int) ||| BitVec.ofInt 64 (b:Int)).toNat:Int)=_
 rw[BitVec.ofInt_natCast,BitVec.ofInt_natCast,BitVec.toNat_or,BitVec.toNat_ofNat,BitVec.toNat_ofNat]
 rw[Nat.mod_eq_of_lt (show a<2^64 by omega),Nat.mod_eq_of_lt (show b<2^64 by omega)]
 exact wrap_nat (Nat.or_lt_two_pow ha hb)
def ndif(a b:Nat):Nat:=(BitVec.ofNat 64 a &&& ~~~ BitVec.ofNat 64 b).toNat
theorem ndif_le(a b:Nat)(ha:a<2^63):ndif a b≤a:=by
 simp only[ndif,BitVec.toNat_and,BitVec.toNat_ofNat]
 rw[Nat.mod_eq_of_lt (show a<2^64 by omega)]
 exact Nat.and_le_left
theorem bits_ndif{a b:Nat}(ha:a<2^63):bits .andNot .i64 (a:Int) (b:Int)=((ndif a b:Nat):Int):=by
 show IntKind.i64.wrap ((BitVec.ofInt 64 (a:Int) &&& ~~~ BitVec.ofInt 64 (b:Int)).toNat:Int)=_
 rw[BitVec.ofInt_natCast,BitVec.ofInt_natCast]
 exact wrap_nat (Nat.lt_of_le_of_lt (ndif_le a b ha) ha)
theorem ndif_bit{a b i:Nat}(hi:i<64):(ndif a b).testBit i=(a.testBit i&&!b.testBit i):=by
 have h:(ndif a b).testBit i=(BitVec.ofNat 64 a &&& ~~~ BitVec.ofNat 64 b).getLsbD i:=rfl
 rw[h,BitVec.getLsbD_and,BitVec.getLsbD_not,BitVec.getLsbD_ofNat,BitVec.getLsbD_ofNat]
 simp[hi]
theorem and_bit{a i:Nat}:(a &&& 2^i=0)↔a.testBit i=false:=by
 constructor
 ·intro h
  have:=congrArg (fun n=>n.testBit i) h
  simpa [Nat.testBit_and,Nat.testBit_two_pow] using this
 ·intro h
  refine Nat.eq_of_testBit_eq fun j=>?_
  rw[Nat.testBit_and,Nat.testBit_two_pow]
  by_cases e:i=j
  ·subst e;simp[h]
  ·simp[e]
theorem and_bit0{a i:Nat}:decide (((a &&& 2^i:Nat):Int)=0) = !a.testBit i:=by
 cases h:a.testBit i
 ·have:=and_bit.2 h
  simp[this]
 ·have:¬(a &&& 2^i=0):=fun e=>by rw[and_bit.1 e]at h;cases h
  simp only[Bool.not_true,decide_eq_false_iff_not]
  omega
theorem shl_one{i:Nat}(h:i<62):IntKind.i64.wrap (1*2^(min i IntKind.i64.bits))=((2^i:Nat):Int):=by
 have h1:min i IntKind.i64.bits=i:=by
  have:IntKind.i64.bits=64:=rfl
  omega
 have h2:(2:Nat)^i≤2^62:=Nat.pow_le_pow_right (by decide) (by omega)
 have h3:(1:Int)*2^i=((2^i:Nat):Int):=by simp
 rw[h1,h3,wrap_nat (by omega)]
theorem shr_nat(s i:Nat)(h:i<64):(s:Int).fdiv (2^(min i IntKind.i64.bits))=((s >>> i:Nat):Int):=by
 have h1:min i IntKind.i64.bits=i:=by
  have:IntKind.i64.bits=64:=rfl
  omega
 rw[h1,Int.fdiv_eq_ediv_of_nonneg _ (Int.pow_nonneg (by decide)),Nat.shiftRight_eq_div_pow]
 simp
theorem in_bit(s i:Nat)(h:s<2^63):decide (bits .and .i64 ((s >>> i:Nat):Int) 1=1)=s.testBit i:=by
 have h1:s >>> i<2^63:=Nat.lt_of_le_of_lt (by rw[Nat.shiftRight_eq_div_pow];exact Nat.div_le_self _ _) h
 have h2:bits .and .i64 ((s >>> i:Nat):Int) 1=((s >>> i &&& 1:Nat):Int):=bits_and (b:=1) h1 (by decide)
 rw[h2,Nat.testBit,Nat.and_comm]
 have h3:(1:Nat) &&& s >>> i=(s >>> i) % 2:=Nat.one_and_eq_mod_two _
 rw[h3]
 have h4:=Nat.mod_lt (s >>> i) (show 0<2 by decide)
 cases h5:(s >>> i) % 2 with
 | zero=>rfl
 | succ n=>
  have:n=0:=by omega
  subst this;rfl
theorem wH{p q:Prop}(h:q)(e:Hd q→p:=by (intro hq;(try with_reducible refine Fz.of ?_);refine sF ?_;(repeat' ((first|refine oB ?_|fail)<;>refine sF ?_<;>try with_reducible exact tT));exact hq.g)):Stop p:=Stop.go (e ⟨h⟩)
theorem wG{r p q:Prop}(g:r)(h:q)(e:r→Hd q→p:=by (intro hf hq;(try with_reducible refine Fz.of ?_);refine sF ?_;(repeat' ((first|refine oB ?_|fail)<;>refine sF ?_<;>try with_reducible exact tT));exact hq.g)):Stop p:=Stop.go (e g ⟨h⟩)
theorem sG{p q:Prop}(h:q)(e:Stop p=q:=by (try simp (maxSteps:=1000000) only [hf,↓hold_pre,awayP,runOps,regK,step1,newK,genR,appR,obl,buildR,Value.cells,closeK,keepH,outV,retK,ret1,retC,RetV,Option.getD,runD,stepD,afterK,undef,simprocAttr,sxB,↓sxD,sxE,sxTab]);rfl):p:=Stop.mk (Eq.mpr e h)
end Go.Proofs.YtiipiciemgdaeaaGreat.Sx
