/- Part 29 of the texts of this claim: a symbolic executor and contracts of functions. -/
import Derived.Test.YtjapnklocibgaaaOCiRCLimG
namespace Go.Proofs.Ytjapnklocibgaaa.Sx
open Go Go.RowKit
set_option linter.unusedVariables false
set_option linter.unusedSimpArgs false
set_option maxRecDepth 100000
set_option maxHeartbeats 8000000
attribute [local congr] fin_congr finG_congr stepG_congr step1_congr runOps_congr brv_congr obl_congr condK_congr LoopK_congr seqK_congr CutK_congr vc_congr DrawK_congr regK_congr CallK_congr AskK_congr newK_congr retC_congr ret1_congr retK_congr outV_congr closeK_congr genR_congr appR_congr finD_congr finGD_congr stepGD_congr stepD_congr CallK0_congr runD_congr okR_congr CallS_congr vcX_congr
attribute [local congr] Stop_congr
theorem nrm_plain{y:Nat}(hy:1<(ofN y).length):∃s,s=32-blen ((ofN y)[(ofN y).length-1]'(by omega))∧s<32∧(ofN (y*2^s)).length=(ofN y).length∧∀h:(ofN y).length-1<(ofN (y*2^s)).length,2147483648≤(ofN (y*2^s))[(ofN y).length-1]:=by
 have ht:=trimmed_ofN y (by omega)
 have ho:=ofN_ok_at (n:=y) (show (ofN y).length-1<(ofN y).length by omega)
 have hsp:=valN_cut (ofN y) (show (ofN y).length-1≤(ofN y).length by omega)
 rw[valN_drop (show (ofN y).length-1<(ofN y).length by omega),List.drop_of_length_le (by omega),valN_ofN]at hsp
 have hr:=valN_lt (okN_take (okN_ofN y) ((ofN y).length-1))
 rw[List.length_take,Nat.min_eq_left (by omega)]at hr
 generalize (ofN y)[(ofN y).length-1]=t at *
 generalize valN ((ofN y).take ((ofN y).length-1))=R at *
 simp only[valN,Nat.mul_zero,Nat.add_zero]at hsp
 generalize hL:(ofN y).length=L at *
 refine ⟨32-blen t,rfl,?_,?_,?_⟩
 ·have:=(blen_iff 0 t).1
  rcases Nat.eq_zero_or_pos (blen t) with h|h
  ·have:=this (by omega);simp at this;omega
  ·have:=(blen_iff 32 t).2 (by omega);omega
 all_goals
  have hb1:t<2^blen t:=(blen_iff (blen t) t).1 (Nat.le_refl _)
  have hb32:=(blen_iff 32 t).2 (by omega)
  have hbp:0<blen t:=by
   rcases Nat.eq_zero_or_pos (blen t) with h|h
   ·have:=(blen_iff 0 t).1 (by omega);simp at this;omega
   ·exact h
  have hb2:2^(blen t-1)≤t:=by
   rcases Nat.lt_or_ge t (2^(blen t-1)) with h|h
   ·have:=(blen_iff (blen t-1) t).2 h;omega
   ·exact h
  have hs1:2^blen t*2^(32-blen t)=4294967296:=by rw[←Nat.pow_add,show blen t+(32-blen t)=32 by omega]
  have hs2:2^(blen t-1)*2^(32-blen t)=2147483648:=by rw[←Nat.pow_add,show blen t-1+(32-blen t)=31 by omega]
  have hps:=Nat.two_pow_pos (32-blen t)
  generalize hp2:2^(32-blen t)=p2 at *
  have hwp:=wN_pos (L-1)
  have hwL:wN L=4294967296*wN (L-1):=by rw[←wN_succ,show L-1+1=L by omega]
  have hup:y*p2<wN L:=by
   have a1:(t+1)*p2≤4294967296:=by rw[←hs1];exact Nat.mul_le_mul_right p2 hb1
   have a2:y<wN (L-1)*(t+1):=by rw[Nat.mul_add,Nat.mul_one];omega
   have a3:y*p2<wN (L-1)*(t+1)*p2:=Nat.mul_lt_mul_of_pos_right a2 hps
   have a4:=Nat.mul_le_mul_left (wN (L-1)) a1
   rw[←Nat.mul_assoc]at a4
   rw[hwL,Nat.mul_comm 4294967296]
   omega
  have hlow:wN (L-1)*2147483648≤y*p2:=by
   have a1:2147483648≤t*p2:=by rw[←hs2];exact Nat.mul_le_mul_right p2 hb2
   have a2:=Nat.mul_le_mul_left (wN (L-1)) a1
   have a3:wN (L-1)*t*p2≤y*p2:=Nat.mul_le_mul_right p2 (by omega)
   rw[←Nat.mul_assoc]at a2
   omega
 ·have h1:=ofN_len_le hup
  have h2:=len_mono (Nat.le_mul_of_pos_right y hps)
  rw[hL]at h2
  omega
 ·intro h
  have h1:=ofN_len_le hup
  have hsp2:=valN_cut (ofN (y*p2)) (show L-1≤(ofN (y*p2)).length by omega)
  rw[valN_drop h,List.drop_of_length_le (by omega),valN_ofN]at hsp2
  have hr2:=valN_lt (okN_take (okN_ofN (y*p2)) (L-1))
  rw[List.length_take,Nat.min_eq_left (by omega)]at hr2
  generalize (ofN (y*p2))[L-1]=t2 at *
  generalize valN ((ofN (y*p2)).take (L-1))=R2 at *
  simp only[valN,Nat.mul_zero,Nat.add_zero]at hsp2
  rcases Nat.lt_or_ge t2 2147483648 with h3|h3
  ·exfalso
   have:=Nat.mul_le_mul_left (wN (L-1)) (show t2+1≤2147483648 by omega)
   rw[Nat.mul_add,Nat.mul_one]at this
   omega
  ·exact h3
structure DivI (V j m L:Nat) (U0 U Q:List Nat):Prop where
 lu:U.length=L
 ou:okN U
 lq:Q.length=m
 oq:okN Q
 lt:valN (U.drop j)<V
 tk:U.take j=U0.take j
 eq:valN (U0.drop j)=V*valN (Q.drop j)+valN (U.drop j)
theorem div_start{V m L n:Nat}{U0:List Nat}(hl:U0.length=L)(ho:okN U0)(hL:m+n=L)(h:valN U0<V*wN m):DivI V m m L U0 U0 (List.replicate m 0):=by
 refine ⟨hl,ho,by simp,okN_rep m,?_,rfl,?_⟩
 ·rw[valN_drop_div ho (by omega),Nat.div_lt_iff_lt_mul (wN_pos m)];exact h
 ·rw[List.drop_of_length_le (by simp:(List.replicate m 0).length≤m)];simp[valN]
theorem div_part{V i m L n:Nat}{U0 U Q:List Nat}(h:DivI V (i+1) m L U0 U Q)(hV:V<wN n)(hi:i+(n+1)≤L) :
  U=U.take i++((U.drop i).take (n+1)++U.drop (i+(n+1)))∧((U.drop i).take (n+1)).length=n+1∧valN ((U.drop i).take (n+1))<4294967296*V∧valN (U.drop (i+(n+1)))=0∧valN (U.drop i)=valN ((U.drop i).take (n+1)):=by
 have hlu:=h.lu
 have hlt:=h.lt
 have hat:=okN_at h.ou (show i<U.length by omega)
 have hd:=valN_drop (show i<U.length by omega)
 have hU:U=U.take i++((U.drop i).take (n+1)++U.drop (i+(n+1))):=by
  rw[←List.drop_drop,List.take_append_drop,List.take_append_drop]
 have hlen:((U.drop i).take (n+1)).length=n+1:=by rw[List.length_take,List.length_drop];omega
 have hsp:=valN_cut (U.drop i) (i:=n+1) (by rw[List.length_drop];omega)
 rw[List.drop_drop]at hsp
 have hlt2:valN (U.drop i)<4294967296*V:=by omega
 have hw:4294967296*V<wN (n+1):=by rw[wN_succ];omega
 have h0:valN (U.drop (i+(n+1)))=0:=by
  rcases Nat.eq_zero_or_pos (valN (U.drop (i+(n+1)))) with h0|h0
  ·exact h0
  ·exfalso
   have:=Nat.le_mul_of_pos_right (wN (n+1)) h0
   omega
 rw[h0,Nat.mul_zero,Nat.add_zero]at hsp
 exact ⟨hU,hlen,by omega,h0,hsp⟩
theorem div_step{V i m L n d:Nat}{U0 U Q C:List Nat}(h:DivI V (i+1) m L U0 U Q)(hV:V<wN n)(hi:i+(n+1)≤L)(hl0:U0.length=L)(him:i<m)(hC:C.length=n+1)(hoC:okN C)(h1:valN C+d*V=valN ((U.drop i).take (n+1)))(h2:valN C<V)(hd:d<4294967296) :
  DivI V i m L U0 (U.take i++(C++U.drop (i+(n+1)))) (Q.set i d):=by
 obtain ⟨hU,hlen,hlt,h0,hsp⟩:=div_part h hV hi
 have hlu:=h.lu
 have hlt':(U.take i).length=i:=by rw[List.length_take];omega
 have hdr:(U.take i++(C++U.drop (i+(n+1)))).drop i=C++U.drop (i+(n+1)):=by
  conv=>lhs;rw[show i=(U.take i).length from hlt'.symm]
  simp[hlt']
 have hv:valN ((U.take i++(C++U.drop (i+(n+1)))).drop i)=valN C:=by rw[hdr,valN_app,h0];omega
 refine ⟨?_,?_,by rw[List.length_set];exact h.lq,okN_set h.oq hd,by rw[hv];exact h2,?_,?_⟩
 ·rw[List.length_append,List.length_append,hlt',hC,List.length_drop];omega
 ·exact okN_app.2 ⟨okN_take h.ou i,okN_app.2 ⟨hoC,okN_drop h.ou _⟩⟩
 ·rw[List.take_append_of_le_length (by omega),List.take_take,Nat.min_self]
  have:=congrArg (List.take i) h.tk
  rw[List.take_take,List.take_take,Nat.min_eq_left (by omega)]at this
  exact this
 ·have hat:U0[i]'(by omega)=U[i]'(by omega):=by
   have e1:(U.take (i+1))[i]? = (U0.take (i+1))[i]?:=by rw[h.tk]
   rw[List.getElem?_take_of_lt (by omega),List.getElem?_take_of_lt (by omega),List.getElem?_eq_getElem (by omega),List.getElem?_eq_getElem (by omega)]at e1
   exact (Option.some.inj e1).symm
  rw[hv,valN_drop (show i<U0.length by omega),h.eq,hat,drop_set_self (by rw[h.lq];exact him)]
  rw[valN_drop (show i<U.length by omega)]at hsp
  generalize U[i]'(by omega)=a at *
  generalize valN (Q.drop (i+1))=q at *
  generalize valN (U.drop (i+1))=r at *
  rw[←hsp]at h1
  grind
theorem div_end{x y s m L:Nat}{U0 U Q:List Nat}(h:DivI (y*2^s) 0 m L U0 U Q)(hx:valN U0=x*2^s)(hy:0<y):valN Q=x / y∧valN U / 2^s=x % y:=by
 have h1:=h.eq
 have h2:=h.lt
 have hp:=Nat.two_pow_pos s
 simp only[List.drop_zero]at h1 h2
 rw[hx]at h1
 have hv:0<y*2^s:=Nat.mul_pos hy hp
 have e1:x*2^s / (y*2^s)=valN Q:=by rw[h1,Nat.mul_add_div hv,Nat.div_eq_of_lt h2,Nat.add_zero]
 have e2:x*2^s % (y*2^s)=valN U:=by rw[h1,Nat.mul_add_mod,Nat.mod_eq_of_lt h2]
 rw[Nat.mul_div_mul_right _ _ hp]at e1
 rw[Nat.mul_mod_mul_right]at e2
 exact ⟨e1.symm,by rw[←e2,Nat.mul_div_cancel _ hp]⟩
end Go.Proofs.Ytjapnklocibgaaa.Sx
