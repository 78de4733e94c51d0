/- Part 32 of the texts of this claim: a symbolic executor and contracts of functions. -/
import Derived.Test.YtiipiciemgdaeaaGreatCvTRCStr
import Derived.Shelf.Strings.Builder1
import Derived.Shelf.Strings.BuilderF
namespace Go.Proofs.YtiipiciemgdaeaaGreat.Sx
open Go Go.RowKit
set_option linter.unusedVariables false
set_option maxRecDepth 1000000
set_option maxHeartbeats 4000000
set_option linter.unusedVariables false
set_option linter.unusedSimpArgs false
set_option maxRecDepth 100000
set_option maxHeartbeats 8000000
attribute [local congr] fin_congr finG_congr stepG_congr step1_congr runOps_congr brv_congr obl_congr condK_congr LoopK_congr seqK_congr CutK_congr vc_congr DrawK_congr regK_congr CallK_congr AskK_congr newK_congr retC_congr ret1_congr retK_congr outV_congr closeK_congr genR_congr appR_congr finD_congr finGD_congr stepGD_congr stepD_congr CallK0_congr runD_congr okR_congr CallS_congr vcX_congr
theorem HeapIs.cell{ρ:Rho}{k:Nat}{T:TypeId}{cs:List AV}{H:Hp}{M:Mem}{w:World}{b:Blk}{off:Nat}{v:AV}{u:Value}(h:HeapIs ρ ((k,T,cs) :: H) M w)(hk:lkH H k=none)(hb:ρ k=some b)(ho:off<cs.length)(hv:v.is ρ u) :
  HeapIs ρ ((k,T,cs.set off v) :: H) M (w.setCell ⟨b.b,off,none⟩ u)∧Same b.b w (w.setCell ⟨b.b,off,none⟩ u):=by
 have hs:=same_setCell b.b off w u
 refine ⟨⟨?_,?_,?_,?_⟩,hs⟩
 ·intro k' T' cs' b' hk' hb'
  by_cases e:k=k'
  ·subst e
   simp only[lkH,if_true,Option.some.injEq,Prod.mk.injEq]at hk'
   obtain ⟨rfl,rfl⟩:=hk'
   rw[hb]at hb'
   obtain rfl:=Option.some.inj hb'
   obtain ⟨⟨arr,r⟩,h2⟩:=h.hp k T cs b (by simp[lkH]) hb
   have ht:=heap_setCell (b:=b.b) (o:=off) w u r.there
   refine ⟨⟨arr.setIfInBounds off u,ht,by simp[r.size],by simp;exact r.le,fun i x hi=>?_⟩,h2⟩
   have hlt:off<arr.size:=by have:=r.le;rw[r.size];omega
   rw[List.getElem?_set]at hi
   split at hi
   ·rename_i e
    subst e
    obtain rfl:=Option.some.inj hi
    have:(arr.setIfInBounds off u).getD off undef=u:=by simp[Array.getD_eq_getD_getElem?,hlt]
    rw[this];exact hv
   ·rename_i e
    have:(arr.setIfInBounds off u).getD i undef=arr.getD i undef:=by simp[Array.getD_eq_getD_getElem?,Array.getElem?_setIfInBounds,e]
    rw[this];exact r.is i x hi
  ·have hk2:lkH ((k,T,cs) :: H) k'=some (T',cs'):=by
    simp only[lkH,if_neg e]at hk' ⊢;exact hk'
   obtain ⟨⟨arr,r⟩,h2⟩:=h.hp k' T' cs' b' hk2 hb'
   have hne:b'.b≠b.b:=fun e2=>e (h.inj k k' b b' (by simp[lkH]) (by rw[hk2];rfl) hb hb' e2.symm)
   exact ⟨⟨arr,r.same hs hne⟩,h2⟩
 ·intro k' T' cs' hk' hn
  by_cases e:k=k'
  ·subst e;rw[hb]at hn;cases hn
  ·exact h.no k' T' cs' (by simp only[lkH,if_neg e]at hk' ⊢;exact hk') hn
 ·intro k1 k2 b1 b2 h1 h2 h3 h4 h5
  have key:∀j,(lkH ((k,T,cs.set off v) :: H) j).isSome=true→(lkH ((k,T,cs) :: H) j).isSome=true:=fun j hj=>by
   by_cases e:k=j
   ·simp[lkH,e]
   ·simp only[lkH,if_neg e]at hj ⊢;exact hj
  exact h.inj k1 k2 b1 b2 (key _ h1) (key _ h2) h3 h4 h5
 ·intro x o hx
  have h2:=(h.hp k T cs b (by simp[lkH]) hb).2
  rw[hs.block x (fun e=>by rw[e,h2]at hx;cases hx)]
  exact h.sub x o hx
section
variable {M:Mem}{K:AV→Hp→Mem→Prop}
theorem CallS.order{P:Program}{f:FuncId}{args:List AV}{H H2:Hp}{mv:List Nat}(e:∀k,lkH H k=lkH H2 k)(h:CallS P f args H M mv fun v H' M'=>∃H3,(∀k,lkH H' k=lkH H3 k)∧K v H3 M'):CallS P f args H2 M mv K:=fun ρ w us hw hus=>
 (h ρ w us (hw.eqv fun k=>(e k).symm) hus).mono fun r w' ⟨u,v,H',M',ρ',h1,⟨H3,e3,h2⟩,h3⟩=>⟨u,v,H3,M',ρ',h1,h2,
  ⟨h3.is,h3.heap.eqv e3,fun k hk=>by rw[←e3];exact h3.keep k (by rw[e];exact hk),fun k hk=>h3.same k (by rw[e,e3];exact hk),fun k hk=>⟨(h3.ment k (by rw[e3];exact hk)).1,fun j T cs hj=>(h3.ment k (by rw[e3];exact hk)).2 j T cs ((e3 j).trans hj)⟩,
   fun k b hk hb=>by
    rcases h3.fresh k b (by rw[e3];exact hk) hb with h|⟨j,x,hj,h⟩
    ·exact .inl h
    ·exact .inr ⟨j,x,by rw[←e];exact hj,h⟩,h3.os,h3.tape,h3.output,h3.size,fun b hb hne=>h3.block b hb fun k x hk=>hne k x (by rw[←e];exact hk),h3.le,h3.mem⟩⟩
theorem le_nilH{s:St}(k i K:Nat)(T TT:TypeId)(cs:List AV)(zz:Nat)(h0:lkH s.hp k=some (TT,cs))(h1:cs[i]? = some (.ext (.slice none 0 0)))(h2:awayP K s):Le s {env:=s.env,hp:=(K,T,[]) :: upH s.hp k (cs.set i (.slo K 0 0 zz)),M:=s.M,kb:=s.kb,fx:=s.fx,fr:=s.fr}:=fun c n ρ av w g=>by
 have hkK:k≠K:=(awayP_hp h2 k TT cs h0).1
 have hlk:∀j x,lkH ((K,T,[]) :: upH s.hp k (cs.set i (.slo K 0 0 zz))) j=some x→(j=K∧x=(T,[]))∨(j≠K∧j≠k∧lkH s.hp j=some x)∨(j=k∧x=(TT,cs.set i (.slo K 0 0 zz))):=fun j x hj=>by
  simp only[lkH]at hj
  by_cases e:K=j
  ·rw[if_pos e]at hj;exact .inl ⟨e.symm,(Option.some.inj hj).symm⟩
  ·rw[if_neg e,lkH_upH]at hj
   by_cases e2:k=j
   ·rw[if_pos e2,h0]at hj
    exact .inr (.inr ⟨e2.symm,(Option.some.inj hj).symm⟩)
   ·rw[if_neg e2]at hj
    exact .inr (.inl ⟨fun h=>e h.symm,fun h=>e2 h.symm,hj⟩)
 have hsome:∀j,j≠K→(lkH ((K,T,[]) :: upH s.hp k (cs.set i (.slo K 0 0 zz))) j).isSome=true→(lkH s.hp j).isSome=true:=fun j hj h=>by
  obtain ⟨x,hx⟩:=Option.isSome_iff_exists.1 h
  rcases hlk j x hx with ⟨h,_⟩|⟨_,_,h⟩|⟨h,_⟩
  ·exact absurd h hj
  ·rw[h];rfl
  ·rw[h,h0];rfl
 refine ⟨upd ρ K none,{df:=g.df,sz:=g.sz,env:=fun t'=>is_upd (awayP_env h2 t') (g.env t'),hp:=fun j T' cs' b hj hb=>?_,no:=fun j T' cs' hj hb=>?_,inj:=fun j j' b b' hj hj' hb hb' e=>?_,os:=g.os,tape:=g.tape,output:=g.output,size:=g.size,block:=g.block,sub:=g.sub,le:=g.le,mf:=g.mf,fix:=fun j hj=>?_,fx:=fun j hj=>?_,kl:=g.kl,fr:=g.fr}⟩
 ·rcases hlk j _ hj with ⟨rfl,hx⟩|⟨hne,hne2,hx⟩|⟨rfl,hx⟩
  ·rw[upd_self]at hb;cases hb
  ·rw[upd_ne _ _ hne]at hb
   obtain ⟨⟨arr,f1⟩,f2⟩:=g.hp j T' cs' b hx hb
   exact ⟨⟨arr,f1.there,f1.size,f1.le,fun i v hv=>is_upd (fun hm=>(awayP_hp h2 j T' cs' hx).2 (mentL_get hv hm)) (f1.is i v hv)⟩,f2⟩
  ·rw[upd_ne _ _ hkK]at hb
   cases hx
   obtain ⟨⟨arr,f1⟩,f2⟩:=g.hp j TT cs b h0 hb
   refine ⟨⟨arr,f1.there,f1.size,by rw[List.length_set];exact f1.le,fun i' v hv=>?_⟩,f2⟩
   rw[List.getElem?_set]at hv
   split at hv
   ·rename_i e
    subst e
    split at hv
    ·obtain rfl:=Option.some.inj hv
     have:=f1.is i _ h1
     exact .inr ⟨rfl,none,(fun x e=>by cases e),this⟩
    ·cases hv
   ·exact is_upd (fun hm=>(awayP_hp h2 j TT cs h0).2 (mentL_get hv hm)) (f1.is i' v hv)
 ·rcases hlk j _ hj with ⟨rfl,hx⟩|⟨hne,hne2,hx⟩|⟨rfl,hx⟩
  ·cases hx;rfl
  ·rw[upd_ne _ _ hne]at hb;exact g.no j T' cs' hx hb
  ·rw[upd_ne _ _ hkK]at hb
   have:=g.no j TT cs h0 hb
   subst this
   cases h1
 ·by_cases e1:j=K
  ·rw[e1,upd_self]at hb;cases hb
  ·by_cases e2:j'=K
   ·rw[e2,upd_self]at hb';cases hb'
   ·rw[upd_ne _ _ e1]at hb
    rw[upd_ne _ _ e2]at hb'
    exact g.inj j j' b b' (hsome j e1 hj) (hsome j' e2 hj') hb hb' e
 ·have:=g.fix j hj
  simp only[lkH]
  split
  ·rfl
  ·rw[lkH_upH]
   split
   ·simpa using by rename_i e;rw[←e]at this;exact this
   ·exact this
 ·rw[upd_ne _ _ fun e=>awayP_fx h2 (by rw[←e];exact hj)];exact g.fx j hj
end
end Go.Proofs.YtiipiciemgdaeaaGreat.Sx
