/- Part 32 of the texts of this claim: a symbolic executor and contracts of functions. -/
import Derived.Test.YtjapnklocibgaaaOCiRCStr
import Derived.Shelf.Strings.Builder1
import Derived.Shelf.Strings.BuilderF
namespace Go.Proofs.Ytjapnklocibgaaa.Sx
open Go Go.RowKit
set_option linter.unusedVariables false
set_option maxRecDepth 1000000
set_option maxHeartbeats 4000000
set_option linter.unusedVariables false
set_option linter.unusedSimpArgs false
set_option maxRecDepth 100000
set_option maxHeartbeats 8000000
attribute [local congr] fin_congr finG_congr stepG_congr step1_congr runOps_congr brv_congr obl_congr condK_congr LoopK_congr seqK_congr CutK_congr vc_congr DrawK_congr regK_congr CallK_congr AskK_congr newK_congr retC_congr ret1_congr retK_congr outV_congr closeK_congr genR_congr appR_congr finD_congr finGD_congr stepGD_congr stepD_congr CallK0_congr runD_congr okR_congr CallS_congr vcX_congr
theorem HeapIs.cell{ρ:Rho}{k:Nat}{T:TypeId}{cs:List AV}{H:Hp}{M:Mem}{w:World}{b:Blk}{off:Nat}{v:AV}{u:Value}(h:HeapIs ρ ((k,T,cs) :: H) M w)(hk:lkH H k=none)(hb:ρ k=some b)(ho:off<cs.length)(hv:v.is ρ u) :
  HeapIs ρ ((k,T,cs.set off v) :: H) M (w.setCell ⟨b.b,off,none⟩ u)∧Same b.b w (w.setCell ⟨b.b,off,none⟩ u):=by
 have hs:=same_setCell b.b off w u
 refine ⟨⟨?_,?_,?_,?_⟩,hs⟩
 ·intro k' T' cs' b' hk' hb'
  by_cases e:k=k'
  ·subst e
   simp only[lkH,if_true,Option.some.injEq,Prod.mk.injEq]at hk'
   obtain ⟨rfl,rfl⟩:=hk'
   rw[hb]at hb'
   obtain rfl:=Option.some.inj hb'
   obtain ⟨⟨arr,r⟩,h2⟩:=h.hp k T cs b (by simp[lkH]) hb
   have ht:=heap_setCell (b:=b.b) (o:=off) w u r.there
   refine ⟨⟨arr.setIfInBounds off u,ht,by simp[r.size],by simp;exact r.le,fun i x hi=>?_⟩,h2⟩
   have hlt:off<arr.size:=by have:=r.le;rw[r.size];omega
   rw[List.getElem?_set]at hi
   split at hi
   ·rename_i e
    subst e
    obtain rfl:=Option.some.inj hi
    have:(arr.setIfInBounds off u).getD off undef=u:=by simp[Array.getD_eq_getD_getElem?,hlt]
    rw[this];exact hv
   ·rename_i e
    have:(arr.setIfInBounds off u).getD i undef=arr.getD i undef:=by simp[Array.getD_eq_getD_getElem?,Array.getElem?_setIfInBounds,e]
    rw[this];exact r.is i x hi
  ·have hk2:lkH ((k,T,cs) :: H) k'=some (T',cs'):=by
    simp only[lkH,if_neg e]at hk' ⊢;exact hk'
   obtain ⟨⟨arr,r⟩,h2⟩:=h.hp k' T' cs' b' hk2 hb'
   have hne:b'.b≠b.b:=fun e2=>e (h.inj k k' b b' (by simp[lkH]) (by rw[hk2];rfl) hb hb' e2.symm)
   exact ⟨⟨arr,r.same hs hne⟩,h2⟩
 ·intro k' T' cs' hk' hn
  by_cases e:k=k'
  ·subst e;rw[hb]at hn;cases hn
  ·exact h.no k' T' cs' (by simp only[lkH,if_neg e]at hk' ⊢;exact hk') hn
 ·intro k1 k2 b1 b2 h1 h2 h3 h4 h5
  have key:∀j,(lkH ((k,T,cs.set off v) :: H) j).isSome=true→(lkH ((k,T,cs) :: H) j).isSome=true:=fun j hj=>by
   by_cases e:k=j
   ·simp[lkH,e]
   ·simp only[lkH,if_neg e]at hj ⊢;exact hj
  exact h.inj k1 k2 b1 b2 (key _ h1) (key _ h2) h3 h4 h5
 ·intro x o hx
  have h2:=(h.hp k T cs b (by simp[lkH]) hb).2
  rw[hs.block x (fun e=>by rw[e,h2]at hx;cases hx)]
  exact h.sub x o hx
section
variable {M:Mem}{K:AV→Hp→Mem→Prop}
theorem CallS.order{P:Program}{f:FuncId}{args:List AV}{H H2:Hp}{mv:List Nat}(e:∀k,lkH H k=lkH H2 k)(h:CallS P f args H M mv fun v H' M'=>∃H3,(∀k,lkH H' k=lkH H3 k)∧K v H3 M'):CallS P f args H2 M mv K:=fun ρ w us hw hus=>
 (h ρ w us (hw.eqv fun k=>(e k).symm) hus).mono fun r w' ⟨u,v,H',M',ρ',h1,⟨H3,e3,h2⟩,h3⟩=>⟨u,v,H3,M',ρ',h1,h2,
  ⟨h3.is,h3.heap.eqv e3,fun k hk=>by rw[←e3];exact h3.keep k (by rw[e];exact hk),fun k hk=>h3.same k (by rw[e,e3];exact hk),fun k hk=>⟨(h3.ment k (by rw[e3];exact hk)).1,fun j T cs hj=>(h3.ment k (by rw[e3];exact hk)).2 j T cs ((e3 j).trans hj)⟩,
   fun k b hk hb=>by
    rcases h3.fresh k b (by rw[e3];exact hk) hb with h|⟨j,x,hj,h⟩
    ·exact .inl h
    ·exact .inr ⟨j,x,by rw[←e];exact hj,h⟩,h3.os,h3.tape,h3.output,h3.size,fun b hb hne=>h3.block b hb fun k x hk=>hne k x (by rw[←e];exact hk),h3.le,h3.mem⟩⟩
end
end Go.Proofs.Ytjapnklocibgaaa.Sx
