/- Part 4 of the texts of this claim: a symbolic executor and contracts of functions. -/
import Derived.Test.YtjapnklocibgaaaOCiRCVal
namespace Go.Proofs.Ytjapnklocibgaaa.Sx
open Go Go.RowKit
set_option linter.unusedVariables false
set_option linter.unusedSimpArgs false
mutual
theorem is_agree{ρ ρ':Rho}:∀{v:AV} {u:Value},(∀k∈v.ment,ρ k=ρ' k)→v.is ρ u→v.is ρ' u
 | .ext v,u,h,hv=>hv
 | .gd g v,u,h,hv=>hv
 | .own k o,u,h,hv=>by obtain ⟨b,hb,e⟩:=hv;exact ⟨b,by rw[←h k (by simp[AV.ment])];exact hb,e⟩
 | .gown g k o,u,h,hv=>by
  have hv:if g=true then ∃b,ρ k=some b∧u=ptr b.b o else u=undef:=hv
  show if g=true then ∃b,ρ' k=some b∧u=ptr b.b o else u=undef
  rw[←h k (by simp[AV.ment])];exact hv
 | .slo k o n z,u,h,hv=>by
  rcases hv with ⟨b,cap,hb,e⟩|h2
  ·exact .inl ⟨b,cap,by rw[←h k (by simp[AV.ment])];exact hb,e⟩
  ·exact .inr h2
 | .fn f l,u,h,hv=>by obtain ⟨us,h1,e⟩:=hv;exact ⟨us,isL_agree (fun k hk=>h k (by simp only[AV.ment];exact hk)) h1,e⟩
 | .bm f l,u,h,hv=>by obtain ⟨us,h1,e⟩:=hv;exact ⟨us,isL_agree (fun k hk=>h k (by simp only[AV.ment];exact hk)) h1,e⟩
 | .ag t l,u,h,hv=>by obtain ⟨us,h1,e⟩:=hv;exact ⟨us,isL_agree (fun k hk=>h k (by simp only[AV.ment];exact hk)) h1,e⟩
 | .unk,u,h,hv=>trivial
theorem isL_agree{ρ ρ':Rho}:∀{l:List AV} {us:List Value},(∀k∈mentL l,ρ k=ρ' k)→isL ρ l us→isL ρ' l us
 | [],us,h,hv=>hv
 | v :: l,us,h,hv=>by
  obtain ⟨u,r,e,h1,h2⟩:=hv
  exact ⟨u,r,e,is_agree (fun k hk=>h k (by simp only[mentL,List.mem_append];exact .inl hk)) h1,isL_agree (fun k hk=>h k (by simp only[mentL,List.mem_append];exact .inr hk)) h2⟩
end
theorem mentL_get{k:Nat}:∀{l:List AV} {i:Nat} {v:AV},l[i]? = some v→k∈v.ment→k∈mentL l
 | [],i,v,h,_=>by simp at h
 | x :: r,0,v,h,hk=>by simp at h;subst h;simp[mentL,hk]
 | x :: r,i+1,v,h,hk=>by simp at h;simp only[mentL,List.mem_append];exact .inr (mentL_get h hk)
theorem mentL_mem{k:Nat}:∀{l:List AV},k∈mentL l→∃v∈l,k∈v.ment
 | x :: r,h=>by
  simp only[mentL,List.mem_append]at h
  rcases h with h|h
  ·exact ⟨x,by simp,h⟩
  ·obtain ⟨v,h1,h2⟩:=mentL_mem h;exact ⟨v,by simp[h1],h2⟩
theorem mentL_of{k:Nat}{l:List AV}{v:AV}(hv:v∈l)(hk:k∈v.ment):k∈mentL l:=by
 obtain ⟨i,hi⟩:=List.mem_iff_getElem?.1 hv
 exact mentL_get hi hk
theorem mentL_append(l m:List AV):mentL (l++m)=mentL l++mentL m:=by
 induction l with
 | nil=>rfl
 | cons v r ih=>simp[mentL,ih]
theorem mentL_ext:∀l:List Value,mentL (l.map .ext)=[]
 | []=>rfl
 | v :: r=>by simp[mentL,AV.ment,mentL_ext r]
theorem mentL_extf{α:Type}(f:α→Value):∀l:List α,mentL (l.map fun x=>.ext (f x))=[]
 | []=>rfl
 | v :: r=>by simp[mentL,AV.ment,mentL_extf f r]
theorem hasK_iff{k:Nat}:∀{l:List Nat},hasK k l=true↔k∈l
 | []=>by simp[hasK]
 | j :: r=>by
  simp only[hasK,Bool.or_eq_true,beq_iff_eq,List.mem_cons,hasK_iff (l:=r)]
  constructor
  ·rintro (h|h)
   ·exact .inl h.symm
   ·exact .inr h
  ·rintro (h|h)
   ·exact .inl h.symm
   ·exact .inr h
theorem hasK_no{k:Nat}{l:List Nat}:hasK k l=false↔k∉l:=by
 rw[←hasK_iff];simp
theorem mentE_lk{k:Nat}:∀{e:Env} {t:Nat},k∈(lk e t).ment→k∈mentE e
 | [],t,h=>by simp[lk,AV.ment]at h
 | (d,v) :: r,t,h=>by
  simp only[lk]at h
  simp only[mentE,List.mem_append]
  split at h
  ·exact .inl h
  ·exact .inr (mentE_lk h)
theorem mentH_lk{k:Nat}:∀{H:Hp} {j:Nat} {T:TypeId} {cs:List AV},lkH H j=some (T,cs)→(k=j∨k∈mentL cs)→k∈mentH H
 | (i,T',ds) :: r,j,T,cs,h,hk=>by
  simp only[lkH]at h
  simp only[mentH,List.mem_cons,List.mem_append]
  split at h
  ·rename_i e
   simp only[Option.some.injEq,Prod.mk.injEq]at h
   obtain ⟨rfl,rfl⟩:=h
   rcases hk with rfl|hk
   ·exact .inl e.symm
   ·exact .inr (.inl hk)
  ·exact .inr (.inr (mentH_lk h hk))
theorem awayP_S{k:Nat}{s:St}(h:awayP k s):AwayS k s:=by
 rcases h with h|h
 ·simp only[awayB,Bool.and_eq_true,Bool.not_eq_true']at h
  obtain ⟨h1,h2,h3⟩:=h
  exact ⟨fun t ht=>hasK_no.1 h1 (mentE_lk ht),fun j T cs hj=>⟨fun e=>hasK_no.1 h2 (mentH_lk hj (.inl e.symm)),fun hk=>hasK_no.1 h2 (mentH_lk hj (.inr hk))⟩,hasK_no.1 h3⟩
 ·exact h
theorem awayP_env{k:Nat}{s:St}(h:awayP k s):∀t,k∉(lk s.env t).ment:=(awayP_S h).env
theorem awayP_hp{k:Nat}{s:St}(h:awayP k s):∀j T cs,lkH s.hp j=some (T,cs)→j≠k∧k∉mentL cs:=(awayP_S h).hp
theorem awayP_fx{k:Nat}{s:St}(h:awayP k s):k∉s.fx:=(awayP_S h).fx
section
variable {ρ:Rho}
theorem norm_is{v:AV}{u:Value}(h:v.is ρ u):(normA v).is ρ u:=by
 cases v with
 | gd g x=>
  have h:u=if g=true then x else undef:=h
  cases g
  ·exact h
  ·exact h
 | gown g k off=>
  cases g
  ·exact h
  ·exact h
 | _=>exact h
theorem isL_norm:∀{l:List AV} {us:List Value},isL ρ l us→isL ρ (normL l) us
 | [],_,h=>h
 | _ :: _,_,h=>by obtain ⟨u,r,e,h1,h2⟩:=h;exact ⟨u,r,e,norm_is h1,isL_norm h2⟩
end
theorem normA_ment{v:AV}:(normA v).ment=v.ment:=by
 cases v with
 | gd g x=>cases g<;>simp[normA,normG,AV.ment]
 | gown g k o=>cases g<;>simp[normA,normP,AV.ment]
 | _=>rfl
theorem mentL_norm:∀l:List AV,mentL (normL l)=mentL l
 | []=>rfl
 | v :: r=>by simp[normL,mentL,normA_ment,mentL_norm r]
section
variable {P:Program}{c:Cx}{n:Nat}{s:St}{ρ:Rho}{a:Act}{w:World}
theorem Gam.ev(h:Gam c n s ρ a w)(x:Operand):(ev s x).is ρ (a.eval x):=by
 cases x with
 | tmp t=>exact h.env t
 | const v=>rfl
 | global g=>rfl
 | func f=>exact ⟨[],rfl,rfl⟩
theorem gam_isL(h:Gam c n s ρ a w):∀xs:List Operand,isL ρ (xs.map (ev s)) (xs.map a.eval)
 | []=>rfl
 | x :: r=>⟨_,_,rfl,h.ev x,gam_isL h r⟩
theorem Row.lt{T:TypeId}{cs:List AV}{b:Blk}{arr:Array Value}(h:Row ρ w T cs b arr):b.b<w.heap.size:=(Array.getElem?_eq_some_iff.1 h.there).1
theorem Gam.lt(h:Gam c n s ρ a w){k:Nat}{b:Blk}{x:TypeId×List AV}(hk:lkH s.hp k=some x)(hb:ρ k=some b):b.b<w.heap.size:=by
 obtain ⟨⟨arr,h1⟩,_⟩:=h.hp k x.1 x.2 b hk hb
 exact h1.lt
theorem cell_of{b:Nat}{arr:Array Value}{T:TypeId}{f:Nat×Nat}(h:w.heap[b]? = some (.cells arr T f))(off:Nat):w.cell? ⟨b,off,none⟩=arr[off]?:=by
 simp[World.cell?,h]
theorem Row.cell{T:TypeId}{cs:List AV}{b:Blk}{arr:Array Value}(h:Row ρ w T cs b arr){i:Nat}(hi:i<b.n):w.cell? ⟨b.b,i,none⟩=some (arr.getD i undef):=by
 rw[cell_of h.there]
 have:i<arr.size:=by rw[h.size];exact hi
 simp[Array.getD,this]
theorem Row.part{T:TypeId}{cs:List AV}{b:Blk}{arr:Array Value}(h:Row ρ w T cs b arr){off m:Nat}(ho:off+m≤cs.length):isL ρ ((cs.drop off).take m) ((arr.toList.drop off).take m):=by
 have h1:=h.le
 have h2:=h.size
 refine isL_of (by simp;omega) fun i v hv=>?_
 have hi:i<m:=by
  have:=(List.getElem?_eq_some_iff.1 hv).1
  simp at this;omega
 rw[List.getElem?_take_of_lt hi,List.getElem?_drop]at hv
 have h3:=h.is _ _ hv
 have h4:off+i<arr.size:=by
  have:=(List.getElem?_eq_some_iff.1 hv).1
  omega
 have h5:((arr.toList.drop off).take m).getD i undef=arr.getD (off+i) undef:=by
  rw[List.getD_eq_getElem?_getD,List.getElem?_take_of_lt hi,List.getElem?_drop]
  simp[Array.getD,h4]
 rw[h5];exact h3
theorem load_ok{off:Nat}{T Tb:TypeId}{cs:List AV}{b:Blk}{arr:Array Value}{ob:Prop}{v:AV}(hr:loadR P T cs off=.put ob v)(ho:ob)(hb:Row ρ w Tb cs b arr) :
  ∃u,(Instr.loadAt T (ptr b.b off)).run P w=.ok u w∧v.is ρ u:=by
 unfold loadR at hr
 split at hr
 ·rename_i m hk hs
  simp only[Res.put.injEq]at hr
  obtain ⟨rfl,rfl⟩:=hr
  obtain ⟨d,hd,hrow⟩:=kindT_true hk
  have h1:=hb.le
  have h2:=hb.size
  have hlen:((arr.toList.drop off).take m).length=m:=by simp;omega
  refine ⟨.agg ((arr.toList.drop off).take m).toArray,?_,aggA_ok (hb.part ho)⟩
  refine run_loadAt_mid w b.b off T _ d ?_ hd hrow (by unfold szO at hs;rw[hs,hlen])
  intro j u hj
  have hjl:j<m:=by have:=(List.getElem?_eq_some_iff.1 hj).1;omega
  rw[List.getElem?_take_of_lt hjl,List.getElem?_drop]at hj
  rw[cell_of hb.there]
  simpa using hj
 ·rename_i m hk hs
  split at hr
  ·rename_i u hu
   simp only[Res.put.injEq]at hr
   obtain ⟨rfl,rfl⟩:=hr
   have hin:off<cs.length:=(List.getElem?_eq_some_iff.1 hu).1
   have hcell:=hb.cell (i:=off) (Nat.lt_of_lt_of_le hin hb.le)
   refine ⟨arr.getD off undef,?_,hb.is off _ hu⟩
   simp only[Instr.loadAt,ptr,Instr.sureAddr,Sem.run_bind,Sem.run_pure,Result.andThen_ok,loadVar,kindT_false hk,Bool.false_eq_true,if_false,load,Sem.run,hcell]
  ·cases hr
 ·cases hr
theorem cellM_ok{M:Mem}{b i:Nat}{v:Value}(hs:Sub M w)(h:cellM M b i=some v):w.cell? ⟨b,i,none⟩=some v:=by
 unfold cellM at h
 split at h
 ·rename_i arr e f hb
  rw[cell_of (hs _ _ hb)];exact h
 ·cases h
theorem rowM_ok{M:Mem}{b:Nat}(hs:Sub M w):∀{m i:Nat} {l:List Value},rowM M b i m=some l→l.length=m∧∀j u,l[j]? = some u→w.cell? ⟨b,i+j,none⟩=some u
 | 0,i,l,h=>by simp only[rowM,Option.some.injEq]at h;subst h;simp
 | m+1,i,l,h=>by
  simp only[rowM]at h
  split at h
  ·rename_i v r h1 h2
   simp only[Option.some.injEq]at h
   subst h
   obtain ⟨h3,h4⟩:=rowM_ok hs h2
   refine ⟨by simp[h3],fun j u hj=>?_⟩
   cases j with
   | zero=>simp at hj;subst hj;exact cellM_ok hs h1
   | succ j=>
    have:=h4 j u (by simpa using hj)
    rw[show i+(j+1)=i+1+j by omega];exact this
  ·cases h
theorem lookM_ok{M:Mem}{T:TypeId}{u v:Value}(hs:Sub M w)(h:lookM P T M u=some v):(Instr.loadAt T u).run P w=.ok v w:=by
 unfold lookM at h
 split at h
 ·rename_i b off
  split at h
  ·rename_i m hk hz
   simp only[Option.map_eq_some_iff]at h
   obtain ⟨l,hl,rfl⟩:=h
   obtain ⟨d,hd,hrow⟩:=kindT_true hk
   obtain ⟨h1,h2⟩:=rowM_ok hs hl
   exact run_loadAt_mid w b off T l d h2 hd hrow (by unfold szO at hz;rw[hz,h1])
  ·rename_i m hk hz
   have hcell:=cellM_ok hs h
   simp only[Instr.loadAt,Instr.sureAddr,Sem.run_bind,Sem.run_pure,Result.andThen_ok,loadVar,kindT_false hk,Bool.false_eq_true,if_false,load,Sem.run,hcell]
  ·cases h
 ·cases h
theorem cellM_le{M M':Mem}(h:Mem.le M M'){b i:Nat}{v:Value}(hc:cellM M b i=some v):cellM M' b i=some v:=by
 unfold cellM at hc ⊢
 split at hc
 ·rename_i arr e f hb;rw[h _ _ hb];exact hc
 ·cases hc
theorem rowM_le{M M':Mem}(h:Mem.le M M'){b:Nat}:∀{m i:Nat} {l:List Value},rowM M b i m=some l→rowM M' b i m=some l
 | 0,i,l,hc=>hc
 | m+1,i,l,hc=>by
  simp only[rowM]at hc ⊢
  split at hc
  ·rename_i v r h1 h2
   rw[cellM_le h h1,rowM_le h h2];exact hc
  ·cases hc
theorem lookM_le{M M':Mem}(h:Mem.le M M'){T:TypeId}{u v:Value}(hc:lookM P T M u=some v):lookM P T M' u=some v:=by
 unfold lookM at hc ⊢
 split at hc
 ·rename_i b off
  split at hc
  ·rename_i m hk hz
   simp only[Option.map_eq_some_iff]at hc
   obtain ⟨l,hl,rfl⟩:=hc
   simp only[hk,hz,rowM_le h hl,Option.map_some]
  ·rename_i m hk hz
   simp only[hk,hz,cellM_le h hc]
  ·cases hc
 ·cases hc
def wr(arr:Array Value):Nat→List Value→Array Value
 | _,[]=>arr
 | o,v :: r=>wr (arr.setIfInBounds o v) (o+1) r
theorem wr_size:∀(vs:List Value) (arr:Array Value) (o:Nat),(wr arr o vs).size=arr.size
 | [],_,_=>rfl
 | v :: r,arr,o=>by rw[wr,wr_size r,Array.size_setIfInBounds]
theorem wr_getD:∀(vs:List Value) (arr:Array Value) (o i:Nat),o+vs.length≤arr.size→
  (wr arr o vs).getD i undef=if o≤i∧i<o+vs.length then vs.getD (i-o) undef else arr.getD i undef
 | [],arr,o,i,h=>by simp[wr];intro h1 h2;omega
 | v :: r,arr,o,i,h=>by
  simp only[List.length_cons]at h ⊢
  rw[wr,wr_getD r _ (o+1) i (by rw[Array.size_setIfInBounds];omega)]
  by_cases h1:o+1≤i∧i<o+1+r.length
  ·rw[if_pos h1,if_pos (by omega)]
   obtain ⟨j,rfl⟩:∃j,i=o+1+j:=⟨i-(o+1),by omega⟩
   rw[show o+1+j-(o+1)=j by omega,show o+1+j-o=j+1 by omega]
   simp
  ·rw[if_neg h1]
   by_cases h2:i=o
   ·subst h2
    rw[if_pos (by omega)]
    have:i<arr.size:=by omega
    simp[Array.getD,this]
   ·rw[if_neg (by omega)]
    have:o≠i:=fun e=>h2 e.symm
    by_cases h3:i<arr.size
    ·simp[Array.getD,h3,Array.getElem_setIfInBounds,this]
    ·simp[Array.getD,h3]
theorem heap_setCell{b o:Nat}{arr:Array Value}{T:TypeId}{fr:Nat×Nat}(w:World)(v:Value)(h:w.heap[b]? = some (.cells arr T fr)) :
  (w.setCell ⟨b,o,none⟩ v).heap[b]? = some (.cells (arr.setIfInBounds o v) T fr):=by
 simp[World.setCell,Array.getElem?_modify,h]
theorem heap_setCells{b:Nat}{T:TypeId}{fr:Nat×Nat}:∀(vs:List Value) (o:Nat) (w:World) (arr:Array Value),w.heap[b]? = some (.cells arr T fr)→
  (w.setCells b o vs).heap[b]? = some (.cells (wr arr o vs) T fr)
 | [],_,_,_,h=>h
 | v :: r,o,w,arr,h=>heap_setCells r (o+1) _ _ (heap_setCell w v h)
structure Same (b:Nat) (w w':World):Prop where
 os:w'.os=w.os
 tape:w'.tape=w.tape
 output:w'.output=w.output
 size:w'.heap.size=w.heap.size
 block:∀i,i≠b→w'.heap[i]? = w.heap[i]?
theorem Same.refl(b:Nat)(w:World):Same b w w:=⟨rfl,rfl,rfl,rfl,fun _ _=>rfl⟩
theorem Same.trans{b:Nat}{x y z:World}(h:Same b x y)(k:Same b y z):Same b x z:=
 ⟨k.os.trans h.os,k.tape.trans h.tape,k.output.trans h.output,k.size.trans h.size,fun i hi=>(k.block i hi).trans (h.block i hi)⟩
theorem same_setCell(b o:Nat)(w:World)(v:Value):Same b w (w.setCell ⟨b,o,none⟩ v):=
 ⟨rfl,rfl,rfl,by simp[World.setCell],fun i hi=>by
  have:b≠i:=fun e=>hi e.symm
  simp[World.setCell,Array.getElem?_modify,this]⟩
theorem same_setCells(b:Nat):∀(vs:List Value) (o:Nat) (w:World),Same b w (w.setCells b o vs)
 | [],_,w=>Same.refl b w
 | v :: r,o,w=>(same_setCell b o w v).trans (same_setCells b r (o+1) _)
theorem run_store1(a:Addr)(u:Value)(w:World)(h1:u.oneCell'=true){x:Value}(hc:w.cell? a=some x)(hf:w.frozen? a=false) :
  (store a u).run P w=.ok () (w.setCell a u):=by
 cases u<;>first|(simp[store,Sem.run,hc,hf];done)|cases h1
theorem store_ok{k k' off:Nat}{T Tb:TypeId}{cs cs':List AV}{b:Blk}{arr:Array Value}{ob:Prop}{v:AV}{u:Value}(hr:storeR P T k cs off v=.sto ob k' cs')(ho:ob)
  (hb:Row ρ w Tb cs b arr) (hu:v.is ρ u) :
  ∃w' arr',(Instr.storeAt T (ptr b.b off) u).run P w=.ok () w'∧Same b.b w w'∧k'=k∧Row ρ w' Tb cs' b arr':=by
 have hz:=hb.size
 have hle:=hb.le
 have hfz:∀o,w.frozen? ⟨b.b,o,none⟩=false:=fun o=>by simp[World.frozen?,hb.there]
 unfold storeR at hr
 split at hr
 ·rename_i m hk hs
  split at hr
  ·rename_i l hl
   simp only[Res.sto.injEq]at hr
   obtain ⟨rfl,rfl,rfl⟩:=hr
   obtain ⟨o1,o2,o3⟩:=ho
   obtain ⟨us,rfl,hus⟩:=cellsG_ok hl hu
   have hul:=isL_length hus
   have hthere:w.there b.b off us.toArray.size:=fun j hj=>by
    refine ⟨?_,hfz _⟩
    rw[cell_of hb.there]
    have:off+j<arr.size:=by simp at hj;omega
    simp[this]
   refine ⟨w.setCells b.b off us,wr arr off us,?_,same_setCells b.b _ _ _,rfl,heap_setCells _ _ _ _ hb.there,by rw[wr_size];exact hz,?_,?_⟩
   ·have:=run_storeAt_mid (P:=P) w b.b off T us.toArray hthere (by unfold szO at hs;rw[hs];simp[hul,o2]) (by simpa using all_oneCell_toArray (allOne_ok o3 hus))
    simpa [ptr] using this
   ·simp;omega
   ·intro i v' hv'
    rw[wr_getD _ _ _ _ (by omega)]
    by_cases h1:off≤i∧i<off+us.length
    ·rw[if_pos h1]
     rw[List.getElem?_append_right (by simp;omega)]at hv'
     have h2:i-(cs.take off).length=i-off:=by simp;omega
     rw[h2,List.getElem?_append_left (by omega)]at hv'
     exact isL_get hus _ _ hv'
    ·rw[if_neg h1]
     by_cases h2:i<off
     ·rw[List.getElem?_append_left (by simp;omega),List.getElem?_take_of_lt h2]at hv'
      exact hb.is i _ hv'
     ·rw[List.getElem?_append_right (by simp;omega),List.getElem?_append_right (by simp;omega),List.getElem?_drop]at hv'
      have h3:off+m+(i-(cs.take off).length-l.length)=i:=by simp;omega
      rw[h3]at hv'
      exact hb.is i _ hv'
  ·cases hr
 ·rename_i m hk hs
  simp only[Res.sto.injEq]at hr
  obtain ⟨rfl,rfl,rfl⟩:=hr
  obtain ⟨o1,rfl,o3⟩:=ho
  obtain ⟨h1,h2⟩:=one_cells o3 hu
  have hlt:off<arr.size:=by omega
  have hcell:w.cell? ⟨b.b,off,none⟩=some arr[off]:=by rw[cell_of hb.there];exact Array.getElem?_eq_getElem hlt
  refine ⟨w.setCell ⟨b.b,off,none⟩ u,arr.setIfInBounds off u,?_,same_setCell b.b off w u,rfl,heap_setCell w u hb.there,by simp[hz],by simpa using hle,?_⟩
  ·unfold szO at hs
   cases hq:P.info? T with
   | none=>simp[hq]at hs
   | some i=>
    have hs1:i.size=1:=by simpa [hq] using hs
    have hst:=run_store1 (P:=P) ⟨b.b,off,none⟩ u w h1 hcell (hfz off)
    simp[Instr.storeAt,ptr,Instr.sureAddr,Sem.run_bind,storeVar,sizeOf,typeInfo,hq,h2,hs1,storeCells,Addr.add,hst]
  ·intro i v' hv'
   by_cases h3:off=i
   ·subst h3
    rw[List.getElem?_set_self (by omega)]at hv'
    injection hv' with hv'
    subst hv'
    simpa [Array.getD,hlt] using hu
   ·rw[List.getElem?_set_ne h3]at hv'
    have h4:=hb.is i v' hv'
    by_cases h5:i<arr.size
    ·simp[Array.getD,h5,Array.getElem_setIfInBounds,h3]at h4 ⊢;exact h4
    ·simp[Array.getD,h5]at h4 ⊢;exact h4
 ·cases hr
theorem lkH_upH:∀(hp:Hp) (k j:Nat) (cs:List AV),lkH (upH hp k cs) j=if k=j then (lkH hp k).map (fun x=>(x.1,cs)) else lkH hp j
 | [],k,j,cs=>by simp[upH,lkH]
 | (i,T,v) :: r,k,j,cs=>by
  by_cases h:i=k
  ·subst h
   by_cases h2:i=j
   ·subst h2;simp[upH,lkH]
   ·simp[upH,lkH,h2]
  ·simp only[upH,if_neg h,lkH,lkH_upH r k j cs]
   by_cases h2:i=j
   ·subst h2
    have:k≠i:=fun e=>h e.symm
    simp[this]
   ·simp[h2]
theorem getD_put{a:Act}{d t:Nat}{u:Value}(hd:d<a.tmps.size):((a.put (some d) u).tmps).getD t undef=if d=t then u else a.tmps.getD t undef:=by
 by_cases h:d=t
 ·subst h;simp[Act.put,Array.getD,hd]
 ·by_cases ht:t<a.tmps.size
  ·simp[Act.put,Array.getD,ht,h,Array.getElem_setIfInBounds]
  ·simp[Act.put,Array.getD,ht,h]
theorem Gam.put(h:Gam c n s ρ a w){v:AV}{u:Value}{d:Option Nat}(hv:v.is ρ u)(hd:dOK n d):Gam c n (s.put d v) ρ (a.put d u) w:=by
 cases d with
 | none=>exact h
 | some d=>
  have hd':d<a.tmps.size:=by rw[h.sz];exact hd
  refine {h with df:=h.df,sz:=?_,env:=fun t=>?_}
  ·show (a.tmps.setIfInBounds d u).size=n
   rw[Array.size_setIfInBounds];exact h.sz
  ·rw[getD_put hd']
   show AV.is ρ (lk ((d,v) :: s.env) t) _
   by_cases e:d=t
   ·subst e;simpa [lk] using hv
   ·simpa [lk,e] using h.env t
theorem Row.same{T:TypeId}{cs:List AV}{b:Blk}{arr:Array Value}{x:Nat}{w':World}(h:Row ρ w T cs b arr)(hs:Same x w w')(hne:b.b≠x):Row ρ w' T cs b arr:=
 ⟨by rw[hs.block _ hne];exact h.there,h.size,h.le,h.is⟩
theorem Gam.sto(h:Gam c n s ρ a w){w':World}{k:Nat}{b:Blk}{T:TypeId}{cs cs':List AV}{arr':Array Value}(hk:lkH s.hp k=some (T,cs))(hb:ρ k=some b)
  (hs:Same b.b w w') (hr:Row ρ w' T cs' b arr') :
  Gam c n {s with hp:=upH s.hp k cs'} ρ a w':=by
 obtain ⟨_,e5,e6⟩:=h.hp k T cs b hk hb
 have hsome:∀j,(lkH (upH s.hp k cs') j).isSome=true→(lkH s.hp j).isSome=true:=fun j hj=>by
  rw[lkH_upH]at hj
  by_cases e:k=j
  ·subst e;rw[hk];rfl
  ·simpa [e] using hj
 refine {df:=h.df,sz:=h.sz,env:=h.env,hp:=fun j T' ds x hj hx=>?_,no:=fun j T' ds hj hx=>?_,inj:=fun j j' x x' hj hj'=>h.inj j j' x x' (hsome j hj) (hsome j' hj'),os:=hs.os.trans h.os,tape:=hs.tape.trans h.tape,output:=hs.output.trans h.output,size:=by rw[hs.size];exact h.size,block:=fun i hi hx=>?_,sub:=fun x o hx=>?_,le:=h.le,mf:=h.mf,fix:=fun j hj=>by rw[lkH_upH];have:=h.fix j hj;split<;>simp_all,fx:=h.fx,kl:=h.kl,fr:=h.fr}
 ·simp only[lkH_upH]at hj
  by_cases e:k=j
  ·subst e
   rw[if_pos rfl,hk]at hj
   simp only[Option.map_some,Option.some.injEq,Prod.mk.injEq]at hj
   obtain ⟨rfl,rfl⟩:=hj
   rw[hb]at hx
   injection hx with hx
   subst hx
   exact ⟨⟨arr',hr⟩,e5,e6⟩
  ·rw[if_neg e]at hj
   obtain ⟨⟨arr2,f1⟩,f2⟩:=h.hp j T' ds x hj hx
   have hne:x.b≠b.b:=fun ex=>e (h.inj k j b x (by rw[hk];rfl) (by rw[hj];rfl) hb hx ex.symm)
   exact ⟨⟨arr2,f1.same hs hne⟩,f2⟩
 ·simp only[lkH_upH]at hj
  by_cases e:k=j
  ·subst e;rw[hb]at hx;cases hx
  ·rw[if_neg e]at hj;exact h.no j T' ds hj hx
 ·have hne:i≠b.b:=fun ei=>by
   subst ei
   rcases e5 with e5|e5
   ·omega
   ·exact hx e5
  rw[hs.block i hne];exact h.block i hi hx
 ·have hne:x≠b.b:=fun ex=>by
   subst ex
   rw[e6]at hx;cases hx
  rw[hs.block x hne];exact h.sub x o hx
theorem lkH_sub:∀(hp:Hp) (ks:List Nat) (k:Nat),lkH (subH hp ks) k=if k∈ks then lkH hp k else none
 | [],ks,k=>by simp[subH,lkH]
 | (j,x) :: r,ks,k=>by
  have ih:=lkH_sub r ks k
  by_cases hj:hasK j ks=true
  ·simp only[subH,hj,if_true,lkH]
   by_cases e:j=k
   ·subst e
    simp[hasK_iff.1 hj]
   ·simp[e,ih]
  ·simp only[subH,hj,lkH]
   by_cases e:j=k
   ·subst e
    have:j∉ks:=fun h=>hj (hasK_iff.2 h)
    simp[this,ih]
   ·simp[e,ih]
theorem lkH_drop(G:Hp)(k:Nat):∀hp:Hp,lkH (dropH G hp) k=if (lkH G k).isSome=true then none else lkH hp k
 | []=>by simp[dropH,lkH]
 | (j,x) :: r=>by
  have ih:=lkH_drop G k r
  simp only[dropH]
  split
  ·rename_i h1
   rw[ih]
   split
   ·rfl
   ·rename_i h2
    simp only[lkH]
    rw[if_neg (fun e=>h2 (by rw[←e];exact h1))]
  ·rename_i h1
   simp only[lkH]
   split
   ·rename_i e
    subst e
    rw[if_neg h1]
   ·exact ih
theorem lkH_app(k:Nat)(B:Hp):∀A:Hp,lkH (A++B) k=(lkH A k).orElse fun _=>lkH B k
 | []=>by simp[lkH]
 | (j,x) :: r=>by
  have ih:=lkH_app k B r
  simp only[List.cons_append,lkH]
  split
  ·rfl
  ·exact ih
theorem lkH_join(hp:Hp)(H':Hp)(k:Nat):lkH (joinH hp H') k=(lkH H' k).orElse fun _=>lkH hp k:=by
 rw[joinH,lkH_app,lkH_drop]
 cases h:lkH H' k<;>simp
theorem newKeys_ok{H:Hp}:∀{H':Hp},newKeys s H H'→∀k,(lkH H' k).isSome=true→(lkH H k).isSome=true∨awayP k s
 | [],_,k,hk=>by simp[lkH]at hk
 | (j,x) :: r,h,k,hk=>by
  simp only[lkH]at hk
  split at hk
  ·rename_i e;subst e;exact h.1
  ·exact newKeys_ok h.2 k hk
mutual
theorem kill_is{k:Nat}:∀{v:AV} {u:Value},v.is ρ u→(v.kill k).is ρ u
 | .ext v,u,h=>h
 | .gd g v,u,h=>h
 | .own j o,u,h=>by simp only[AV.kill];split<;>first|trivial|exact h
 | .gown g j o,u,h=>by simp only[AV.kill];split<;>first|trivial|exact h
 | .slo j o n z,u,h=>by simp only[AV.kill];split<;>first|trivial|exact h
 | .fn f l,u,h=>by obtain ⟨us,h1,e⟩:=h;exact ⟨us,killL_is h1,e⟩
 | .bm f l,u,h=>by obtain ⟨us,h1,e⟩:=h;exact ⟨us,killL_is h1,e⟩
 | .ag t l,u,h=>by obtain ⟨us,h1,e⟩:=h;exact ⟨us,killL_is h1,e⟩
 | .unk,u,h=>trivial
theorem killL_is{k:Nat}:∀{l:List AV} {us:List Value},isL ρ l us→isL ρ (killL k l) us
 | [],us,h=>h
 | v :: l,us,h=>by obtain ⟨u,r,e,h1,h2⟩:=h;exact ⟨u,r,e,kill_is h1,killL_is h2⟩
end
mutual
theorem kill_ment{k j:Nat}:∀{v:AV},j∈(v.kill k).ment→j≠k∧j∈v.ment
 | .ext v,h=>by simp[AV.kill,AV.ment]at h
 | .gd g v,h=>by simp[AV.kill,AV.ment]at h
 | .own i o,h=>by
  simp only[AV.kill]at h
  split at h
  ·simp[AV.ment]at h
  ·rename_i e;simp only[AV.ment,List.mem_singleton]at h ⊢;subst h;exact ⟨e,rfl⟩
 | .gown g i o,h=>by
  simp only[AV.kill]at h
  split at h
  ·simp[AV.ment]at h
  ·rename_i e;simp only[AV.ment,List.mem_singleton]at h ⊢;subst h;exact ⟨e,rfl⟩
 | .slo i o n z,h=>by
  simp only[AV.kill]at h
  split at h
  ·simp[AV.ment]at h
  ·rename_i e;simp only[AV.ment,List.mem_singleton]at h ⊢;subst h;exact ⟨e,rfl⟩
 | .fn f l,h=>by simp only[AV.kill,AV.ment]at h ⊢;exact killL_ment h
 | .bm f l,h=>by simp only[AV.kill,AV.ment]at h ⊢;exact killL_ment h
 | .ag t l,h=>by simp only[AV.kill,AV.ment]at h ⊢;exact killL_ment h
 | .unk,h=>by simp[AV.kill,AV.ment]at h
theorem killL_ment{k j:Nat}:∀{l:List AV},j∈mentL (killL k l)→j≠k∧j∈mentL l
 | [],h=>by simp[killL,mentL]at h
 | v :: l,h=>by
  simp only[killL,mentL,List.mem_append]at h ⊢
  rcases h with h|h
  ·exact ⟨(kill_ment h).1,.inl (kill_ment h).2⟩
  ·exact ⟨(killL_ment h).1,.inr (killL_ment h).2⟩
end
theorem lk_killE(k:Nat):∀(e:Env) (t:Nat),lk (killE k e) t=(lk e t).kill k
 | [],t=>rfl
 | (d,v) :: r,t=>by
  simp only[killE,lk]
  split
  ·rfl
  ·exact lk_killE k r t
theorem killL_get(k:Nat):∀(l:List AV) (i:Nat),(killL k l)[i]? = (l[i]?).map (AV.kill k)
 | [],i=>by simp[killL]
 | v :: r,0=>by simp[killL]
 | v :: r,i+1=>by simp[killL,killL_get k r i]
theorem killL_length(k:Nat):∀(l:List AV),(killL k l).length=l.length
 | []=>rfl
 | v :: r=>by simp[killL,killL_length k r]
theorem lkH_killH(k:Nat):∀(H:Hp) (j:Nat),lkH (killH k H) j=if j=k then none else (lkH H j).map fun x=>(x.1,killL k x.2)
 | [],j=>by simp[killH,lkH]
 | (i,T,cs) :: r,j=>by
  simp only[killH]
  by_cases e:i=k
  ·rw[if_pos e,lkH_killH k r j]
   by_cases e2:j=k
   ·simp[e2]
   ·rw[if_neg e2,if_neg e2]
    simp only[lkH]
    rw[if_neg fun e3=>e2 (by rw[←e3,e])]
  ·rw[if_neg e]
   simp only[lkH]
   by_cases e2:i=j
   ·subst e2;simp[e]
   ·rw[if_neg e2,if_neg e2];exact lkH_killH k r j
theorem killEs_is{mv:List Nat}{e:Env}{t:Nat}{u:Value}(h:(lk e t).is ρ u):(lk (killEs mv e) t).is ρ u:=by
 induction mv with
 | nil=>exact h
 | cons k r ih=>simp only[killEs,lk_killE];exact kill_is ih
theorem killEs_ment{mv:List Nat}{e:Env}{t j:Nat}(h:j∈(lk (killEs mv e) t).ment):j∉mv∧j∈(lk e t).ment:=by
 induction mv with
 | nil=>exact ⟨by simp,h⟩
 | cons k r ih=>
  simp only[killEs,lk_killE]at h
  obtain ⟨h1,h2⟩:=kill_ment h
  obtain ⟨h3,h4⟩:=ih h2
  exact ⟨by simp[h1,h3],h4⟩
theorem killHs_some{mv:List Nat}{H:Hp}{j:Nat}{T:TypeId}{cs:List AV}(h:lkH (killHs mv H) j=some (T,cs)) :
  j∉mv∧∃cs0,lkH H j=some (T,cs0)∧cs.length=cs0.length∧(∀i∈mentL cs,i∉mv∧i∈mentL cs0)∧∀(ρ:Rho) (i:Nat) (v:AV),cs[i]? = some v→∃v0,cs0[i]? = some v0∧∀u,v0.is ρ u→v.is ρ u:=by
 induction mv generalizing cs with
 | nil=>exact ⟨by simp,cs,h,rfl,fun i hi=>⟨by simp,hi⟩,fun ρ i v hv=>⟨v,hv,fun u hu=>hu⟩⟩
 | cons k r ih=>
  simp only[killHs,lkH_killH]at h
  split at h
  ·cases h
  ·rename_i hne
   simp only[Option.map_eq_some_iff,Prod.mk.injEq]at h
   obtain ⟨⟨T1,cs1⟩,h1,rfl,rfl⟩:=h
   obtain ⟨i1,cs0,i2,i3,i4,i5⟩:=ih h1
   refine ⟨by simp[hne,i1],cs0,i2,by rw[killL_length];exact i3,fun i hi=>?_,fun ρ i v hv=>?_⟩
   ·obtain ⟨g1,g2⟩:=killL_ment hi
    obtain ⟨g3,g4⟩:=i4 i g2
    exact ⟨by simp[g1,g3],g4⟩
   ·simp only[killL_get,Option.map_eq_some_iff]at hv
    obtain ⟨v1,hv1,rfl⟩:=hv
    obtain ⟨v0,g1,g2⟩:=i5 ρ i v1 hv1
    exact ⟨v0,g1,fun u hu=>kill_is (g2 u hu)⟩
theorem killHs_of{mv:List Nat}{H:Hp}{j:Nat}(hj:j∉mv)(h:(lkH H j).isSome=true):(lkH (killHs mv H) j).isSome=true:=by
 induction mv with
 | nil=>exact h
 | cons k r ih=>
  simp only[List.mem_cons,not_or]at hj
  simp only[killHs,lkH_killH,if_neg hj.1,Option.isSome_map]
  exact ih hj.2
theorem Gam.left(h:Gam c n s ρ a w){ks mv:List Nat}{u:Value}{v:AV}{H':Hp}{M':Mem}{ρ1:Rho}{w':World}{d:Option Nat}(hd:dOK n d)(hmv:∀k∈mv,(lkH (subH s.hp ks) k).isSome=true∧k∉s.fx)
  (hnk:newKeys s (subH s.hp ks) H') (hl:Left mv (subH s.hp ks) s.M ρ ρ1 w u v H' M' w') :
  ∃ρ',Gam c n ({env:=killEs mv s.env,hp:=joinH (killHs mv s.hp) H',M:=M',kb:=s.kb,fx:=s.fx,fr:=s.fr:St}.put d v) ρ' (a.put d u) w':=by
 have hsub:∀k,(lkH (subH s.hp ks) k).isSome=true→(lkH s.hp k).isSome=true∧k∈ks:=fun k hk=>by
  rw[lkH_sub]at hk
  by_cases e:k∈ks
  ·rw[if_pos e]at hk;exact ⟨hk,e⟩
  ·rw[if_neg e]at hk;cases hk
 have hnew:∀k,(lkH H' k).isSome=true→(lkH (subH s.hp ks) k).isSome=true∨awayP k s:=newKeys_ok hnk
 have hold:∀k,¬awayP k s→k∉mv→ρ1 k=ρ k:=fun k hk hm=>by
  refine hl.same k ?_ hm
  cases hx:lkH H' k with
  | none=>exact .inr rfl
  | some x=>
   rcases hnew k (by rw[hx];rfl) with h1|h1
   ·exact .inl h1
   ·exact absurd h1 hk
 have hment:∀t k,k∈(lk (killEs mv s.env) t).ment→ρ k=ρ1 k:=fun t k hk=>by
  obtain ⟨h1,h2⟩:=killEs_ment hk
  exact (hold k (fun ha=>awayP_env ha t h2) h1).symm
 have hkey:∀j x,lkH s.hp j=some x→j∉mv→ρ j=ρ1 j:=fun j x hj hm=>(hold j (fun ha=>(awayP_hp ha j x.1 x.2 hj).1 rfl) hm).symm
 have hcase:∀k x,lkH (joinH (killHs mv s.hp) H') k=some x→lkH H' k=some x∨(lkH H' k=none∧lkH (killHs mv s.hp) k=some x):=fun k x hk=>by
  rw[lkH_join]at hk
  cases hx:lkH H' k with
  | some y=>rw[hx]at hk;exact .inl hk
  | none=>rw[hx]at hk;exact .inr ⟨rfl,by simpa using hk⟩
 have hcaseS:∀k,(lkH (joinH (killHs mv s.hp) H') k).isSome=true→(lkH H' k).isSome=true∨(lkH H' k=none∧k∉mv∧(lkH s.hp k).isSome=true):=fun k hk=>by
  obtain ⟨⟨T,cs⟩,hx⟩:=Option.isSome_iff_exists.1 hk
  rcases hcase k _ hx with h1|⟨h1,h2⟩
  ·exact .inl (by rw[h1];rfl)
  ·obtain ⟨g1,cs0,g2,_⟩:=killHs_some h2
   exact .inr ⟨h1,g1,by rw[g2];rfl⟩
 have hnot:∀k,lkH H' k=none→¬(lkH (subH s.hp ks) k).isSome=true:=fun k hn e=>by have:=hl.keep k e;rw[hn]at this;cases this
 have houtB:∀k T cs b,lkH (killHs mv s.hp) k=some (T,cs)→lkH H' k=none→ρ k=some b→(∃arr,Row ρ1 w' T cs b arr)∧(c.w0.heap.size≤b.b∨b.b∈c.X)∧M' b.b=none:=fun k T cs b hk hn hb=>by
  obtain ⟨g1,cs0,g2,g3,g4,g5⟩:=killHs_some hk
  obtain ⟨⟨arr,h1⟩,h5,h6⟩:=h.hp k T cs0 b g2 hb
  have hlt:=h1.lt
  refine ⟨⟨arr,?_,h1.size,by rw[g3];exact h1.le,fun i v hv=>?_⟩,h5,?_⟩
  ·rw[hl.block b.b hlt fun j x hj hjx e=>?_];exact h1.there
   have:=h.inj j k x b (hsub j hj).1 (by rw[g2];rfl) hjx hb e
   subst this;exact hnot _ hn hj
  ·obtain ⟨v0,e1,e2⟩:=g5 ρ i v hv
   refine is_agree (fun j hj=>?_) (e2 _ (h1.is i v0 e1))
   obtain ⟨e3,e4⟩:=g4 j (mentL_get hv hj)
   exact (hold j (fun ha=>(awayP_hp ha k T cs0 g2).2 e4) e3).symm
  ·cases hx:M' b.b with
   | none=>rfl
   | some o=>
    rcases hl.mem b.b (by rw[hx];simp) with h7|h7
    ·exact absurd h6 h7
    ·omega
 have hapart:∀k k' b b',(lkH H' k).isSome=true→(lkH H' k'=none∧k'∉mv∧(lkH s.hp k').isSome=true)→ρ1 k=some b→ρ1 k'=some b'→b.b=b'.b→False:=fun k k' b b' hk hk' hb hb' e=>by
  obtain ⟨x',hx'⟩:=Option.isSome_iff_exists.1 hk'.2.2
  have hb2:ρ k'=some b':=by rw[hkey k' x' hx' hk'.2.1];exact hb'
  have hlt:=h.lt hx' hb2
  rcases hl.fresh k b hk hb with h1|⟨j,x,h1,h2,h3⟩
  ·omega
  ·have:=h.inj j k' x b' (hsub j h1).1 hk'.2.2 h2 hb2 (by rw[h3,e])
   subst this
   exact hnot _ hk'.1 h1
 have hX:∀j x,(lkH (subH s.hp ks) j).isSome=true→ρ j=some x→c.w0.heap.size≤x.b∨x.b∈c.X:=fun j x hj hx=>by
  obtain ⟨y,hy⟩:=Option.isSome_iff_exists.1 (hsub j hj).1
  exact (h.hp j y.1 y.2 x hy hx).2.1
 have g:Gam c n {env:=killEs mv s.env,hp:=joinH (killHs mv s.hp) H',M:=M',kb:=s.kb,fx:=s.fx,fr:=s.fr} ρ1 a w':=by
  refine {df:=h.df,sz:=h.sz,env:=fun t=>is_agree (hment t) (killEs_is (h.env t)),hp:=fun k T cs b hk hb=>?_,no:=fun k T cs hk hb=>?_,inj:=fun k k' b b' hk hk' hb hb' e=>?_,os:=hl.os.trans h.os,tape:=hl.tape.trans h.tape,output:=hl.output.trans h.output,size:=Nat.le_trans h.size hl.size,block:=fun i hi hx=>?_,sub:=hl.heap.sub,le:=h.le.trans hl.le,mf:=fun b hb=>?_,fix:=fun k hk=>?_,fx:=fun k hk=>?_,kl:=h.kl,fr:=h.fr}
  ·rcases hcase k _ hk with hx|⟨hn,hx⟩
   ·obtain ⟨h1,h2⟩:=hl.heap.hp k T cs b hx hb
    refine ⟨h1,?_,h2⟩
    rcases hl.fresh k b (by rw[hx];rfl) hb with h3|⟨j,x,h3,h4,h5⟩
    ·exact .inl (Nat.le_trans h.size h3)
    ·rw[←h5];exact hX j x h3 h4
   ·obtain ⟨g1,cs0,g2,_⟩:=killHs_some hx
    exact houtB k T cs b hx hn (by rw[hkey k _ g2 g1];exact hb)
  ·rcases hcase k _ hk with hx|⟨hn,hx⟩
   ·exact hl.heap.no k T cs hx hb
   ·obtain ⟨g1,cs0,g2,g3,_⟩:=killHs_some hx
    have:=h.no k T cs0 g2 (by rw[hkey k _ g2 g1];exact hb)
    subst this
    exact List.eq_nil_of_length_eq_zero (by simpa using g3)
  ·rcases hcaseS k hk with h1|h1
   ·rcases hcaseS k' hk' with h2|h2
    ·exact hl.heap.inj k k' b b' h1 h2 hb hb' e
    ·exact (hapart k k' b b' h1 h2 hb hb' e).elim
   ·rcases hcaseS k' hk' with h2|h2
    ·exact (hapart k' k b' b h2 h1 hb' hb e.symm).elim
    ·obtain ⟨x,hx⟩:=Option.isSome_iff_exists.1 h1.2.2
     obtain ⟨x',hx'⟩:=Option.isSome_iff_exists.1 h2.2.2
     exact h.inj k k' b b' h1.2.2 h2.2.2 (by rw[hkey k x hx h1.2.1];exact hb) (by rw[hkey k' x' hx' h2.2.1];exact hb') e
  ·rw[hl.block i (Nat.lt_of_lt_of_le hi h.size) fun j x hj hjx e=>?_];exact h.block i hi hx
   subst e
   rcases hX j x hj hjx with e5|e5
   ·omega
   ·exact hx e5
  ·rcases hl.mem b hb with h7|h7
   ·exact h.mf b h7
   ·exact .inr (Nat.le_trans h.size h7)
  ·have f1:=h.fix k hk
   simp only[lkH_join]
   cases hx:lkH H' k with
   | some x=>simp
   | none=>
    simp only[Option.orElse_none]
    refine killHs_of (fun hm=>?_) f1
    exact hnot k hx (hmv k hm).1
  ·have e1:=h.fx k hk
   rw[←e1]
   have hm:k∉mv:=fun hm=>(hmv k hm).2 hk
   cases hx:lkH H' k with
   | none=>exact hl.same k (.inr hx) hm
   | some x=>
    rcases hnew k (by rw[hx];rfl) with h1|h1
    ·exact hl.same k (.inl h1) hm
    ·exact absurd (show k∈s.fx from hk) (awayP_fx h1)
 exact ⟨ρ1,g.put hl.is hd⟩
theorem Gam.heapIs(h:Gam c n s ρ a w)(ks:List Nat):HeapIs ρ (subH s.hp ks) s.M w:=by
 have key:∀j x,lkH (subH s.hp ks) j=some x→lkH s.hp j=some x:=fun j x hj=>by
  rw[lkH_sub]at hj
  split at hj
  ·exact hj
  ·cases hj
 have keyS:∀j,(lkH (subH s.hp ks) j).isSome=true→(lkH s.hp j).isSome=true:=fun j hj=>by
  obtain ⟨x,hx⟩:=Option.isSome_iff_exists.1 hj
  rw[key j x hx];rfl
 exact ⟨fun k T cs b hk hb=>by obtain ⟨h1,_,h2⟩:=h.hp k T cs b (key k _ hk) hb;exact ⟨h1,h2⟩,fun k T cs hk hb=>h.no k T cs (key k _ hk) hb,fun k k' b b' hk hk'=>h.inj k k' b b' (keyS k hk) (keyS k' hk'),h.sub⟩
def upd(ρ:Rho)(k:Nat)(b:Option Blk):Rho:=fun j=>if j=k then b else ρ j
theorem upd_self(ρ:Rho)(k:Nat)(b:Option Blk):upd ρ k b k=b:=by simp[upd]
theorem upd_ne(ρ:Rho){k j:Nat}(b:Option Blk)(h:j≠k):upd ρ k b j=ρ j:=by simp[upd,h]
theorem is_upd{v:AV}{u:Value}{k:Nat}{b:Option Blk}(h:k∉v.ment)(hu:v.is ρ u):v.is (upd ρ k b) u:=
 is_agree (fun j hj=>by rw[upd_ne ρ b fun e=>by subst e;exact h hj]) hu
theorem isL_upd{l:List AV}{us:List Value}{k:Nat}{b:Option Blk}(h:k∉mentL l)(hu:isL ρ l us):isL (upd ρ k b) l us:=
 isL_agree (fun j hj=>by rw[upd_ne ρ b fun e=>by subst e;exact h hj]) hu
theorem Gam.new(h:Gam c n s ρ a w){k d:Nat}{T:TypeId}{cs:List AV}{arr:Array Value}{v:AV}{u:Value}(h1:∀t,k∉(lk s.env t).ment)(h2:∀j T cs,lkH s.hp j=some (T,cs)→j≠k∧k∉mentL cs)(hfx:k∉s.fx)(hd:d<n)
  (hz:cs.length≤arr.size) (hcs:∀(i:Nat) (v:AV),cs[i]? = some v→v.is ρ (arr.getD i undef)) (hk:k∉mentL cs)
  (hv:v.is (upd ρ k (some ⟨w.heap.size,arr.size⟩)) u):Gam c n {env:=(d,v) :: s.env,hp:=(k,T,cs) :: s.hp,M:=s.M,kb:=s.kb,fx:=s.fx,fr:=s.fr} (upd ρ k (some ⟨w.heap.size,arr.size⟩)) (a.put (some d) u) (w.alloc (.cells arr T)):=by
 have hd':d<a.tmps.size:=by rw[h.sz];exact hd
 have hold:∀i,i<w.heap.size→(w.alloc (.cells arr T)).heap[i]? = w.heap[i]?:=fun i hi=>Below.heap_alloc w _ i hi
 have hlk:∀j x,lkH ((k,T,cs) :: s.hp) j=some x→(j=k∧x=(T,cs))∨(j≠k∧lkH s.hp j=some x):=fun j x hj=>by
  by_cases e:k=j
  ·subst e;simp[lkH]at hj;exact .inl ⟨rfl,hj.symm⟩
  ·simp[lkH,e]at hj;exact .inr ⟨fun e2=>e e2.symm,hj⟩
 have hlt:∀j b,j≠k→(lkH s.hp j).isSome=true→upd ρ k (some ⟨w.heap.size,arr.size⟩) j=some b→b.b<w.heap.size:=fun j b hj hs hb=>by
  obtain ⟨x,hx⟩:=Option.isSome_iff_exists.1 hs
  rw[upd_ne _ _ hj]at hb
  exact h.lt hx hb
 refine {df:=h.df,sz:=?_,env:=fun t=>?_,hp:=fun j T' ds b hj hb=>?_,no:=fun j T' ds hj hb=>?_,inj:=fun j j' b b' hj hj' hb hb' e=>?_,os:=h.os,tape:=h.tape,output:=h.output,size:=by rw[World.size_alloc];exact Nat.le_succ_of_le h.size,block:=fun i hi hx=>?_,sub:=fun x o hx=>?_,le:=h.le,mf:=h.mf,fix:=fun j hj=>?_,fx:=fun j hj=>?_,kl:=h.kl,fr:=h.fr}
 ·show (a.tmps.setIfInBounds d u).size=n
  rw[Array.size_setIfInBounds];exact h.sz
 ·rw[getD_put hd']
  by_cases e:d=t
  ·subst e;simpa [lk] using hv
  ·simp only[lk,e,if_false];exact is_upd (h1 t) (h.env t)
 ·rcases hlk j _ hj with ⟨rfl,hx⟩|⟨hne,hx⟩
  ·simp only[Prod.mk.injEq]at hx
   obtain ⟨rfl,rfl⟩:=hx
   rw[upd_self]at hb
   injection hb with hb
   subst hb
   refine ⟨⟨arr,heap_alloc_new w _,rfl,hz,fun i v hv=>is_upd (fun hm=>hk (mentL_get hv hm)) (hcs i v hv)⟩,.inl h.size,?_⟩
   cases hm:s.M w.heap.size with
   | none=>rfl
   | some o=>
    have:=h.sub _ _ hm
    rw[Array.getElem?_eq_none (Nat.le_refl _)]at this
    cases this
  ·rw[upd_ne _ _ hne]at hb
   obtain ⟨⟨arr2,f1⟩,f5⟩:=h.hp j T' ds b hx hb
   obtain ⟨g1,g2⟩:=h2 _ _ _ hx
   exact ⟨⟨arr2,by rw[hold b.b f1.lt];exact f1.there,f1.size,f1.le,fun i v hv=>is_upd (fun hm=>g2 (mentL_get hv hm)) (f1.is i v hv)⟩,f5⟩
 ·rcases hlk j _ hj with ⟨rfl,hx⟩|⟨hne,hx⟩
  ·rw[upd_self]at hb;cases hb
  ·rw[upd_ne _ _ hne]at hb
   exact h.no j T' ds hx hb
 ·have hs:∀j,(lkH ((k,T,cs) :: s.hp) j).isSome=true→j=k∨(j≠k∧(lkH s.hp j).isSome=true):=fun j hj=>by
   obtain ⟨x,hx⟩:=Option.isSome_iff_exists.1 hj
   rcases hlk j x hx with ⟨e,_⟩|⟨e,hx⟩
   ·exact .inl e
   ·exact .inr ⟨e,by rw[hx];rfl⟩
  rcases hs j hj with rfl|⟨hne,hj1⟩
  ·rcases hs j' hj' with rfl|⟨hne',hj1'⟩
   ·rfl
   ·rw[upd_self]at hb;injection hb with hb;subst hb
    have:=hlt j' _ hne' hj1' hb'
    simp only at e
    omega
  ·rcases hs j' hj' with rfl|⟨hne',hj1'⟩
   ·rw[upd_self]at hb';injection hb' with hb';subst hb'
    have:=hlt j _ hne hj1 hb
    simp only at e
    omega
   ·rw[upd_ne _ _ hne]at hb
    rw[upd_ne _ _ hne']at hb'
    exact h.inj j j' b b' hj1 hj1' hb hb' e
 ·rw[hold i (Nat.lt_of_lt_of_le hi h.size)];exact h.block i hi hx
 ·have hx':=h.sub x o hx
  rw[hold x (Array.getElem?_eq_some_iff.1 hx').1];exact hx'
 ·obtain ⟨x,hx⟩:=Option.isSome_iff_exists.1 (h.fix j hj)
  have hne:j≠k:=(h2 _ _ _ hx).1
  simp only[lkH,if_neg (Ne.symm hne)];exact h.fix j hj
 ·rw[upd_ne _ _ fun e=>hfx (by rw[←e];exact hj)];exact h.fx j hj
end
end Go.Proofs.Ytjapnklocibgaaa.Sx
