/- Part 16 of the texts of this claim: a symbolic executor and contracts of functions. -/
import Derived.Test.YtjapnklocibgaaaOCiRCTab
namespace Go.Proofs.Ytjapnklocibgaaa.Sx
open Go Go.RowKit
set_option linter.unusedVariables false
set_option linter.unusedSimpArgs false
def pureH:Hp→Prop
 | []=>True
 | (_,_,cs) :: r=>(∃vs:List Value,cs=vs.map .ext)∧pureH r
mutual
def BorV(M:Mem)(H:Hp):AV→Value→Prop
 | .ext v,u=>u=v
 | .slo k off n z,u=>∀T (cs:List Value),lkH H k=some (T,cs.map .ext)→off+n*z≤cs.length→SlM M z u n ((cs.drop off).take (n*z))
 | .ag t l,u=>∃us,BorL M H l us∧u=aggV t us
 | .own _ _,_=>True
 | .gd _ _,_=>True
 | .gown _ _ _,_=>True
 | .fn _ _,_=>True
 | .bm _ _,_=>True
 | .unk,_=>True
def BorL(M:Mem)(H:Hp):List AV→List Value→Prop
 | [],us=>us=[]
 | v :: l,us=>∃u r,us=u :: r∧BorV M H v u∧BorL M H l r
end
theorem slo_SlMo{ρ:Rho}{M:Mem}{w:World}{k off n z:Nat}{u:Value}{T:TypeId}{cs:List Value}(hu:(AV.slo k off n z).is ρ u)(hl:off+n*z≤cs.length)(hr:∀b,ρ k=some b→∃arr,M b.b=some (.cells arr T (0,0))∧Row ρ w T (cs.map .ext) b arr):SlM M z u n ((cs.drop off).take (n*z)):=by
 have hlen:((cs.drop off).take (n*z)).length=n*z:=by rw[List.length_take,List.length_drop];omega
 rcases hu with ⟨b,cap,hb,rfl,h1,h2⟩|⟨rfl,a,ha,rfl⟩
 ·obtain ⟨arr,h3,h4⟩:=hr b hb
  refine ⟨rfl,rfl,h1,hlen,?_⟩
  simp only[rowS]
  refine rowM_of hlen fun i v hi=>?_
  have hin:i<n*z:=by have:=(List.getElem?_eq_some_iff.1 hi).1;omega
  rw[List.getElem?_take_of_lt hin,List.getElem?_drop]at hi
  have h5:=h4.is (off+i) (.ext v) (by simp[hi])
  have h5:arr.getD (off+i) undef=v:=h5
  have h6:off+i<arr.size:=by
   have:=(List.getElem?_eq_some_iff.1 hi).1
   have:=h4.le
   have:=h4.size
   simp at *;omega
  simp only[cellM,h3]
  simp[Array.getD,h6]at h5
  simp[h6,h5]
 ·have:((cs.drop off).take (0*z))=[]:=by simp
  rw[this]
  refine ⟨rfl,rfl,Nat.zero_le _,by simp,?_⟩
  cases a with
  | none=>rfl
  | some a=>
   obtain ⟨b,off,sp⟩:=a
   cases sp with
   | none=>simp[rowS,rowM]
   | some x=>cases ha _ rfl
section
variable {ρ:Rho}{M:Mem}{H:Hp}{w:World}
mutual
theorem borV_is(hM:∀k T cs b,lkH H k=some (T,cs)→ρ k=some b→∃arr,M b.b=some (.cells arr T (0,0))∧Row ρ w T cs b arr):∀(v:AV) (u:Value),v.is ρ u→BorV M H v u
 | .ext _,_,h=>h
 | .slo k off n z,u,h=>fun T cs hk hl=>slo_SlMo h hl fun b hb=>hM k T _ b hk hb
 | .ag t l,u,h=>by
  obtain ⟨us,h1,h2⟩:=h
  exact ⟨us,borL_is hM l us h1,h2⟩
 | .own _ _,_,_=>trivial
 | .gd _ _,_,_=>trivial
 | .gown _ _ _,_,_=>trivial
 | .fn _ _,_,_=>trivial
 | .bm _ _,_,_=>trivial
 | .unk,_,_=>trivial
theorem borL_is(hM:∀k T cs b,lkH H k=some (T,cs)→ρ k=some b→∃arr,M b.b=some (.cells arr T (0,0))∧Row ρ w T cs b arr):∀(l:List AV) (us:List Value),isL ρ l us→BorL M H l us
 | [],us,h=>h
 | v :: l,us,h=>by
  obtain ⟨u,r,h0,h1,h2⟩:=h
  exact ⟨u,r,h0,borV_is hM v u h1,borL_is hM l r h2⟩
end
end
theorem pureH_lk:∀{H:Hp},pureH H→∀{k T cs},lkH H k=some (T,cs)→∃vs:List Value,cs=vs.map .ext
 | [],_,k,T,cs,h=>by simp[lkH]at h
 | (j,T',cs') :: r,hp,k,T,cs,h=>by
  simp only[lkH]at h
  split at h
  ·cases h;exact hp.1
  ·exact pureH_lk hp.2 h
theorem lkH_append:∀(H' H:Hp) (k:Nat),lkH (H'++H) k=match lkH H' k with|some x=>some x|none=>lkH H k
 | [],H,k=>rfl
 | (j,x) :: r,H,k=>by
  simp only[List.cons_append,lkH]
  split
  ·rfl
  ·exact lkH_append r H k
def BorK(H:Hp)(M M':Mem)(K:AV→Hp→Mem→Prop)(v:AV)(H':Hp)(M'':Mem):Prop:=(∀k,(lkH H k).isSome=true→lkH H' k=none)∧∀M3,Mem.le M M3→(∀b,M' b=none→M3 b=M'' b)→(M''=M'→M3=M)→K v (H'++H) M3
open Classical in
theorem CallS.bor{P:Program}{f:FuncId}{args:List AV}{H:Hp}{M:Mem}{K:AV→Hp→Mem→Prop}(hp:pureH H)
  (h:∀us M',Mem.le M M'→BorL M' H args us→CallS P f (us.map .ext) [] M' [] (BorK H M M' K)):CallS P f args H M [] K:=by
 intro ρ w us hh he
 let B:Nat→Prop:=fun b=>∃k x,(lkH H k).isSome=true∧ρ k=some x∧x.b=b
 let M':Mem:=fun b=>if B b then w.heap[b]? else M b
 have hMB:∀b,B b→M b=none:=fun b ⟨k,x,hk,hx,e⟩=>by
  obtain ⟨y,hy⟩:=Option.isSome_iff_exists.1 hk
  rw[←e];exact (hh.hp k y.1 y.2 x hy hx).2
 have hle:Mem.le M M':=fun b o hb=>by
  by_cases hB:B b
  ·rw[hMB b hB]at hb;cases hb
  ·simp only[M',if_neg hB];exact hb
 have hsub:Sub M' w:=fun b o hb=>by
  by_cases hB:B b
  ·simp only[M',if_pos hB]at hb;exact hb
  ·simp only[M',if_neg hB]at hb;exact hh.sub b o hb
 have hheap:HeapIs ρ [] M' w:=⟨fun k T cs b hk=>by simp[lkH]at hk,fun k T cs hk=>by simp[lkH]at hk,fun k k' b b' hk=>by simp[lkH]at hk,hsub⟩
 have hbor:BorL M' H args us:=borL_is (w:=w) (fun k T cs b hk hb=>by
  obtain ⟨⟨arr,h1⟩,h2⟩:=hh.hp k T cs b hk hb
  have hB:B b.b:=⟨k,b,by rw[hk];rfl,hb,rfl⟩
  exact ⟨arr,by simp only[M',if_pos hB];exact h1.there,h1⟩) args us he
 refine (h us M' hle hbor ρ w us hheap (isL_ext us)).mono fun e w' hall=>?_
 obtain ⟨r,v,H',M'',ρ',e1,⟨hK1,hK2⟩,hL⟩:=hall
 let M3:Mem:=fun b=>if B b then none else M'' b
 let ρ2:Rho:=fun k=>if (lkH H k).isSome=true then ρ k else ρ' k
 have hB3:∀b,¬B b→M3 b=M'' b:=fun b hb=>by simp only[M3,if_neg hb]
 have hle3:Mem.le M M3:=fun b o hb=>by
  have hB:¬B b:=fun hB=>by rw[hMB b hB]at hb;cases hb
  rw[hB3 b hB];exact hL.le b o (hle b o hb)
 have hk2:∀k,lkH H k=none→ρ2 k=ρ' k:=fun k hk=>by simp only[ρ2,hk];simp
 have hk1:∀k,(lkH H k).isSome=true→ρ2 k=ρ k:=fun k hk=>by simp only[ρ2,if_pos hk]
 have hmv:∀k,(lkH H k).isSome=true→k∉v.ment∧∀j T cs,lkH H' j=some (T,cs)→k∉mentL cs:=fun k hk=>hL.ment k (hK1 k hk)
 have hag:∀k,k∈v.ment→ρ' k=ρ2 k:=fun k hk=>by
  refine (hk2 k ?_).symm
  cases e:lkH H k with
  | none=>rfl
  | some x=>exact absurd hk (hmv k (by rw[e];rfl)).1
 have hlow:∀k x,(lkH H k).isSome=true→ρ k=some x→x.b<w.heap.size:=fun k x hk hx=>by
  obtain ⟨y,hy⟩:=Option.isSome_iff_exists.1 hk
  obtain ⟨⟨arr,h1⟩,_⟩:=hh.hp k y.1 y.2 x hy hx
  exact (Array.getElem?_eq_some_iff.1 h1.there).1
 have hblk:∀b,b<w.heap.size→w'.heap[b]? = w.heap[b]?:=fun b hb=>hL.block b hb fun j y hj=>by simp[lkH]at hj
 have hfr:∀k b,(lkH H' k).isSome=true→ρ' k=some b→w.heap.size≤b.b:=fun k b hk hb=>by
  rcases hL.fresh k b hk hb with h1|⟨j,x,h1,_⟩
  ·exact h1
  ·simp[lkH]at h1
 have hnB:∀k b,(lkH H' k).isSome=true→ρ' k=some b→¬B b.b:=fun k b hk hb ⟨j,x,hj,hx,e⟩=>by
  have:=hfr k b hk hb
  have:=hlow j x hj hx
  omega
 have hsplit:∀k x,lkH (H'++H) k=some x→(lkH H' k=some x∧lkH H k=none)∨(lkH H' k=none∧lkH H k=some x):=fun k x hx=>by
  rw[lkH_append]at hx
  cases e:lkH H' k with
  | none=>rw[e]at hx;exact .inr ⟨rfl,hx⟩
  | some y=>
   rw[e]at hx
   refine .inl ⟨hx,?_⟩
   cases e2:lkH H k with
   | none=>rfl
   | some z=>have:=hK1 k (by rw[e2];rfl);rw[e]at this;cases this
 have hpm:∀k T cs j,lkH H k=some (T,cs)→j∉mentL cs:=fun k T cs j hk=>by
  obtain ⟨vs,rfl⟩:=pureH_lk hp hk
  rw[mentL_ext];simp
 have hag3:∀b,M' b=none→M3 b=M'' b:=fun b hb=>by
  refine hB3 b fun hB=>?_
  obtain ⟨k,x,hk,hx,e⟩:=hB
  obtain ⟨y,hy⟩:=Option.isSome_iff_exists.1 hk
  obtain ⟨⟨arr,h1⟩,_⟩:=hh.hp k y.1 y.2 x hy hx
  have hB:B b:=⟨k,x,hk,hx,e⟩
  simp only[M',if_pos hB]at hb
  rw[←e,h1.there]at hb
  cases hb
 have hsame:M''=M'→M3=M:=fun e=>funext fun b=>by
  by_cases hB:B b
  ·simp only[M3,if_pos hB,hMB b hB]
  ·simp only[M3,if_neg hB,e,M']
 refine ⟨r,v,H'++H,M3,ρ2,e1,hK2 M3 hle3 hag3 hsame,?_⟩
 refine {is:=is_agree hag hL.is,heap:=⟨fun k T cs b hk hb=>?_,fun k T cs hk hb=>?_,fun k k' b b' hk hk' hb hb' e=>?_,fun b o hb=>?_⟩,keep:=fun k hk=>?_,same:=fun k hk _=>?_,ment:=fun k hk=>?_,fresh:=fun k b hk hb=>?_,os:=hL.os,tape:=hL.tape,output:=hL.output,size:=hL.size,block:=fun b hb _=>hblk b hb,le:=hle3,mem:=fun b hb=>?_}
 ·rcases hsplit k _ hk with ⟨h1,h2⟩|⟨h1,h2⟩
  ·rw[hk2 k h2]at hb
   obtain ⟨⟨arr,f1⟩,f2⟩:=hL.heap.hp k T cs b h1 hb
   refine ⟨⟨arr,f1.there,f1.size,f1.le,fun i x hx=>is_agree (fun q hq=>(hk2 q ?_).symm) (f1.is i x hx)⟩,?_⟩
   ·cases e:lkH H q with
    | none=>rfl
    | some y=>exact absurd (mentL_get hx hq) ((hmv q (by rw[e];rfl)).2 k T cs h1)
   ·rw[hB3 b.b (hnB k b (by rw[h1];rfl) hb)];exact f2
  ·rw[hk1 k (by rw[h2];rfl)]at hb
   obtain ⟨⟨arr,f1⟩,f2⟩:=hh.hp k T cs b h2 hb
   have hB:B b.b:=⟨k,b,by rw[h2];rfl,hb,rfl⟩
   refine ⟨⟨arr,?_,f1.size,f1.le,fun i x hx=>is_agree (fun q hq=>absurd (mentL_get hx hq) (hpm k T cs q h2)) (f1.is i x hx)⟩,by simp only[M3,if_pos hB]⟩
   rw[hblk b.b (hlow k b (by rw[h2];rfl) hb)];exact f1.there
 ·rcases hsplit k _ hk with ⟨h1,h2⟩|⟨h1,h2⟩
  ·rw[hk2 k h2]at hb;exact hL.heap.no k T cs h1 hb
  ·rw[hk1 k (by rw[h2];rfl)]at hb;exact hh.no k T cs h2 hb
 ·obtain ⟨x,hx⟩:=Option.isSome_iff_exists.1 hk
  obtain ⟨x',hx'⟩:=Option.isSome_iff_exists.1 hk'
  rcases hsplit k _ hx with ⟨h1,h2⟩|⟨h1,h2⟩<;>rcases hsplit k' _ hx' with ⟨h3,h4⟩|⟨h3,h4⟩
  ·rw[hk2 k h2]at hb;rw[hk2 k' h4]at hb'
   exact hL.heap.inj k k' b b' (by rw[h1];rfl) (by rw[h3];rfl) hb hb' e
  ·rw[hk2 k h2]at hb;rw[hk1 k' (by rw[h4];rfl)]at hb'
   have:=hfr k b (by rw[h1];rfl) hb
   have:=hlow k' b' (by rw[h4];rfl) hb'
   omega
  ·rw[hk1 k (by rw[h2];rfl)]at hb;rw[hk2 k' h4]at hb'
   have:=hlow k b (by rw[h2];rfl) hb
   have:=hfr k' b' (by rw[h3];rfl) hb'
   omega
  ·rw[hk1 k (by rw[h2];rfl)]at hb;rw[hk1 k' (by rw[h4];rfl)]at hb'
   exact hh.inj k k' b b' (by rw[h2];rfl) (by rw[h4];rfl) hb hb' e
 ·by_cases hB:B b
  ·simp only[M3,if_pos hB]at hb;cases hb
  ·rw[hB3 b hB]at hb;exact hL.heap.sub b o hb
 ·obtain ⟨x,hx⟩:=Option.isSome_iff_exists.1 hk
  rw[lkH_append,hK1 k hk];exact hk
 ·rcases hk with hk|hk
  ·exact hk1 k hk
  ·have h1:lkH H' k=none:=by
    rw[lkH_append]at hk
    cases e:lkH H' k with
    | none=>rfl
    | some y=>rw[e]at hk;cases hk
   have h2:lkH H k=none:=by rw[lkH_append,h1]at hk;exact hk
   rw[hk2 k h2]
   exact hL.same k (.inr h1) (by simp)
 ·have h1:lkH H' k=none:=by
   rw[lkH_append]at hk
   cases e:lkH H' k with
   | none=>rfl
   | some y=>rw[e]at hk;cases hk
  obtain ⟨m1,m2⟩:=hL.ment k h1
  refine ⟨m1,fun j T cs hj=>?_⟩
  rcases hsplit j _ hj with ⟨h3,h4⟩|⟨h3,h4⟩
  ·exact m2 j T cs h3
  ·exact hpm j T cs k h4
 ·obtain ⟨x,hx⟩:=Option.isSome_iff_exists.1 hk
  rcases hsplit k _ hx with ⟨h1,h2⟩|⟨h1,h2⟩
  ·rw[hk2 k h2]at hb
   exact .inl (hfr k b (by rw[h1];rfl) hb)
  ·rw[hk1 k (by rw[h2];rfl)]at hb
   exact .inr ⟨k,b,by rw[h2];rfl,hb,rfl⟩
 ·have hB:¬B b:=fun hB=>hb (by simp only[M3,if_pos hB])
  rw[hB3 b hB]at hb
  rcases hL.mem b hb with h1|h1
  ·simp only[M',if_neg hB]at h1;exact .inl h1
  ·exact .inr h1
def FreshS(M:Mem)(u:Value):Prop:=slen u=0∨∀b off n c,u=.slice (some ⟨b,off,none⟩) n c→M b=none
theorem FreshS.le{M M':Mem}{u:Value}(h:FreshS M' u)(hM:Mem.le M M'):FreshS M u:=h.imp id fun h b off n c e=>by
 have:=h b off n c e
 cases hb:M b with
 | none=>rfl
 | some o=>rw[hM b o hb]at this;cases this
theorem freshS_nil(M:Mem)(c:Nat):FreshS M (.slice none 0 c):=.inl rfl
theorem SlM.move{M' M'' M3:Mem}{z n:Nat}{u:Value}{cs:List Value}(h:SlM M'' z u n cs)(hf:FreshS M' u)(h3:∀b,M' b=none→M3 b=M'' b):SlM M3 z u n cs:=by
 rcases h.cases with ⟨rfl,rfl,a,c,rfl⟩|⟨b,off,c,rfl,hc,hr⟩
 ·exact slM_empty M3 z a c
 ·refine ⟨rfl,rfl,hc,h.size,?_⟩
  rcases hf with hf|hf
  ·simp only[slen]at hf
   subst hf
   simp only[rowS,Nat.zero_mul,rowM]at hr ⊢
   exact hr
  ·have e:=h3 b (hf b off n c rfl)
   obtain ⟨h1,h2⟩:=rowM_get hr
   simp only[rowS]
   refine rowM_of h1 fun i v hi=>?_
   have:=h2 i v hi
   unfold cellM at this ⊢
   rw[e];exact this
theorem IsL.move{α:Type}{g:α→Value}{M' M'' M3:Mem}{u:Value}{l:List α}(h:IsL M'' g u l)(hf:FreshS M' u)(h3:∀b,M' b=none→M3 b=M'' b):IsL M3 g u l:=SlM.move h hf h3
def FrzF(K:AV→Hp→Mem→Prop)(H:Hp)(v:AV)(H':Hp)(M':Mem):Prop:=K v H' M'∨∃t l1 l2 k n z T cs H2,v=putMid t l1 (.slo k 0 n z) l2∧H'=(k,T,cs.map .ext) :: H2∧lkH H2 k=none∧lkH H k=none∧cs.length=n*z∧
   hasK k (mentL l1++(mentL l2++mentH H2))=false∧∀u M'',Mem.le M' M''→SlM M'' z u n cs→FreshS M' u→K (putMidV t l1 (.ext u) l2) H2 M''
theorem FrzF.one{K:AV→Hp→Mem→Prop}{H:Hp}{M':Mem}{k n z:Nat}{T:TypeId}(cs:List Value)(h1:lkH H k=none)(h2:cs.length=n*z)(h:∀u M'',Mem.le M' M''→SlM M'' z u n cs→FreshS M' u→K (.ext u) [] M''):FrzF K H (.slo k 0 n z) [(k,T,cs.map .ext)] M':=
 .inr ⟨none,[],[],k,n,z,T,cs,[],rfl,rfl,rfl,h1,h2,rfl,h⟩
theorem FrzF.tup{K:AV→Hp→Mem→Prop}{H:Hp}{M':Mem}{k n z:Nat}{T:TypeId}(vs1 vs2:List Value)(cs:List Value)(h1:lkH H k=none)(h2:cs.length=n*z)(h:∀u M'',Mem.le M' M''→SlM M'' z u n cs→FreshS M' u→K (.ext (.tuple (vs1++u :: vs2).toArray)) [] M''):FrzF K H (.ag true (vs1.map .ext++.slo k 0 n z :: vs2.map .ext)) [(k,T,cs.map .ext)] M':=by
 have hv:∀l:List Value,vals (l.map .ext)=some l:=fun l=>by
  induction l with
  | nil=>rfl
  | cons x r ih=>simp[vals,ih]
 refine .inr ⟨some true,vs1.map .ext,vs2.map .ext,k,n,z,T,cs,[],rfl,rfl,rfl,h1,h2,by simp[mentL_ext,mentH,hasK],fun u M'' hM hs hf=>?_⟩
 have:putMidV (some true) (vs1.map .ext) (.ext u) (vs2.map .ext)=.ext (.tuple (vs1++u :: vs2).toArray):=by
  have e:(vs1.map AV.ext)++AV.ext u :: vs2.map .ext=(vs1++u :: vs2).map .ext:=by simp
  simp only[putMidV,tupA,e,hv]
 rw[this];exact h u M'' hM hs hf
theorem CallS.frzF{P:Program}{f:FuncId}{args:List AV}{H:Hp}{M:Mem}{K:AV→Hp→Mem→Prop}(h:CallS P f args H M [] (FrzF K H)):CallS P f args H M [] K:=by
 intro ρ w us hh he
 refine (h ρ w us hh he).mono fun e w' hall=>?_
 obtain ⟨x,v,H',M',ρ',e1,hor,hl⟩:=hall
 rcases hor with hor|⟨t,l1,l2,k,n,z,T,cs,H2,rfl,rfl,g1,g2,g3,g4,g5⟩
 ·exact ⟨x,v,H',M',ρ',e1,hor,hl⟩
 obtain ⟨u,hu,hx⟩:=putMid_ok hl.is
 obtain ⟨M'',h1,h2,h3,h4⟩:=hl.heap.frz g1
 have hsl:=slo_SlM hu g3 h4
 have hfr:FreshS M' u:=by
  rcases hu with ⟨b,cap,hb,e,h5,h6⟩|⟨e,a,ha,e2⟩
  ·refine .inr fun b' off n' c e'=>?_
   rw[e]at e'
   cases e'
   exact (hl.heap.hp k T (cs.map .ext) b (by simp[lkH]) hb).2
  ·refine .inl ?_
   rw[e2];rfl
 have hK:=g5 u M'' h1 hsl hfr
 have hoff:=hasK_no.1 g4
 simp only[List.mem_append,not_or]at hoff
 have hlk:∀j,lkH H2 j=none→j≠k→lkH ((k,T,cs.map .ext) :: H2) j=none:=fun j hj hne=>by simp only[lkH];rw[if_neg (Ne.symm hne)];exact hj
 have hlk2:∀j x,lkH H2 j=some x→lkH ((k,T,cs.map .ext) :: H2) j=some x:=fun j x hj=>by
  simp only[lkH];rw[if_neg fun e=>by rw[←e,g1]at hj;cases hj];exact hj
 let ρ2:Rho:=fun j=>if j=k then ρ k else ρ' j
 have hρ2:∀j,j≠k→ρ' j=ρ2 j:=fun j hj=>by simp only[ρ2,if_neg hj]
 have hkv:k∉(putMidV t l1 (.ext u) l2).ment:=fun hm=>by
  have:=putMidV_ment hm .unk
  cases t with
  | none=>simp[putMid,AV.ment]at this
  | some t=>
   simp only[putMid,AV.ment,mentL_append,mentL,List.mem_append,List.not_mem_nil,false_or]at this
   rcases this with h|h
   ·exact hoff.1 h
   ·exact hoff.2.1 h
 have hkH:∀j T' ds,lkH H2 j=some (T',ds)→j≠k∧k∉mentL ds:=fun j T' ds hj=>⟨(fun e=>by rw[e,g1]at hj;cases hj),fun hm=>hoff.2.2 (mentH_lk hj (.inr hm))⟩
 refine ⟨x,_,H2,M'',ρ2,e1,hK,?_⟩
 refine {is:=is_agree (fun j hj=>hρ2 j fun e=>hkv (e▸hj)) hx,heap:=⟨fun j T' ds b hj hb=>?_,fun j T' ds hj hb=>?_,fun j j' b b' hj hj' hb hb'=>?_,h3.sub⟩,keep:=fun j hj=>?_,same:=fun j hj hm=>?_,ment:=fun j hj=>?_,fresh:=fun j b hj hb=>?_,os:=hl.os,tape:=hl.tape,output:=hl.output,size:=hl.size,block:=hl.block,le:=hl.le.trans h1,mem:=fun b hb=>?_}
 ·obtain ⟨hne,hmm⟩:=hkH j T' ds hj
  rw[←hρ2 j hne]at hb
  obtain ⟨⟨arr,f1⟩,f2⟩:=h3.hp j T' ds b hj hb
  exact ⟨⟨arr,f1.there,f1.size,f1.le,fun i v hv=>is_agree (fun q hq=>hρ2 q fun e=>hmm (mentL_get hv (e▸hq))) (f1.is i v hv)⟩,f2⟩
 ·rw[←hρ2 j (hkH j T' ds hj).1]at hb;exact h3.no j T' ds hj hb
 ·obtain ⟨y,hy⟩:=Option.isSome_iff_exists.1 hj
  obtain ⟨y',hy'⟩:=Option.isSome_iff_exists.1 hj'
  rw[←hρ2 j (hkH j _ _ hy).1]at hb
  rw[←hρ2 j' (hkH j' _ _ hy').1]at hb'
  exact h3.inj j j' b b' hj hj' hb hb'
 ·have:=hl.keep j hj
  simp only[lkH]at this
  split at this
  ·rename_i e;rw[e]at g2;rw[g2]at hj;cases hj
  ·exact this
 ·by_cases e:j=k
  ·show (if j=k then ρ k else ρ' j)=ρ j
   rw[if_pos e,e]
  ·rw[←hρ2 j e]
   refine hl.same j ?_ hm
   rcases hj with hj|hj
   ·exact .inl hj
   ·exact .inr (hlk j hj e)
 ·by_cases e:j=k
  ·rw[e];exact ⟨hkv,fun i T' ds hi=>(hkH i T' ds hi).2⟩
  ·obtain ⟨m1,m2⟩:=hl.ment j (hlk j hj e)
   exact ⟨fun hm=>m1 (putMidV_ment hm _),fun i T' ds hi=>m2 i T' ds (hlk2 i _ hi)⟩
 ·obtain ⟨y,hy⟩:=Option.isSome_iff_exists.1 hj
  rw[←hρ2 j (hkH j _ _ hy).1]at hb
  exact hl.fresh j b (by rw[hlk2 j y hy];rfl) hb
 ·rcases h2 b hb with h5|⟨y,h5,rfl⟩
  ·exact hl.mem b h5
  ·rcases hl.fresh k y (by simp[lkH]) h5 with h6|⟨j,q,h6,h7,h8⟩
   ·exact .inr h6
   ·exfalso
    have hj:=hl.keep j h6
    have hj2:ρ' j=some q:=by rw[hl.same j (.inl h6) (by simp)];exact h7
    have:=hl.heap.inj j k q y hj (by simp[lkH]) hj2 h5 h8
    subst this
    rw[g2]at h6;cases h6
end Go.Proofs.Ytjapnklocibgaaa.Sx
