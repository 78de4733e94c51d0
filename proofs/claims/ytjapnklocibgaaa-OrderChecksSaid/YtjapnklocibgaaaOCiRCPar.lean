/- Part 19 of the texts of this claim: a symbolic executor and contracts of functions. -/
import Derived.Test.YtjapnklocibgaaaOCiRCStr
namespace Go.Proofs.Ytjapnklocibgaaa.Sx
open Go Go.RowKit
set_option linter.unusedVariables false
set_option linter.unusedSimpArgs false
set_option maxRecDepth 100000
set_option maxHeartbeats 8000000
attribute [local congr] fin_congr finG_congr stepG_congr step1_congr runOps_congr brv_congr obl_congr condK_congr LoopK_congr seqK_congr CutK_congr vc_congr DrawK_congr regK_congr CallK_congr AskK_congr newK_congr retC_congr ret1_congr retK_congr outV_congr closeK_congr genR_congr appR_congr finD_congr finGD_congr stepGD_congr stepD_congr CallK0_congr runD_congr okR_congr CallS_congr vcX_congr
theorem IsL.idx{α:Type}{P:Program}{T:TypeId}{M:Mem}{g:α→Value}{u:Value}{l:List α}(h:IsL M g u l)(hk:kindT P T=some false)(hz:szO P T=some 1)(hb:l.length≤9223372036854775807){i:Nat}(hi:i<l.length) :
  lookM P T M (elemP u 1 i)=some (g l[i])∧nilS u=false∧isSl u=true∧slen u=l.length∧decide ((i:Int)<(l.length:Int))=true∧(i:Int)<(l.length:Int)∧(0:Int)≤(i:Int)∧IntKind.i64.wrap ((i:Int)+1)=((i+1:Nat):Int):=
 ⟨h.at hk hz hi,h.nn hi,h.sl,h.len,by simp;omega,by omega,by omega,by rw[wrap_id (by omega) (by omega)];omega⟩
theorem IsL.fin{α:Type}{M:Mem}{g:α→Value}{u:Value}{l:List α}(h:IsL M g u l){i:Nat}(hi:¬i<l.length):isSl u=true∧slen u=l.length∧decide ((i:Int)<(l.length:Int))=false:=
 ⟨h.sl,h.len,by simp;omega⟩
theorem BorK.same{H:Hp}{M M':Mem}{K:AV→Hp→Mem→Prop}{v:AV}(hK:K v H M):BorK H M M' K v [] M':=⟨fun _ _=>rfl,fun M3 _ _ h=>by rw[h rfl];exact hK⟩
theorem BorV.part{α:Type}{M:Mem}{H:Hp}{k off n:Nat}{g:α→Value}{L:List α}{u:Value}{T:TypeId}(h:BorV M H (.slo k off n 1) u)(hk:lkH H k=some (T,cE g L))(hn:off+n≤L.length):IsL M g u ((L.drop off).take n):=by
 have h:=h T (L.map g) hk (by simpa using hn)
 have hl:((L.drop off).take n).length=n:=by rw[List.length_take,List.length_drop];omega
 unfold IsL
 rw[hl,List.map_take,List.map_drop]
 simpa using h
theorem BorV.isL{α:Type}{M:Mem}{H:Hp}{k n:Nat}{g:α→Value}{L:List α}{u:Value}{T:TypeId}(h:BorV M H (.slo k 0 n 1) u)(hk:lkH H k=some (T,cE g L))(hn:n=L.length):IsL M g u L:=by
 have:=BorV.part h hk (by omega)
 rwa[List.drop_zero,List.take_of_length_le (by omega)]at this
theorem allOne_cE{α:Type}(g:α→Value)(hg:∀x,oneC (.ext (g x))):∀l:List α,allOne (cE g l)
 | []=>trivial
 | x :: r=>⟨hg x,allOne_cE g hg r⟩
theorem le_take{s:St}(k m:Nat)(T:TypeId)(cs:List AV)(h0:lkH s.hp k=some (T,cs)):Le s {env:=s.env,hp:=upH s.hp k (cs.take m),M:=s.M,kb:=s.kb,fx:=s.fx,fr:=s.fr}:=fun c n ρ av w g=>by
 have hlk:∀j x,lkH (upH s.hp k (cs.take m)) j=some x→(j≠k∧lkH s.hp j=some x)∨(j=k∧x=(T,cs.take m)):=fun j x hj=>by
  rw[lkH_upH]at hj
  by_cases e2:k=j
  ·rw[if_pos e2,h0]at hj
   exact .inr ⟨e2.symm,(Option.some.inj hj).symm⟩
  ·rw[if_neg e2]at hj
   exact .inl ⟨fun h=>e2 h.symm,hj⟩
 have hsome:∀j,(lkH (upH s.hp k (cs.take m)) j).isSome=true→(lkH s.hp j).isSome=true:=fun j h=>by
  obtain ⟨x,hx⟩:=Option.isSome_iff_exists.1 h
  rcases hlk j x hx with ⟨_,h⟩|⟨h,_⟩
  ·rw[h];rfl
  ·rw[h,h0];rfl
 refine ⟨ρ,{df:=g.df,sz:=g.sz,env:=g.env,hp:=fun j T' cs' b hj hb=>?_,no:=fun j T' cs' hj hb=>?_,inj:=fun j j' b b' hj hj' hb hb' e=>g.inj j j' b b' (hsome j hj) (hsome j' hj') hb hb' e,os:=g.os,tape:=g.tape,output:=g.output,size:=g.size,block:=g.block,sub:=g.sub,le:=g.le,mf:=g.mf,fix:=fun j hj=>?_,fx:=g.fx,kl:=g.kl,fr:=g.fr}⟩
 ·rcases hlk j _ hj with ⟨_,hx⟩|⟨rfl,hx⟩
  ·exact g.hp j T' cs' b hx hb
  ·cases hx
   obtain ⟨⟨arr,f1⟩,f2⟩:=g.hp j T cs b h0 hb
   exact ⟨⟨arr,f1.there,f1.size,by rw[List.length_take];have:=f1.le;omega,fun i v hv=>f1.is i v (by
    rw[List.getElem?_take]at hv
    split at hv
    ·exact hv
    ·cases hv)⟩,f2⟩
 ·rcases hlk j _ hj with ⟨_,hx⟩|⟨rfl,hx⟩
  ·exact g.no j T' cs' hx hb
  ·cases hx
   rw[g.no j T cs h0 hb];simp
 ·have:=g.fix j hj
  rw[lkH_upH]
  split
  ·rename_i e;rw[e];simpa using this
  ·exact this
theorem cE_take{α:Type}(g:α→Value)(l:List α)(m:Nat):(cE g l).take m=cE g (l.take m):=by simp[cE]
theorem cE_drop{α:Type}(g:α→Value)(l:List α)(m:Nat):(cE g l).drop m=cE g (l.drop m):=by simp[cE]
theorem cE_set{α:Type}(g:α→Value)(l:List α)(i:Nat)(x:α):(cE g l).set i (.ext (g x))=cE g (l.set i x):=by simp[cE,List.map_set]
theorem cE_at{α:Type}(g:α→Value){l:List α}{i:Nat}(h:i<l.length):(cE g l)[i]? = some (.ext (g l[i])):=by simp[cE,h]
theorem cE_rep{α:Type}(g:α→Value)(n:Nat)(x:α):(repN [g x] n).map AV.ext=cE g (List.replicate n x):=by
 induction n with
 | zero=>rfl
 | succ n ih=>simp only[repN,List.map_append,ih,List.replicate_succ,cE,List.map_cons];rfl
theorem CallS.cut{P:Program}{f:FuncId}{args:List AV}{H:Hp}{M:Mem}{mv:List Nat}{K:AV→Hp→Mem→Prop}
  (h:CallS P f args H M mv fun v H' M'=>∃k T cs m H2,H'=(k,T,cs) :: H2∧K v ((k,T,cs.take m) :: H2) M'):CallS P f args H M mv K:=by
 intro ρ w us hh he
 refine (h ρ w us hh he).mono fun e w' hall=>?_
 obtain ⟨x,v,H',M',ρ',e1,⟨k,T,cs,m,H2,rfl,hK⟩,hl⟩:=hall
 have hs:∀j,(lkH ((k,T,cs.take m) :: H2) j).isSome=(lkH ((k,T,cs) :: H2) j).isSome:=fun j=>by
  simp only[lkH];split<;>rfl
 have hn:∀j,lkH ((k,T,cs.take m) :: H2) j=none→lkH ((k,T,cs) :: H2) j=none:=fun j hj=>by
  have:=hs j
  rw[hj]at this
  simpa using this.symm
 have hlk:∀j T' ds,lkH ((k,T,cs.take m) :: H2) j=some (T',ds)→∃ds',lkH ((k,T,cs) :: H2) j=some (T',ds')∧(ds=ds'∨ds=ds'.take m):=fun j T' ds hj=>by
  simp only[lkH]at hj ⊢
  split at hj
  ·rename_i e;cases hj;exact ⟨cs,by simp[e],.inr rfl⟩
  ·rename_i e;exact ⟨ds,by simp[e,hj],.inl rfl⟩
 refine ⟨x,v,_,M',ρ',e1,hK,?_⟩
 refine {is:=hl.is,heap:=⟨fun j T' ds b hj hb=>?_,fun j T' ds hj hb=>?_,fun j j' b b' hj hj'=>hl.heap.inj j j' b b' (by rw[←hs];exact hj) (by rw[←hs];exact hj'),hl.heap.sub⟩,keep:=fun j hj=>by rw[hs];exact hl.keep j hj,same:=fun j hj hm=>hl.same j (hj.imp id (hn j)) hm,ment:=fun j hj=>?_,fresh:=fun j b hj=>hl.fresh j b (by rw[←hs];exact hj),os:=hl.os,tape:=hl.tape,output:=hl.output,size:=hl.size,block:=hl.block,le:=hl.le,mem:=hl.mem}
 ·obtain ⟨ds',h1,h2⟩:=hlk j T' ds hj
  obtain ⟨⟨arr,f1⟩,f2⟩:=hl.heap.hp j T' ds' b h1 hb
  refine ⟨⟨arr,f1.there,f1.size,?_,fun i v hv=>f1.is i v ?_⟩,f2⟩
  ·rcases h2 with rfl|rfl
   ·exact f1.le
   ·rw[List.length_take];have:=f1.le;omega
  ·rcases h2 with rfl|rfl
   ·exact hv
   ·rw[List.getElem?_take]at hv
    split at hv
    ·exact hv
    ·cases hv
 ·obtain ⟨ds',h1,h2⟩:=hlk j T' ds hj
  have:=hl.heap.no j T' ds' h1 hb
  subst this
  rcases h2 with rfl|rfl<;>simp
 ·obtain ⟨m1,m2⟩:=hl.ment j (hn j hj)
  refine ⟨m1,fun i T' ds hi=>?_⟩
  obtain ⟨ds',h1,h2⟩:=hlk i T' ds hi
  have:=m2 i T' ds' h1
  rcases h2 with rfl|rfl
  ·exact this
  ·intro hm
   obtain ⟨v,hv,hv2⟩:=mentL_mem hm
   exact this (mentL_of (List.mem_of_mem_take hv) hv2)
theorem FrzF.rest{K:AV→Hp→Mem→Prop}{H H2:Hp}{M':Mem}{k n:Nat}{T:TypeId}(cs:List Value)(h1:lkH H k=none)(h2:cs.length=n)(h3:hasK k (mentH H2)=false)(h4:lkH H2 k=none)(h:∀u M'',Mem.le M' M''→SlM M'' 1 u n cs→FreshS M' u→K (.ext u) H2 M''):FrzF K H (.slo k 0 n 1) ((k,T,cs.map .ext) :: H2) M':=
 .inr ⟨none,[],[],k,n,1,T,cs,H2,rfl,rfl,h4,h1,by omega,by simpa [mentL] using h3,h⟩
theorem SlM.sub{M:Mem}{n:Nat}{u:Value}{cs:List Value}(h:SlM M 1 u n cs){i j:Nat}(hij:i≤j)(hj:j≤n):SlM M 1 (subS u 1 i j) (j-i) ((cs.drop i).take (j-i)):=by
 rcases h.cases with ⟨rfl,rfl,a,c,rfl⟩|⟨b,off,c,rfl,hc,hr⟩
 ·obtain rfl:j=0:=by omega
  obtain rfl:i=0:=by omega
  exact slM_empty M 1 _ _
 ·have hs:=h.size
  obtain ⟨h1,h2⟩:=rowM_get hr
  have hlen:((cs.drop i).take (j-i)).length=j-i:=by rw[List.length_take,List.length_drop];omega
  refine ⟨rfl,rfl,?_,by rw[hlen];omega,?_⟩
  ·simp only[subS,scap];omega
  ·by_cases e:c=i
   ·subst e
    obtain rfl:j=c:=by omega
    simp[subS,rowS,rowM]
   ·have ea:subS (.slice (some ⟨b,off,none⟩) n c) 1 i j=.slice (some ⟨b,off+i,none⟩) (j-i) (c-i):=by
     simp only[subS,if_neg e,Option.map_some,Nat.mul_one,Addr.add]
     by_cases h0:i=0
     ·subst h0;rfl
     ·simp only[if_neg h0]
    rw[ea]
    simp only[rowS,Nat.mul_one]
    refine rowM_of hlen fun q v hq=>?_
    have hql:q<j-i:=by
     have:=(List.getElem?_eq_some_iff.1 hq).1
     omega
    rw[List.getElem?_take_of_lt hql,List.getElem?_drop]at hq
    have:=h2 (i+q) v hq
    rw[show off+i+q=off+(i+q) by omega]
    exact this
theorem IsL.sub{α:Type}{M:Mem}{g:α→Value}{u:Value}{l:List α}(h:IsL M g u l){i j:Nat}(hij:i≤j)(hj:j≤l.length):IsL M g (subS u 1 i j) ((l.drop i).take (j-i)):=by
 have:=SlM.sub h hij hj
 unfold IsL
 rw[←List.map_drop,←List.map_take]at this
 rw[show ((l.drop i).take (j-i)).length=j-i by rw[List.length_take,List.length_drop];omega]
 exact this
end Go.Proofs.Ytjapnklocibgaaa.Sx
