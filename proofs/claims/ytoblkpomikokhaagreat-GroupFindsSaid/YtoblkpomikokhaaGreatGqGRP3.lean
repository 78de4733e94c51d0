/- Part 28 of the texts of this claim: a symbolic executor and contracts of functions. -/
import Derived.Test.YtoblkpomikokhaaGreatGqGRP2
import Derived.Test.YtoblkpomikokhaaGreatGqGRCMaq
namespace Go.Proofs.YtoblkpomikokhaaGreat.Sx
open Go Go.RowKit
set_option linter.unusedVariables false
set_option linter.unusedSimpArgs false
section
variable {b:Nat}{T T0:TypeId}{Ls:List (List Value)}{r:Hp}{k i n O m:Nat}
theorem ltB_no{l:List Nat}(h:ltB b l=true){j:Nat}(hj:b≤j):j∉l:=fun hm=>by
 have:=ltB_mem h j hm;omega
theorem le_fam{s:St}(T:TypeId)(h0:lkH s.hp O=some (T0,List.replicate n (.ext (.slice none 0 0))))(hb:ltB b (mentE s.env)=true)(hb2:ltB b (mentH s.hp)=true)(hb3:ltB b s.fx=true)(hkb:s.kb≤b) :
  Le s {env:=s.env,hp:=famH b T (List.replicate n []) (upH s.hp O (famC b (List.replicate n []))),M:=s.M,kb:=s.kb,fx:=s.fx,fr:=s.fr}:=fun c q ρ a w g=>by
 let ρ':Rho:=fun k=>if b≤k then none else ρ k
 have hlt:∀k,k<b→ρ k=ρ' k:=fun k hk=>by simp only[ρ',if_neg (show ¬b≤k by omega)]
 have hOb:O<b:=by
  refine Classical.byContradiction fun h=>?_
  exact ltB_no hb2 (show b≤O by omega) (mentH_lk h0 (.inl rfl))
 have hkey:∀j x,lkH s.hp j=some x→j<b:=fun j x hj=>by
  refine Classical.byContradiction fun h=>?_
  exact ltB_no hb2 (show b≤j by omega) (mentH_lk (T:=x.1) (cs:=x.2) hj (.inl rfl))
 have hcell:∀j T cs q,lkH s.hp j=some (T,cs)→q∈mentL cs→q<b:=fun j T cs q hj hq=>by
  refine Classical.byContradiction fun h=>?_
  exact ltB_no hb2 (show b≤q by omega) (mentH_lk hj (.inr hq))
 have hget:∀(j:Nat) l,(List.replicate n ([]:List Value))[j]? = some l→l=[]:=fun j l h=>by
  rw[List.getElem?_replicate]at h
  split at h
  ·cases h;rfl
  ·cases h
 have hsplit:∀j T' cs,lkH (famH b T (List.replicate n []) (upH s.hp O (famC b (List.replicate n [])))) j=some (T',cs)→(b≤j∧cs=[])∨(j<b∧((j=O∧T'=T0∧cs=famC b (List.replicate n []))∨(j≠O∧lkH s.hp j=some (T',cs)))):=fun j T' cs hj=>by
  by_cases h:b≤j
  ·left
   unfold famH at hj
   rw[lkH_append,lkH_famB,if_pos h]at hj
   refine ⟨h,?_⟩
   cases e:(List.replicate n ([]:List Value))[j-b]? with
   | some l=>
    rw[e]at hj
    simp only[Option.map_some,Option.some.injEq,Prod.mk.injEq]at hj
    rw[←hj.2,hget _ _ e];rfl
   | none=>
    rw[e]at hj
    simp only[Option.map_none,lkH_upH]at hj
    split at hj
    ·omega
    ·have:=hkey j _ hj;omega
  ·right
   rw[lkH_fam (by omega),lkH_upH]at hj
   refine ⟨by omega,?_⟩
   by_cases e:O=j
   ·subst e
    rw[if_pos rfl,h0]at hj
    simp only[Option.map_some,Option.some.injEq,Prod.mk.injEq]at hj
    exact .inl ⟨rfl,hj.1.symm,hj.2.symm⟩
   ·rw[if_neg e]at hj
    exact .inr ⟨fun h=>e h.symm,hj⟩
 have hsome:∀j bb,(lkH (famH b T (List.replicate n []) (upH s.hp O (famC b (List.replicate n [])))) j).isSome=true→ρ' j=some bb→j<b∧(lkH s.hp j).isSome=true∧ρ j=some bb:=fun j bb hj hb'=>by
  obtain ⟨⟨T',cs⟩,hx⟩:=Option.isSome_iff_exists.1 hj
  rcases hsplit j T' cs hx with ⟨h1,_⟩|⟨h1,h2⟩
  ·simp only[ρ',if_pos h1]at hb';cases hb'
  ·rw[←hlt j h1]at hb'
   rcases h2 with ⟨rfl,_,_⟩|⟨_,h3⟩
   ·exact ⟨h1,by rw[h0];rfl,hb'⟩
   ·exact ⟨h1,by rw[h3];rfl,hb'⟩
 refine ⟨ρ',{df:=g.df,sz:=g.sz,env:=fun t=>?_,hp:=fun j T' cs bb hj hb'=>?_,no:=fun j T' cs hj hb'=>?_,inj:=fun j j' bb bb' hj hj' hb1 hb2' e=>?_,os:=g.os,tape:=g.tape,output:=g.output,size:=g.size,block:=g.block,sub:=g.sub,le:=g.le,mf:=g.mf,fix:=fun j hj=>?_,fx:=fun j hj=>?_,kl:=g.kl,fr:=g.fr}⟩
 ·refine is_agree (fun j hj=>hlt j ?_) (g.env t)
  exact Classical.byContradiction fun h=>ltB_no hb (show b≤j by omega) (mentE_lk hj)
 ·rcases hsplit j T' cs hj with ⟨h1,_⟩|⟨h1,h2⟩
  ·simp only[ρ',if_pos h1]at hb';cases hb'
  ·rw[←hlt j h1]at hb'
   rcases h2 with ⟨rfl,rfl,rfl⟩|⟨_,h3⟩
   ·obtain ⟨⟨arr,f1⟩,f2⟩:=g.hp j T' _ bb h0 hb'
    refine ⟨⟨arr,f1.there,f1.size,by rw[famC_len];have:=f1.le;simpa using this,fun q v hv=>?_⟩,f2⟩
    rw[famC_get?]at hv
    cases e:(List.replicate n ([]:List Value))[q]? with
    | none=>rw[e]at hv;cases hv
    | some l=>
     rw[e]at hv
     simp only[Option.map_some,Option.some.injEq]at hv
     rw[hget _ _ e]at hv
     have hq:q<n:=by
      rw[List.getElem?_replicate]at e
      split at e
      ·assumption
      ·cases e
     have:=f1.is q (.ext (.slice none 0 0)) (by rw[List.getElem?_replicate,if_pos hq])
     have this:arr.getD q undef=.slice none 0 0:=this
     rw[this,←hv]
     exact .inr ⟨rfl,none,(fun x e=>by cases e),rfl⟩
   ·obtain ⟨⟨arr,f1⟩,f2⟩:=g.hp j T' cs bb h3 hb'
    exact ⟨⟨arr,f1.there,f1.size,f1.le,fun q v hv=>is_agree (fun y hy=>hlt y (hcell j T' cs y h3 (mentL_get hv hy))) (f1.is q v hv)⟩,f2⟩
 ·rcases hsplit j T' cs hj with ⟨_,h2⟩|⟨h1,h2⟩
  ·exact h2
  ·rw[←hlt j h1]at hb'
   rcases h2 with ⟨rfl,_,rfl⟩|⟨_,h3⟩
   ·have:=g.no j _ _ h0 hb'
    have hn:n=0:=by
     have:=congrArg List.length this
     simpa using this
    subst hn;rfl
   ·exact g.no j T' cs h3 hb'
 ·obtain ⟨_,h1,h2⟩:=hsome j bb hj hb1
  obtain ⟨_,h3,h4⟩:=hsome j' bb' hj' hb2'
  exact g.inj j j' bb bb' h1 h3 h2 h4 e
 ·have h1:=g.fix j hj
  obtain ⟨x,hx⟩:=Option.isSome_iff_exists.1 h1
  rw[lkH_fam (hkey j x hx),lkH_upH]
  split
  ·rename_i e;subst e;rw[h0];rfl
  ·exact h1
 ·rw[←hlt j (Classical.byContradiction fun h=>ltB_no hb3 (show b≤j by omega) hj)]
  exact g.fx j hj
theorem cellsK_app(hp:Hp):∀A B:List Nat,cellsK hp (A++B)=cellsK hp A++cellsK hp B
 | [],B=>rfl
 | k :: A,B=>by simp only[List.cons_append,cellsK,cellsK_app hp A B,List.append_assoc]
theorem closed_fam(hO:O<b):closedH ((O,T0,famC b Ls) :: famH b T Ls []):=fun k T' cs j hk hj=>by
 simp only[lkH]at hk
 by_cases e:O=k
 ·rw[if_pos e]at hk
  cases hk
  obtain ⟨v,hv,hm⟩:=mentL_mem hj
  obtain ⟨q,hq,e2⟩:=List.getElem_of_mem hv
  have:(famC b Ls)[q]? = some v:=by rw[List.getElem?_eq_getElem hq,e2]
  rw[famC_get?]at this
  rw[famC_len]at hq
  rw[List.getElem?_eq_getElem hq]at this
  simp only[Option.map_some,Option.some.injEq]at this
  rw[←this]at hm
  simp[AV.ment]at hm
  subst hm
  simp only[lkH]
  rw[if_neg (by omega),lkH_famI hq];rfl
 ·rw[if_neg e]at hk
  unfold famH at hk
  rw[lkH_append,lkH_famB]at hk
  split at hk
  ·cases e2:Ls[k-b]? with
   | none=>
    rename_i h1
    rw[e2]at h1
    split at h1<;>cases h1
   | some l=>
    rename_i x h1
    rw[e2]at h1
    split at h1
    ·cases h1;cases hk
     rw[mentL_ext]at hj;cases hj
    ·cases h1
  ·simp[lkH]at hk
theorem subH_mem{ks:List Nat}:∀{H:Hp} {q:Nat} {T':TypeId} {cs:List AV},(q,T',cs)∈subH H ks→(q,T',cs)∈H
 | [],q,T',cs,h=>by simp[subH]at h
 | (j,x) :: H,q,T',cs,h=>by
  simp only[subH]at h
  split at h
  ·rcases List.mem_cons.1 h with h|h
   ·rw[h];exact List.mem_cons_self
   ·exact List.mem_cons_of_mem _ (subH_mem h)
  ·exact List.mem_cons_of_mem _ (subH_mem h)
theorem keysH_of{q:Nat}{T':TypeId}{cs:List AV}:∀{H:Hp},(q,T',cs)∈H→q∈keysH H
 | (j,y) :: H,h=>by
  simp only[keysH,List.mem_cons]
  rcases List.mem_cons.1 h with h|h
  ·cases h;exact .inl rfl
  ·exact .inr (keysH_of h)
def onceH(H:Hp):Prop:=∀q T' cs,(q,T',cs)∈H→lkH H q=some (T',cs)
theorem onceH_fam{A:Hp}(hA:onceH A)(hlt:ltB b (keysH A)=true):onceH (A++famH b T Ls []):=fun q T' cs h=>by
 have hb:∀(Ls:List (List Value)) (b:Nat) q T' cs,(q,T',cs)∈famB b T Ls→b≤q∧lkH (famB b T Ls) q=some (T',cs):=fun Ls=>by
  induction Ls with
  | nil=>exact fun b q T' cs h=>by simp[famB]at h
  | cons l Ls ih=>
   intro b q T' cs h
   rw[famB_cons]at h ⊢
   rcases List.mem_cons.1 h with h|h
   ·cases h;exact ⟨Nat.le_refl _,by simp[lkH]⟩
   ·obtain ⟨h1,h2⟩:=ih (b+1) q T' cs h
    exact ⟨by omega,by simp only[lkH];rw[if_neg (by omega)];exact h2⟩
 rcases List.mem_append.1 h with h|h
 ·rw[lkH_append,hA q T' cs h]
 ·unfold famH at h ⊢
  rw[List.append_nil]at h ⊢
  obtain ⟨h1,h2⟩:=hb Ls b q T' cs h
  have hn:lkH A q=none:=by
   cases e:lkH A q with
   | none=>rfl
   | some y=>exact absurd (keysH_lk (by rw[e];rfl)) (ltB_no hlt h1)
  rw[lkH_append,hn];exact h2
end
abbrev GT:=Value×Value×List Value
def gC:Nat→List GT→List AV
 | _,[]=>[]
 | b,g :: r=>.ext g.1 :: .ext g.2.1 :: .slo b 0 g.2.2.length 1 :: gC (b+1) r
def gL(G:List GT):List (List Value):=G.map fun g=>g.2.2
theorem gL_len(G:List GT):(gL G).length=G.length:=by unfold gL;rw[List.length_map]
theorem gL_at{G:List GT}{i:Nat}(h:i<(gL G).length):(gL G)[i]=(G[i]'(by rw[gL_len]at h;exact h)).2.2:=List.getElem_map _
theorem killL_app(k:Nat):∀A B:List AV,killL k (A++B)=killL k A++killL k B
 | [],B=>rfl
 | v :: A,B=>by simp only[List.cons_append,killL,killL_app k A B]
section
variable {b i k n:Nat}{G:List GT}
theorem gC_len:∀(G:List GT) (b:Nat),(gC b G).length=G.length*3
 | [],b=>rfl
 | g :: r,b=>by simp only[gC,List.length_cons,gC_len r (b+1)];omega
theorem gC_app:∀(A B:List GT) (b:Nat),gC b (A++B)=gC b A++gC (b+A.length) B
 | [],B,b=>rfl
 | g :: r,B,b=>by
  simp only[List.cons_append,gC,gC_app r B (b+1),List.length_cons]
  rw[show b+1+r.length=b+(r.length+1) by omega]
theorem gC_mem:∀(G:List GT) (b:Nat),k∈mentL (gC b G)↔∃i,i<G.length∧k=i+b
 | [],b=>by simp[gC,mentL]
 | g :: r,b=>by
  simp only[gC,mentL,AV.ment,List.nil_append,List.mem_append,List.mem_singleton,gC_mem r (b+1),List.length_cons]
  constructor
  ·rintro (h|⟨i,h1,h2⟩)
   ·exact ⟨0,by omega,by omega⟩
   ·exact ⟨i+1,by omega,by omega⟩
  ·rintro ⟨i,h1,h2⟩
   cases i with
   | zero=>exact .inl (by omega)
   | succ i=>exact .inr ⟨i,by omega,by omega⟩
theorem gC_ment(h:k<b):hasK k (mentL (gC b G))=false:=hasK_no.2 fun hm=>by
 obtain ⟨i,_,h2⟩:=(gC_mem G b).1 hm
 omega
theorem gC_killN:∀(G:List GT) (b:Nat),(k<b∨b+G.length≤k)→killL k (gC b G)=gC b G
 | [],b,_=>rfl
 | g :: r,b,h=>by
  rw[List.length_cons]at h
  simp only[gC,killL,AV.kill]
  rw[if_neg (by omega),gC_killN r (b+1) (by omega)]
theorem gC_kill(h:k<b):killL k (gC b G)=gC b G:=gC_killN G b (.inl h)
theorem gC_split(hi:i<G.length):gC b G=gC b (G.take i)++(.ext G[i].1 :: .ext G[i].2.1 :: .slo (i+b) 0 G[i].2.2.length 1 :: gC (b+(i+1)) (G.drop (i+1))):=by
 conv=>lhs;rw[←List.take_append_drop i G,gC_app,List.drop_eq_getElem_cons hi]
 rw[List.length_take,Nat.min_eq_left (Nat.le_of_lt hi)]
 simp only[gC]
 rw[show b+i+1=b+(i+1) by omega,Nat.add_comm b i]
theorem gC_tl(hi:i<G.length):(gC b (G.take i)).length=i*3:=by rw[gC_len,List.length_take,Nat.min_eq_left (Nat.le_of_lt hi)]
theorem gC_put(hi:i<G.length)(x:GT):gC b (G.set i x)=gC b (G.take i)++(.ext x.1 :: .ext x.2.1 :: .slo (i+b) 0 x.2.2.length 1 :: gC (b+(i+1)) (G.drop (i+1))):=by
 have h2:i<(G.set i x).length:=by rw[List.length_set];exact hi
 rw[gC_split h2,List.getElem_set_self,List.take_set_of_le (Nat.le_refl _),List.drop_set_of_lt (by omega)]
theorem gC_1(hi:i<G.length):(gC b G)[i*3+1]? = some (.ext G[i].2.1):=by
 rw[gC_split hi,List.getElem?_append_right (by rw[gC_tl hi];omega),gC_tl hi,Nat.add_sub_cancel_left];rfl
theorem gC_2(hi:i<G.length):(gC b G)[i*3+2]? = some (.slo (i+b) 0 G[i].2.2.length 1):=by
 rw[gC_split hi,List.getElem?_append_right (by rw[gC_tl hi];omega),gC_tl hi,Nat.add_sub_cancel_left];rfl
theorem gC_ld2(hi:i<G.length):((gC b G).drop (i*3)).take 2=[.ext G[i].1,.ext G[i].2.1]:=by
 rw[gC_split hi,List.drop_append_of_le_length (by rw[gC_tl hi];omega),List.drop_of_length_le (by rw[gC_tl hi];omega),List.nil_append];rfl
theorem gC_st2(hi:i<G.length)(x y:Value):(gC b G).take (i*3)++([.ext x,.ext y]++(gC b G).drop (i*3+2))=gC b (G.set i (x,y,G[i].2.2)):=by
 rw[gC_put hi]
 have h1:(gC b G).take (i*3)=gC b (G.take i):=by rw[gC_split hi,List.take_append_of_le_length (by rw[gC_tl hi];omega),List.take_of_length_le (by rw[gC_tl hi];omega)]
 have h2:(gC b G).drop (i*3+2)=.slo (i+b) 0 G[i].2.2.length 1 :: gC (b+(i+1)) (G.drop (i+1)):=by
  conv=>lhs;rw[gC_split hi]
  rw[List.drop_append,List.drop_of_length_le (by rw[gC_tl hi];omega),gC_tl hi,Nat.add_sub_cancel_left];rfl
 rw[h1,h2];rfl
theorem gC_st1(hi:i<G.length)(y:Value):(gC b G).set (i*3+1) (.ext y)=gC b (G.set i (G[i].1,y,G[i].2.2)):=by
 rw[gC_put hi]
 conv=>lhs;rw[gC_split hi]
 rw[List.set_append_right _ _ (by rw[gC_tl hi];omega),gC_tl hi,Nat.add_sub_cancel_left];rfl
theorem gC_kI(hi:i<G.length):killL (i+b) (gC b G)=(gC b G).set (i*3+2) .unk:=by
 conv=>lhs;rw[gC_split hi]
 conv=>rhs;rw[gC_split hi]
 rw[killL_app,List.set_append_right _ _ (by rw[gC_tl hi];omega),gC_tl hi,Nat.add_sub_cancel_left,gC_killN _ _ (by right;rw[List.length_take];omega)]
 simp only[killL,AV.kill,if_true]
 rw[gC_killN _ _ (by left;omega)];rfl
theorem gC_st(hi:i<G.length)(l:List Value)(hl:l.length=n):(gC b G).set (i*3+2) (.slo (i+b) 0 n 1)=gC b (G.set i (G[i].1,G[i].2.1,l)):=by
 rw[gC_put hi]
 conv=>lhs;rw[gC_split hi]
 rw[List.set_append_right _ _ (by rw[gC_tl hi];omega),gC_tl hi,Nat.add_sub_cancel_left,←hl];rfl
theorem gC_snoc(x y:Value)(w:AV):(gC b G++[.ext x,.ext y,w]).set (G.length*3+2) (.slo (G.length+b) 0 0 1)=gC b (G++[(x,y,[])]):=by
 rw[gC_app,List.set_append_right _ _ (by rw[gC_len];omega),gC_len,Nat.add_sub_cancel_left,Nat.add_comm b];rfl
end
structure GV where
 (x y u:Value)
 l:List Value
def GV.c(g:GV):List Value:=[g.x,g.y,g.u]
def GV.t(g:GV):GT:=(g.x,g.y,g.l)
def GLF(M0 M:Mem)(U:Value)(G:List GT):Prop:=∃L:List GV,SlM M 3 U L.length (L.flatMap GV.c)∧FreshS M0 U∧(∀g∈L,SlM M 1 g.u g.l.length g.l∧FreshS M0 g.u)∧L.map GV.t=G
theorem GLF.older{M0 M1 M:Mem}{U:Value}{G:List GT}(h:GLF M1 M U G)(hM:Mem.le M0 M1):GLF M0 M U G:=by
 obtain ⟨L,h1,h2,h3,h4⟩:=h
 exact ⟨L,h1,h2.le hM,fun g hg=>⟨(h3 g hg).1,(h3 g hg).2.le hM⟩,h4⟩
theorem GLF.le{M0 M M':Mem}{U:Value}{G:List GT}(h:GLF M0 M U G)(hM:Mem.le M M'):GLF M0 M' U G:=by
 obtain ⟨L,h1,h2,h3,h4⟩:=h
 exact ⟨L,h1.le hM,h2,fun g hg=>⟨(h3 g hg).1.le hM,(h3 g hg).2⟩,h4⟩
section
variable {b:Nat}{T T0:TypeId}{G:List GT}{k i n O m z N:Nat}
theorem borIL_g{M0 M:Mem}{H:Hp}:∀(G:List GT) (b:Nat) (vs:List Value),BorIL M0 M H (gC b G) vs→(∀i (hi:i<G.length),lkH H (i+b)=some (T,G[i].2.2.map .ext))→∃L:List GV,vs=L.flatMap GV.c∧(∀g∈L,SlM M 1 g.u g.l.length g.l∧FreshS M0 g.u)∧L.map GV.t=G
 | [],b,vs,h,_=>by
  simp only[gC,BorIL]at h
  exact ⟨[],by rw[h];rfl,fun g hg=>by simp at hg,rfl⟩
 | g :: r,b,vs,h,hb=>by
  simp only[gC,BorIL,BorI]at h
  obtain ⟨u1,r1,rfl,rfl,u2,r2,rfl,rfl,u3,r3,rfl,⟨h1,h2⟩,h3⟩:=h
  obtain ⟨L,rfl,h4,h5⟩:=borIL_g r (b+1) r3 h3 fun i hi=>by
   have:=hb (i+1) (by simpa using hi)
   rw[show i+(b+1)=i+1+b by omega]
   simpa using this
  have h6:=h2 T g.2.2 (by have:=hb 0 (by simp);rwa[Nat.zero_add]at this) (by omega)
  rw[List.drop_zero,List.take_of_length_le (by omega)]at h6
  refine ⟨⟨g.1,g.2.1,u3,g.2.2⟩ :: L,rfl,fun x hx=>?_,by simp[GV.t,h5]⟩
  rcases List.mem_cons.1 hx with rfl|hx
  ·exact ⟨h6,h1⟩
  ·exact h4 x hx
theorem BorO.gfam{M0 M:Mem}{H:Hp}{u:Value}(h:BorO M0 M H (.slo O 0 m 3) u)(hk:lkH H O=some (T0,gC b G))(hn:m=G.length)(hb:∀i (hi:i<G.length),lkH H (i+b)=some (T,G[i].2.2.map .ext)):GLF M0 M u G:=by
 subst hn
 obtain ⟨h0,h1⟩:=h
 obtain ⟨vs,h2,h3⟩:=h1 T0 _ hk (by rw[gC_len];omega)
 rw[List.drop_zero,List.take_of_length_le (by rw[gC_len];omega)]at h3
 obtain ⟨L,rfl,h4,h5⟩:=borIL_g G b vs h3 hb
 have h6:L.length=G.length:=by rw[←h5,List.length_map]
 exact ⟨L,by rw[h6];exact h2,h0,h4,h5⟩
theorem outV_cells{s:St}{fx:List Nat}{K:AV→Hp→Mem→Prop}{e:Value}{C:List AV}{vs:Nat→List Value}(hfx:inB s.fx fx=true)(hone:onceH s.hp)(hO:lkH s.hp O=some (T0,C))(hmem:∀k,k∈mentL C↔∃i,i<N∧k=i+b)(hF:∀i,i<N→lkH s.hp (i+b)=some (T,(vs i).map .ext))
  (hK:∀u M'' F,Mem.le s.M M''→BorO s.M M'' F (.slo O 0 m z) u→lkH F O=some (T0,C)→(∀i,i<N→lkH F (i+b)=some (T,(vs i).map .ext))→K (.ext (.tuple #[u,e])) [] M''):outV s fx [] (FrzO K []) (.ag true [.slo O 0 m z,.ext e]):=by
 have hcell:∀ks:List Nat,(∀k∈ks,∃i,i<N∧k=i+b)→cellsK s.hp ks=[]:=fun ks=>by
  induction ks with
  | nil=>exact fun _=>rfl
  | cons k ks ih=>
   intro hk
   obtain ⟨i,hi,rfl⟩:=hk k List.mem_cons_self
   simp only[cellsK,hF i hi,mentO,mentL_ext,List.nil_append]
   exact ih fun q hq=>hk q (List.mem_cons_of_mem _ hq)
 have hkk:∀k,k∈reachK s.hp (reachK s.hp ((AV.ag true [.slo O 0 m z,.ext e]).ment++keysH []))↔k=O∨∃i,i<N∧k=i+b:=fun k=>by
  have e1:(AV.ag true [.slo O 0 m z,.ext e]).ment++keysH []=[O]:=by simp[AV.ment,mentL,keysH]
  have e2:reachK s.hp [O]=mentL C++[O]:=by simp[reachK,cellsK,hO,mentO]
  rw[e1,e2]
  unfold reachK
  rw[cellsK_app,hcell _ fun k hk=>(hmem k).1 hk]
  simp only[cellsK,hO,mentO,List.nil_append,List.append_nil,List.mem_append,List.mem_singleton]
  rw[hmem]
  constructor
  ·rintro (h|h|h)
   ·exact .inr h
   ·exact .inr h
   ·exact .inl h
  ·rintro (h|h)
   ·exact .inr (.inr h)
   ·exact .inl h
 have hlk:∀k x,lkH (keepH s [] (.ag true [.slo O 0 m z,.ext e])) k=some x→lkH s.hp k=some x∧(k=O∨∃i,i<N∧k=i+b):=fun k x hx=>by
  unfold keepH at hx
  rw[lkH_sub]at hx
  split at hx
  ·rename_i h;exact ⟨hx,(hkk k).1 h⟩
  ·cases hx
 have hin:∀k,(k=O∨∃i,i<N∧k=i+b)→lkH (keepH s [] (.ag true [.slo O 0 m z,.ext e])) k=lkH s.hp k:=fun k hk=>by
  unfold keepH
  rw[lkH_sub,if_pos ((hkk k).2 hk)]
 have hcl:closedH (keepH s [] (.ag true [.slo O 0 m z,.ext e])):=fun k T' cs j hk hj=>by
  obtain ⟨h1,h2⟩:=hlk k _ hk
  rcases h2 with rfl|⟨i,hi,rfl⟩
  ·rw[hO]at h1
   cases h1
   have hj2:=(hmem j).1 hj
   rw[hin j (.inr hj2)]
   obtain ⟨i,hi,rfl⟩:=hj2
   rw[hF i hi];rfl
  ·rw[hF i hi]at h1
   cases h1
   rw[mentL_ext]at hj;cases hj
 refine ⟨hfx,?_,.inr ⟨some true,[],[.ext e],O,m,z,keepH s [] (.ag true [.slo O 0 m z,.ext e]),[],rfl,by rw[List.append_nil],hcl,by rw[hin O (.inl rfl),hO];rfl,fun j _=>⟨rfl,rfl,by simp[mentL],by simp[mentL,AV.ment],by simp[mentH]⟩,fun u M'' hM hb=>hK u M'' _ hM hb (by rw[hin O (.inl rfl),hO]) fun i hi=>by rw[hin (i+b) (.inr ⟨i,hi,rfl⟩),hF i hi]⟩⟩
 have hkeys:∀j,(lkH (keepH s [] (.ag true [.slo O 0 m z,.ext e])) j).isSome=true→hasK j (keysH (keepH s [] (.ag true [.slo O 0 m z,.ext e])))=true:=fun j hj=>by
  have:=keysH_lk hj
  cases h:hasK j (keysH (keepH s [] (.ag true [.slo O 0 m z,.ext e]))) with
  | true=>rfl
  | false=>exact absurd this (hasK_no.1 h)
 have hall:∀l:List Nat,(∀j∈l,(lkH (keepH s [] (.ag true [.slo O 0 m z,.ext e])) j).isSome=true)→inB (keysH (keepH s [] (.ag true [.slo O 0 m z,.ext e]))) l=true:=fun l=>by
  induction l with
  | nil=>exact fun _=>rfl
  | cons j l ih=>
   intro hl
   simp only[inB,hkeys j (hl j List.mem_cons_self),ih fun q hq=>hl q (List.mem_cons_of_mem _ hq),Bool.and_self]
 refine hall _ fun j hj=>?_
 rcases List.mem_append.1 hj with hj|hj
 ·have:j=O:=by simpa [AV.ment,mentL] using hj
  subst this
  rw[hin j (.inl rfl),hO];rfl
 ·have key:∀(H:Hp),j∈mentH H→∃q T' cs,(q,T',cs)∈H∧(j=q∨j∈mentL cs):=fun H=>by
   induction H with
   | nil=>intro h;simp[mentH]at h
   | cons x H ih=>
    obtain ⟨q,T',cs⟩:=x
    intro h
    simp only[mentH,List.mem_cons,List.mem_append]at h
    rcases h with h|h|h
    ·exact ⟨q,T',cs,List.mem_cons_self,.inl h⟩
    ·exact ⟨q,T',cs,List.mem_cons_self,.inr h⟩
    ·obtain ⟨q2,T2,cs2,h1,h2⟩:=ih h
     exact ⟨q2,T2,cs2,List.mem_cons_of_mem _ h1,h2⟩
  obtain ⟨q,T',cs,h1,h2⟩:=key _ hj
  have h3:=hone q T' cs (subH_mem h1)
  have h4:(lkH (keepH s [] (.ag true [.slo O 0 m z,.ext e])) q).isSome=true:=by
   have hq:=keysH_of h1
   exact keysH_is (by
    cases e:hasK q (keysH (keepH s [] (.ag true [.slo O 0 m z,.ext ‹Value›]))) with
    | true=>rfl
    | false=>exact absurd hq (hasK_no.1 e))
  obtain ⟨x,hx⟩:=Option.isSome_iff_exists.1 h4
  have h5:=(hlk q x hx).1
  rw[h3]at h5
  cases h5
  rcases h2 with rfl|h2
  ·exact h4
  ·exact hcl q _ _ j hx h2
theorem outV_gfam{s:St}{fx:List Nat}{K:AV→Hp→Mem→Prop}{e:Value}(hfx:inB s.fx fx=true)(hone:onceH s.hp)(hO:lkH s.hp O=some (T0,gC b G))(hF:∀i (hi:i<G.length),lkH s.hp (i+b)=some (T,G[i].2.2.map .ext))(hm:m=G.length)
  (hK:∀u M'',Mem.le s.M M''→GLF s.M M'' u G→K (.ext (.tuple #[u,e])) [] M''):outV s fx [] (FrzO K []) (.ag true [.slo O 0 m 3,.ext e]):=by
 have hv:∀i (hi:i<G.length),(gL G).getD i []=G[i].2.2:=fun i hi=>by
  rw[List.getD_eq_getElem?_getD,List.getElem?_eq_getElem (by rw[gL_len];exact hi),Option.getD_some,gL_at]
 exact outV_cells (N:=G.length) (vs:=fun i=>(gL G).getD i []) hfx hone hO (fun k=>gC_mem G b) (fun i hi=>by rw[hv i hi];exact hF i hi) fun u M'' F hM hb h1 h2=>hK u M'' hM (hb.gfam h1 hm fun i hi=>by rw[←hv i hi];exact h2 i hi)
end
set_option maxRecDepth 100000
set_option maxHeartbeats 8000000
attribute [local congr] fin_congr finG_congr stepG_congr step1_congr runOps_congr brv_congr obl_congr condK_congr LoopK_congr seqK_congr CutK_congr vc_congr DrawK_congr regK_congr CallK_congr AskK_congr newK_congr retC_congr ret1_congr retK_congr outV_congr closeK_congr genR_congr appR_congr finD_congr finGD_congr stepGD_congr stepD_congr CallK0_congr runD_congr okR_congr CallS_congr vcX_congr
attribute [local congr] Stop_congr
structure SG where
 m:Bst
 u:Value
 C:List Bst
def SG.c(s:SG):List Value:=[.string (bs s.m),s.u]
def SG.t(s:SG):Bst×List Bst:=(s.m,s.C)
def okSG(M:Mem)(s:SG):Prop:=IsL M sbV s.u s.C
theorem okSG.le{M M':Mem}{s:SG}(h:okSG M s)(hM:Mem.le M M'):okSG M' s:=IsL.le h hM
def sgF(S:List SG):List AV:=(S.flatMap SG.c).map .ext
theorem sgF_len(S:List SG):(sgF S).length=S.length*2:=by
 unfold sgF
 rw[List.length_map,flat_len (z:=2) (fun _=>rfl)]
theorem sgF_ment(S:List SG):mentL (sgF S)=[]:=mentL_ext _
theorem sgF_kill(k:Nat)(S:List SG):killL k (sgF S)=sgF S:=killL_exts _ _
theorem sgF_app(S:List SG)(x:SG):sgF S++[.ext (.string (bs x.m)),.ext x.u]=sgF (S++[x]):=by simp[sgF,SG.c]
def faE(f:Fa):Int:=if (usB f.1 f.2.1&&plB f.2.2.1)=true then (if 64<f.2.2.2.2.2.length then 2 else 0) else 1
def faB(f:Fa):Bst×List Bst:=(normalB f.2.2.2.1,stkB f.2.2.2.2.2)
def firE:List Fa→Int
 | []=>0
 | f :: r=>if faE f=0 then firE r else faE f
def sgnE(L:List Fa)(d:Int):Int:=if d<1 then 3 else if 16<d then 3 else if 64<L.length then 2 else firE L
section
variable {M:Mem}{K:AV→Hp→Mem→Prop}
def gsgSt(M:Mem)(u:Value)(n i:Nat)(S:List SG):St:={env:=[(24,.ext (.int .i64 (i:Int))),(23,.ext (.int .i64 (n:Int))),(22,.ext u),(6,.slo 39 0 i 2)],hp:=[(39,41,sgF S)],M:=M,kb:=0,fx:=[]}
theorem gsigns_ok(u:Value)(L:List Fa)(d:Int)(hu:IsR M 5 faC u L)(ho:∀f∈L,faOk M f)(hb:L.length<1000000)
  (hK1:sgnE L d≠0→∀M',Mem.le M M'→K (.ext (.tuple #[.slice none 0 0,.int .i64 (sgnE L d)])) [] M')
  (hK2:sgnE L d=0→∀v S M',Mem.le M M'→IsR M' 2 SG.c v S→(∀s∈S,okSG M' s)→S.map SG.t=L.map faB→FreshS M v→K (.ext (.tuple #[v,.int .i64 0])) [] M') :
  CallS Tryz.prog 17 [.ext u,.ext (.int .i64 d)] [] M [] K:=by
 refine CallS.frzF ?_
 refine inlS (cs:=[]) Tryz.mixed Tryz.func17 rfl (by kernel_rfl) 0 rfl rfl ?_
 simp only[Tryz.f17]
 have uo:=hu.one
 have ul:=hu.len
 have us:=hu.sl
 by_cases hd1:d<1
 ·have d1:decide (d<1)=true:=decide_eq_true hd1
  have e:sgnE L d=3:=by unfold sgnE;rw[if_pos hd1]
  rw[e]at hK1
  refine Go1.mk ?_;repeat' ((first|(with_reducible refine Go1.go ?_)|(refine And.intro ?_ ?_;(try simp only[sxO]at *);omega)|fail)<;>(try simp (maxSteps:=1000000) only [d1,uo,↓hold_pre,awayP,runOps,regK,step1,newK,genR,appR,obl,buildR,Value.cells,closeK,keepH,outV,retK,ret1,retC,RetV,Option.getD,runD,stepD,afterK,undef,simprocAttr,sxB,↓sxD,sxE,sxTab]))
  exact .inl (hK1 (by decide) M (Mem.le.refl _))
 have d1:decide (d<1)=false:=decide_eq_false hd1
 by_cases hd2:16<d
 ·have d2:decide (16<d)=true:=decide_eq_true hd2
  have e:sgnE L d=3:=by unfold sgnE;rw[if_neg hd1,if_pos hd2]
  rw[e]at hK1
  refine Go1.mk ?_;repeat' ((first|(with_reducible refine Go1.go ?_)|(refine And.intro ?_ ?_;(try simp only[sxO]at *);omega)|fail)<;>(try simp (maxSteps:=1000000) only [d1,d2,uo,↓hold_pre,awayP,runOps,regK,step1,newK,genR,appR,obl,buildR,Value.cells,closeK,keepH,outV,retK,ret1,retC,RetV,Option.getD,runD,stepD,afterK,undef,simprocAttr,sxB,↓sxD,sxE,sxTab]))
  exact .inl (hK1 (by decide) M (Mem.le.refl _))
 have d2:decide (16<d)=false:=decide_eq_false hd2
 by_cases hd3:64<L.length
 ·have d3:decide ((64:Int)<(L.length:Int))=true:=by rw[decide_eq_true_eq];omega
  have e:sgnE L d=2:=by unfold sgnE;rw[if_neg hd1,if_neg hd2,if_pos hd3]
  rw[e]at hK1
  refine Go1.mk ?_;repeat' ((first|(with_reducible refine Go1.go ?_)|(refine And.intro ?_ ?_;(try simp only[sxO]at *);omega)|fail)<;>(try simp (maxSteps:=1000000) only [d1,d2,d3,uo,ul,us,↓hold_pre,awayP,runOps,regK,step1,newK,genR,appR,obl,buildR,Value.cells,closeK,keepH,outV,retK,ret1,retC,RetV,Option.getD,runD,stepD,afterK,undef,simprocAttr,sxB,↓sxD,sxE,sxTab]))
  exact .inl (hK1 (by decide) M (Mem.le.refl _))
 have d3:decide ((64:Int)<(L.length:Int))=false:=by rw[decide_eq_false_iff_not];omega
 have e:sgnE L d=firE L:=by unfold sgnE;rw[if_neg hd1,if_neg hd2,if_neg hd3]
 rw[e]at hK1 hK2
 refine Go1.mk ?_;repeat' ((first|(with_reducible refine Go1.go ?_)|(refine And.intro ?_ ?_;(try simp only[sxO]at *);omega)|fail)<;>(try simp (maxSteps:=1000000) only [d1,d2,d3,uo,ul,us,↓hold_pre,awayP,runOps,regK,step1,newK,genR,appR,obl,buildR,Value.cells,closeK,keepH,outV,retK,ret1,retC,RetV,Option.getD,runD,stepD,afterK,undef,simprocAttr,sxB,↓sxD,sxE,sxTab]))
 refine ⟨fun k z=>∃M' S i,k=L.length-i∧i≤L.length∧Mem.le M M'∧(∀s∈S,okSG M' s)∧S.map SG.t=(L.take i).map faB∧firE (L.drop i)=firE L∧z=gsgSt M' u L.length i S,
  ⟨L.length,gsgSt M u L.length 0 [],(le_nil 6 39 41 2 rfl (.inl rfl)).trans (le_sub ⟨rfl,rfl,rfl,rfl,trivial⟩ ⟨rfl,trivial⟩ rfl rfl rfl (keepLt0 _)),⟨M,[],0,by omega,by omega,Mem.le.refl _,(fun s hs=>by cases hs),rfl,rfl,rfl⟩⟩,?_⟩
 rintro k z ⟨M1,S,i,rfl,hi,m1,hS,hSt,hfir,rfl⟩
 have hSl:S.length=i:=by have:=congrArg List.length hSt;rw[List.length_map,List.length_map,List.length_take]at this;omega
 have hcl:=sgF_len S
 rw[hSl]at hcl
 by_cases hlt:i<L.length
 case neg=>
  obtain rfl:i=L.length:=by omega
  have y1:decide ((L.length:Int)<(L.length:Int))=false:=by simp
  rw[List.take_length]at hSt
  rw[List.drop_length]at hfir
  refine Go1.mk ?_;repeat' ((first|(with_reducible refine Go1.go ?_)|(refine And.intro ?_ ?_;(try simp only[sxO]at *);omega)|fail)<;>(try simp (maxSteps:=1000000) only [gsgSt,y1,uo,ul,us,hcl,sgF_ment,sgF_kill,hasK_nil,↓hold_pre,awayP,runOps,regK,step1,newK,genR,appR,obl,buildR,Value.cells,closeK,keepH,outV,retK,ret1,retC,RetV,Option.getD,runD,stepD,afterK,undef,simprocAttr,sxB,↓sxD,sxE,sxTab]))
  refine FrzF.tup [] [.int .i64 0] (S.flatMap SG.c) rfl (by rw[flat_len (z:=2) (fun _=>rfl),hSl]) fun v M3 h1 h2 h3=>hK2 hfir.symm v S M3 (m1.trans h1) (by unfold IsR;rw[hSl];exact h2) (fun s hs=>(hS s hs).le h1) hSt (h3.le m1)
 have y1:decide ((i:Int)<(L.length:Int))=true:=by rw[decide_eq_true_eq];omega
 have y2:(0:Int)≤(i:Int):=by omega
 have y3:(i:Int)<(L.length:Int):=by omega
 have wi:IntKind.i64.wrap ((i:Int)+1)=((i+1:Nat):Int):=by rw[wrap_id (by omega) (by omega)];omega
 have hu1:=hu.le m1
 have hnn:=hu1.nn hlt
 have hat:=hu1.at (P:=Tryz.prog) (T:=32) (fun _=>rfl) tk32 tz32 hlt
 have hfo:=ho _ (List.getElem_mem hlt)
 have htk:(L.take (i+1)).map faB=(L.take i).map faB++[faB L[i]]:=by rw[List.take_succ_eq_append_getElem hlt,List.map_append];rfl
 have hdr:L.drop i=L[i] :: L.drop (i+1):=(List.getElem_cons_drop hlt).symm
 rw[hdr]at hfir
 simp only[firE]at hfir
 clear hdr
 generalize L[i]=fa at *
 obtain ⟨p,t,ev,m,su,X⟩:=fa
 obtain ⟨hf1,hf2,hf3,hf4⟩:=hfo
 have hf1:IsR M 3 clC su X:=hf1
 have hf1:=hf1.le m1
 have so:=hf1.one
 have hat2:lookM Tryz.prog 32 M1 (elemP u 5 i)=some (faV p t ev m su):=hat
 clear hat
 unfold faV at hat2
 have hfe:faE (p,t,ev,m,su,X)=if (usB p t&&plB ev)=true then (if 64<X.length then 2 else 0) else 1:=rfl
 refine Go1.mk ?_;repeat' ((first|(with_reducible refine Go1.go ?_)|(((with_reducible refine isCall (f:=24) ?_);refine callA_nil (by kernel_rfl) ?_;refine (sign_ok p t ev m su X hf1 hf2 hf3 hf4 (fun h=>Stop.mk ?_) (fun h1 h2=>Stop.mk ?_) (fun h1 h2 cu M2 m2 g2 _=>Stop.mk ?_))))|(refine And.intro ?_ ?_;(try simp only[sxO]at *);omega)|fail)<;>(try simp (maxSteps:=1000000) only [gsgSt,y1,y2,y3,hnn,hat2,uo,ul,us,so,sgF_ment,sgF_kill,hasK_nil,↓hold_pre,awayP,runOps,regK,step1,newK,genR,appR,obl,buildR,Value.cells,closeK,keepH,outV,retK,ret1,retC,RetV,Option.getD,runD,stepD,afterK,undef,simprocAttr,sxB,↓sxD,sxE,sxTab]))
 ·rw[h,if_neg (by decide)]at hfe
  rw[hfe,if_neg (by decide)]at hfir
  rw[←hfir]at hK1
  refine Stop.go ?_
  refine Go1.mk ?_;repeat' ((first|(with_reducible refine Go1.go ?_)|(refine And.intro ?_ ?_;(try simp only[sxO]at *);omega)|fail)<;>(try simp (maxSteps:=1000000) only [sgT,so,sgF_ment,sgF_kill,hasK_nil,↓hold_pre,awayP,runOps,regK,step1,newK,genR,appR,obl,buildR,Value.cells,closeK,keepH,outV,retK,ret1,retC,RetV,Option.getD,runD,stepD,afterK,undef,simprocAttr,sxB,↓sxD,sxE,sxTab]))
  exact .inl (hK1 (by decide) M1 m1)
 ·rw[h1,if_pos rfl,if_pos h2]at hfe
  rw[hfe,if_neg (by decide)]at hfir
  rw[←hfir]at hK1
  refine Stop.go ?_
  refine Go1.mk ?_;repeat' ((first|(with_reducible refine Go1.go ?_)|(refine And.intro ?_ ?_;(try simp only[sxO]at *);omega)|fail)<;>(try simp (maxSteps:=1000000) only [sgT,so,sgF_ment,sgF_kill,hasK_nil,↓hold_pre,awayP,runOps,regK,step1,newK,genR,appR,obl,buildR,Value.cells,closeK,keepH,outV,retK,ret1,retC,RetV,Option.getD,runD,stepD,afterK,undef,simprocAttr,sxB,↓sxD,sxE,sxTab]))
  exact .inl (hK1 (by decide) M1 m1)
 ·have m2:Mem.le M1 M2:=m2
  rw[h1,if_pos rfl,if_neg (by omega)]at hfe
  rw[hfe,if_pos rfl]at hfir
  have co:=g2.one
  have hap:=sgF_app S ⟨normalB m,cu,stkB X⟩
  have hi64:i<64:=by omega
  refine Stop.go ?_
  refine Go1.mk ?_;repeat' ((first|(with_reducible refine Go1.go ?_)|(refine And.intro ?_ ?_;(try simp only[sxO]at *);omega)|fail)<;>(try simp (maxSteps:=1000000) only [sgT,wi,hcl,hap,so,co,maxLen,sgF_ment,sgF_kill,hasK_nil,↓hold_pre,awayP,runOps,regK,step1,newK,genR,appR,obl,buildR,Value.cells,closeK,keepH,outV,retK,ret1,retC,RetV,Option.getD,runD,stepD,afterK,undef,simprocAttr,sxB,↓sxD,sxE,sxTab]))
  exact ⟨L.length-(i+1),gsgSt M2 u L.length (i+1) (S++[⟨normalB m,cu,stkB X⟩]),by omega,le_sub ⟨rfl,rfl,rfl,rfl,trivial⟩ ⟨rfl,trivial⟩ rfl rfl rfl (keepLt0 _),M2,_,i+1,rfl,by omega,m1.trans m2,(fun s hs=>by
   rcases List.mem_append.1 hs with hs|hs
   ·exact (hS s hs).le m2
   ·rw[List.mem_singleton.1 hs];exact g2),by rw[List.map_append,hSt,htk];rfl,hfir,rfl⟩
def rsgSt(M:Mem)(u:Value)(i:Nat)(S:List SG):St:={env:=[(7,.ext (.int .i64 (i:Int))),(6,.slo 39 0 i 2),(0,.ext u)],hp:=[(39,41,sgF S)],M:=M,kb:=0,fx:=[]}
theorem rsigns_ok(u:Value)(L:List Fa)(d:Int)(hu:IsR M 5 faC u L)(ho:∀f∈L,faOk M f)(hb:L.length<1000000)
  (hK1:sgnE L d≠0→∀M',Mem.le M M'→K (.ext (.tuple #[.slice none 0 0,.int .i64 (sgnE L d)])) [] M')
  (hK2:sgnE L d=0→∀v S M',Mem.le M M'→IsR M' 2 SG.c v S→(∀s∈S,okSG M' s)→S.map SG.t=L.map faB→FreshS M v→K (.ext (.tuple #[v,.int .i64 0])) [] M') :
  CallS Tryz.prog 33 [.ext u,.ext (.int .i64 d)] [] M [] K:=by
 refine CallS.frzF ?_
 refine inlS (cs:=[]) Tryz.mixed Tryz.func33 rfl (by kernel_rfl) 0 rfl rfl ?_
 simp only[Tryz.f33]
 have uo:=hu.one
 have ul:=hu.len
 have us:=hu.sl
 by_cases hd1:d<1
 ·have d1:decide (d<1)=true:=decide_eq_true hd1
  have e:sgnE L d=3:=by unfold sgnE;rw[if_pos hd1]
  rw[e]at hK1
  refine Go1.mk ?_;repeat' ((first|(with_reducible refine Go1.go ?_)|(refine And.intro ?_ ?_;(try simp only[sxO]at *);omega)|fail)<;>(try simp (maxSteps:=1000000) only [d1,uo,↓hold_pre,awayP,runOps,regK,step1,newK,genR,appR,obl,buildR,Value.cells,closeK,keepH,outV,retK,ret1,retC,RetV,Option.getD,runD,stepD,afterK,undef,simprocAttr,sxB,↓sxD,sxE,sxTab]))
  exact .inl (hK1 (by decide) M (Mem.le.refl _))
 have d1:decide (d<1)=false:=decide_eq_false hd1
 by_cases hd2:16<d
 ·have d2:decide (16<d)=true:=decide_eq_true hd2
  have e:sgnE L d=3:=by unfold sgnE;rw[if_neg hd1,if_pos hd2]
  rw[e]at hK1
  refine Go1.mk ?_;repeat' ((first|(with_reducible refine Go1.go ?_)|(refine And.intro ?_ ?_;(try simp only[sxO]at *);omega)|fail)<;>(try simp (maxSteps:=1000000) only [d1,d2,uo,↓hold_pre,awayP,runOps,regK,step1,newK,genR,appR,obl,buildR,Value.cells,closeK,keepH,outV,retK,ret1,retC,RetV,Option.getD,runD,stepD,afterK,undef,simprocAttr,sxB,↓sxD,sxE,sxTab]))
  exact .inl (hK1 (by decide) M (Mem.le.refl _))
 have d2:decide (16<d)=false:=decide_eq_false hd2
 by_cases hd3:64<L.length
 ·have d3:decide ((64:Int)<(L.length:Int))=true:=by rw[decide_eq_true_eq];omega
  have e:sgnE L d=2:=by unfold sgnE;rw[if_neg hd1,if_neg hd2,if_pos hd3]
  rw[e]at hK1
  refine Go1.mk ?_;repeat' ((first|(with_reducible refine Go1.go ?_)|(refine And.intro ?_ ?_;(try simp only[sxO]at *);omega)|fail)<;>(try simp (maxSteps:=1000000) only [d1,d2,d3,uo,ul,us,↓hold_pre,awayP,runOps,regK,step1,newK,genR,appR,obl,buildR,Value.cells,closeK,keepH,outV,retK,ret1,retC,RetV,Option.getD,runD,stepD,afterK,undef,simprocAttr,sxB,↓sxD,sxE,sxTab]))
  exact .inl (hK1 (by decide) M (Mem.le.refl _))
 have d3:decide ((64:Int)<(L.length:Int))=false:=by rw[decide_eq_false_iff_not];omega
 have e:sgnE L d=firE L:=by unfold sgnE;rw[if_neg hd1,if_neg hd2,if_neg hd3]
 rw[e]at hK1 hK2
 refine Go1.mk ?_;repeat' ((first|(with_reducible refine Go1.go ?_)|(refine And.intro ?_ ?_;(try simp only[sxO]at *);omega)|fail)<;>(try simp (maxSteps:=1000000) only [d1,d2,d3,uo,ul,us,↓hold_pre,awayP,runOps,regK,step1,newK,genR,appR,obl,buildR,Value.cells,closeK,keepH,outV,retK,ret1,retC,RetV,Option.getD,runD,stepD,afterK,undef,simprocAttr,sxB,↓sxD,sxE,sxTab]))
 refine ⟨fun k z=>∃M' S i,k=L.length-i∧i≤L.length∧Mem.le M M'∧(∀s∈S,okSG M' s)∧S.map SG.t=(L.take i).map faB∧firE (L.drop i)=firE L∧z=rsgSt M' u i S,
  ⟨L.length,rsgSt M u 0 [],(le_nil 6 39 41 2 rfl (.inl rfl)).trans (le_sub ⟨rfl,rfl,rfl,trivial⟩ ⟨rfl,trivial⟩ rfl rfl rfl (keepLt0 _)),⟨M,[],0,by omega,by omega,Mem.le.refl _,(fun s hs=>by cases hs),rfl,rfl,rfl⟩⟩,?_⟩
 rintro k z ⟨M1,S,i,rfl,hi,m1,hS,hSt,hfir,rfl⟩
 have hSl:S.length=i:=by have:=congrArg List.length hSt;rw[List.length_map,List.length_map,List.length_take]at this;omega
 have hcl:=sgF_len S
 rw[hSl]at hcl
 by_cases hlt:i<L.length
 case neg=>
  obtain rfl:i=L.length:=by omega
  have y1:decide ((L.length:Int)<(L.length:Int))=false:=by simp
  rw[List.take_length]at hSt
  rw[List.drop_length]at hfir
  refine Go1.mk ?_;repeat' ((first|(with_reducible refine Go1.go ?_)|(refine And.intro ?_ ?_;(try simp only[sxO]at *);omega)|fail)<;>(try simp (maxSteps:=1000000) only [rsgSt,y1,uo,ul,us,hcl,sgF_ment,sgF_kill,hasK_nil,↓hold_pre,awayP,runOps,regK,step1,newK,genR,appR,obl,buildR,Value.cells,closeK,keepH,outV,retK,ret1,retC,RetV,Option.getD,runD,stepD,afterK,undef,simprocAttr,sxB,↓sxD,sxE,sxTab]))
  refine FrzF.tup [] [.int .i64 0] (S.flatMap SG.c) rfl (by rw[flat_len (z:=2) (fun _=>rfl),hSl]) fun v M3 h1 h2 h3=>hK2 hfir.symm v S M3 (m1.trans h1) (by unfold IsR;rw[hSl];exact h2) (fun s hs=>(hS s hs).le h1) hSt (h3.le m1)
 have y1:decide ((i:Int)<(L.length:Int))=true:=by rw[decide_eq_true_eq];omega
 have y2:(0:Int)≤(i:Int):=by omega
 have y3:(i:Int)<(L.length:Int):=by omega
 have wi:IntKind.i64.wrap ((i:Int)+1)=((i+1:Nat):Int):=by rw[wrap_id (by omega) (by omega)];omega
 have hu1:=hu.le m1
 have hnn:=hu1.nn hlt
 have hat:=hu1.at (P:=Tryz.prog) (T:=32) (fun _=>rfl) tk32 tz32 hlt
 have hfo:=ho _ (List.getElem_mem hlt)
 have htk:(L.take (i+1)).map faB=(L.take i).map faB++[faB L[i]]:=by rw[List.take_succ_eq_append_getElem hlt,List.map_append];rfl
 have hdr:L.drop i=L[i] :: L.drop (i+1):=(List.getElem_cons_drop hlt).symm
 rw[hdr]at hfir
 simp only[firE]at hfir
 clear hdr
 generalize L[i]=fa at *
 obtain ⟨p,t,ev,m,su,X⟩:=fa
 obtain ⟨hf1,hf2,hf3,hf4⟩:=hfo
 have hf1:IsR M 3 clC su X:=hf1
 have hf1:=hf1.le m1
 have so:=hf1.one
 have hat2:lookM Tryz.prog 32 M1 (elemP u 5 i)=some (faV p t ev m su):=hat
 clear hat
 unfold faV at hat2
 have hfe:faE (p,t,ev,m,su,X)=if (usB p t&&plB ev)=true then (if 64<X.length then 2 else 0) else 1:=rfl
 refine Go1.mk ?_;repeat' ((first|(with_reducible refine Go1.go ?_)|(((with_reducible refine isCall (f:=32) ?_);refine callA_nil (by kernel_rfl) ?_;refine (refSign_ok p t ev m su X hf1 hf2 hf3 hf4 (fun h=>Stop.mk ?_) (fun h1 h2=>Stop.mk ?_) (fun h1 h2 cu M2 m2 g2=>Stop.mk ?_))))|(refine And.intro ?_ ?_;(try simp only[sxO]at *);omega)|fail)<;>(try simp (maxSteps:=1000000) only [rsgSt,y1,y2,y3,hnn,hat2,uo,ul,us,so,sgF_ment,sgF_kill,hasK_nil,↓hold_pre,awayP,runOps,regK,step1,newK,genR,appR,obl,buildR,Value.cells,closeK,keepH,outV,retK,ret1,retC,RetV,Option.getD,runD,stepD,afterK,undef,simprocAttr,sxB,↓sxD,sxE,sxTab]))
 ·rw[h,if_neg (by decide)]at hfe
  rw[hfe,if_neg (by decide)]at hfir
  rw[←hfir]at hK1
  refine Stop.go ?_
  refine Go1.mk ?_;repeat' ((first|(with_reducible refine Go1.go ?_)|(refine And.intro ?_ ?_;(try simp only[sxO]at *);omega)|fail)<;>(try simp (maxSteps:=1000000) only [sgT,so,sgF_ment,sgF_kill,hasK_nil,↓hold_pre,awayP,runOps,regK,step1,newK,genR,appR,obl,buildR,Value.cells,closeK,keepH,outV,retK,ret1,retC,RetV,Option.getD,runD,stepD,afterK,undef,simprocAttr,sxB,↓sxD,sxE,sxTab]))
  exact .inl (hK1 (by decide) M1 m1)
 ·rw[h1,if_pos rfl,if_pos h2]at hfe
  rw[hfe,if_neg (by decide)]at hfir
  rw[←hfir]at hK1
  refine Stop.go ?_
  refine Go1.mk ?_;repeat' ((first|(with_reducible refine Go1.go ?_)|(refine And.intro ?_ ?_;(try simp only[sxO]at *);omega)|fail)<;>(try simp (maxSteps:=1000000) only [sgT,so,sgF_ment,sgF_kill,hasK_nil,↓hold_pre,awayP,runOps,regK,step1,newK,genR,appR,obl,buildR,Value.cells,closeK,keepH,outV,retK,ret1,retC,RetV,Option.getD,runD,stepD,afterK,undef,simprocAttr,sxB,↓sxD,sxE,sxTab]))
  exact .inl (hK1 (by decide) M1 m1)
 ·have m2:Mem.le M1 M2:=m2
  rw[h1,if_pos rfl,if_neg (by omega)]at hfe
  rw[hfe,if_pos rfl]at hfir
  have co:=g2.one
  have hap:=sgF_app S ⟨normalB m,cu,stkB X⟩
  have hi64:i<64:=by omega
  refine Stop.go ?_
  refine Go1.mk ?_;repeat' ((first|(with_reducible refine Go1.go ?_)|(refine And.intro ?_ ?_;(try simp only[sxO]at *);omega)|fail)<;>(try simp (maxSteps:=1000000) only [sgT,wi,hcl,hap,so,co,maxLen,sgF_ment,sgF_kill,hasK_nil,↓hold_pre,awayP,runOps,regK,step1,newK,genR,appR,obl,buildR,Value.cells,closeK,keepH,outV,retK,ret1,retC,RetV,Option.getD,runD,stepD,afterK,undef,simprocAttr,sxB,↓sxD,sxE,sxTab]))
  exact ⟨L.length-(i+1),rsgSt M2 u (i+1) (S++[⟨normalB m,cu,stkB X⟩]),by omega,le_sub ⟨rfl,rfl,rfl,trivial⟩ ⟨rfl,trivial⟩ rfl rfl rfl (keepLt0 _),M2,_,i+1,rfl,by omega,m1.trans m2,(fun s hs=>by
   rcases List.mem_append.1 hs with hs|hs
   ·exact (hS s hs).le m2
   ·rw[List.mem_singleton.1 hs];exact g2),by rw[List.map_append,hSt,htk];rfl,hfir,rfl⟩
end
end Go.Proofs.YtoblkpomikokhaaGreat.Sx
namespace Go.Proofs.YtoblkpomikokhaaGreat.Sx
set_option linter.unusedVariables false
def rootsU(f:Nat→Nat)(i:Nat):List Nat:=(List.range i).filter fun j=>f j==j
def memU(f:Nat→Nat)(i r:Nat):List Nat:=(List.range i).filter fun j=>f j==r
def bestU(lt:Nat→Nat→Bool)(f:Nat→Nat)(i r:Nat):Nat:=(memU f i r).foldl (fun a j=>if lt j a then j else a) r
def outU(lt:Nat→Nat→Bool)(f:Nat→Nat)(i k:Nat):List (Nat×List Nat):=(rootsU f k).map fun r=>(bestU lt f i r,memU f i r)
section
variable {lt:Nat→Nat→Bool}{f g:Nat→Nat}{i r p n:Nat}
theorem memU_succ:memU f (i+1) r=if f i=r then memU f i r++[i] else memU f i r:=by
 unfold memU
 rw[List.range_succ,List.filter_append]
 by_cases h:f i=r
 ·rw[if_pos h];simp[h]
 ·rw[if_neg h];simp[h]
theorem rootsU_succ:rootsU f (i+1)=if f i=i then rootsU f i++[i] else rootsU f i:=by
 unfold rootsU
 rw[List.range_succ,List.filter_append]
 by_cases h:f i=i
 ·rw[if_pos h];simp[h]
 ·rw[if_neg h];simp[h]
theorem memU_none(hf:∀j,j<i→f j≤j)(h:i≤r):memU f i r=[]:=by
 unfold memU
 rw[List.filter_eq_nil_iff]
 intro j hj
 have h1:=List.mem_range.1 hj
 have h2:=hf j h1
 simp only[beq_iff_eq];omega
theorem memU_in{j:Nat}:j∈memU f i r↔j<i∧f j=r:=by
 unfold memU
 rw[List.mem_filter,List.mem_range,beq_iff_eq]
theorem rootsU_in{j:Nat}:j∈rootsU f i↔j<i∧f j=j:=by
 unfold rootsU
 rw[List.mem_filter,List.mem_range,beq_iff_eq]
theorem rootsU_nodup:(rootsU f i).Nodup:=List.Nodup.sublist List.filter_sublist List.nodup_range
theorem bestU_succ:bestU lt f (i+1) r=if f i=r then (if lt i (bestU lt f i r) then i else bestU lt f i r) else bestU lt f i r:=by
 unfold bestU
 rw[memU_succ]
 split
 ·rw[List.foldl_append];rfl
 ·rfl
theorem bestU_none(hf:∀j,j<i→f j≤j)(h:i≤r):bestU lt f i r=r:=by
 unfold bestU
 rw[memU_none hf h];rfl
theorem bestU_mem:bestU lt f i r=r∨bestU lt f i r∈memU f i r:=by
 unfold bestU
 have key:∀(L:List Nat) (a:Nat),L.foldl (fun a j=>if lt j a then j else a) a=a∨L.foldl (fun a j=>if lt j a then j else a) a∈L:=fun L=>by
  induction L with
  | nil=>intro a;exact .inl rfl
  | cons x L ih=>
   intro a
   rw[List.foldl_cons]
   rcases ih (if lt x a then x else a) with h|h
   ·rw[h]
    split
    ·exact .inr List.mem_cons_self
    ·exact .inl rfl
   ·exact .inr (List.mem_cons_of_mem _ h)
 exact key _ _
theorem bestU_lt(hr:r<n)(hi:i≤n):bestU lt f i r<n:=by
 rcases bestU_mem (lt:=lt) (f:=f) (i:=i) (r:=r) with h|h
 ·omega
 ·have:=(memU_in.1 h).1;omega
theorem outU_len:(outU lt f i n).length=(rootsU f n).length:=by unfold outU;rw[List.length_map]
theorem outU_new(hf:∀j,j<i→f j≤j)(h:f i=i)(hlt:lt i i=false):outU lt f (i+1) (i+1)=outU lt f i i++[(i,[i])]:=by
 unfold outU
 rw[rootsU_succ,if_pos h,List.map_append]
 congr 1
 ·refine List.map_congr_left fun r hr=>?_
  have h1:=(rootsU_in.1 hr).1
  rw[bestU_succ,memU_succ,if_neg (by omega),if_neg (by omega)]
 ·simp only[List.map_cons,List.map_nil]
  rw[bestU_succ,memU_succ,if_pos h,if_pos h,bestU_none hf (Nat.le_refl _),memU_none hf (Nat.le_refl _),hlt];rfl
theorem outU_old(h:f i≠i)(hp:(rootsU f i)[p]? = some (f i)):outU lt f (i+1) (i+1)=(outU lt f i i).set p (if lt i (bestU lt f i (f i)) then i else bestU lt f i (f i),memU f i (f i)++[i]):=by
 unfold outU
 rw[rootsU_succ,if_neg h]
 refine List.ext_getElem? fun q=>?_
 rw[List.getElem?_map,List.getElem?_set,List.length_map,List.getElem?_map]
 have hpl:=(List.getElem?_eq_some_iff.1 hp).1
 by_cases e:p=q
 ·subst e
  rw[if_pos rfl,if_pos hpl,hp]
  simp only[Option.map_some]
  rw[bestU_succ,memU_succ,if_pos rfl,if_pos rfl]
 ·rw[if_neg e]
  cases hq:(rootsU f i)[q]? with
  | none=>rfl
  | some r=>
   simp only[Option.map_some]
   have hne:f i≠r:=fun h2=>by
    subst h2
    obtain ⟨h3,h4⟩:=List.getElem?_eq_some_iff.1 hp
    obtain ⟨h5,h6⟩:=List.getElem?_eq_some_iff.1 hq
    exact e ((List.getElem_inj rootsU_nodup).1 (h4.trans h6.symm))
   rw[bestU_succ,memU_succ,if_neg hne,if_neg hne]
theorem outU_at(hp:(rootsU f i)[p]? = some r):(outU lt f i i)[p]? = some (bestU lt f i r,memU f i r):=by
 unfold outU
 rw[List.getElem?_map,hp];rfl
theorem root_place(hr:r<i)(h:f r=r):∃p:Nat,(rootsU f i)[p]? = some r:=by
 obtain ⟨p,hp,e⟩:=List.getElem_of_mem (rootsU_in.2 ⟨hr,h⟩)
 exact ⟨p,by rw[List.getElem?_eq_getElem hp,e]⟩
theorem outU_congr(h:∀j,j<n→f j=g j):outU lt f n n=outU lt g n n:=by
 have h1:rootsU f n=rootsU g n:=by
  unfold rootsU
  exact List.filter_congr fun j hj=>by rw[h j (List.mem_range.1 hj)]
 have h2:∀r,memU f n r=memU g n r:=fun r=>by
  unfold memU
  exact List.filter_congr fun j hj=>by rw[h j (List.mem_range.1 hj)]
 unfold outU
 rw[h1]
 exact List.map_congr_left fun r _=>by unfold bestU;rw[h2]
end
end Go.Proofs.YtoblkpomikokhaaGreat.Sx
namespace Go.Proofs.YtoblkpomikokhaaGreat.Sx
open Go Go.RowKit
theorem foldB_in{α:Type}[DecidableEq α]:∀(l out:List α),∀x∈l.foldl fstep out,x∈out∨x∈l
 | [],out,x,h=>.inl h
 | s :: l,out,x,h=>by
  rw[List.foldl_cons]at h
  rcases foldB_in l (fstep out s) x h with h|h
  ·have h2:x∈out++[s]:=by
    rcases fstep_cases out s with ⟨k,_,_,_,e⟩|⟨_,e⟩
    ·rw[e]at h;exact List.mem_of_mem_take h
    ·rw[e]at h;exact h
   rcases List.mem_append.1 h2 with h3|h3
   ·exact .inl h3
   ·rw[List.mem_singleton.1 h3];exact .inr List.mem_cons_self
  ·exact .inr (List.mem_cons_of_mem _ h)
theorem base_le(l:Bst):(baseB l).length≤l.length:=by
 unfold baseB
 rw[List.length_reverse]
 refine Nat.le_trans (List.Sublist.length_le (List.takeWhile_sublist _)) ?_
 rw[List.length_reverse];exact Nat.le_refl _
theorem okB_fa{M:Mem}{f:Fa}(h:faOk M f):okB (faB f).1 (faB f).2:=by
 obtain ⟨_,_,_,h4⟩:=h
 refine ⟨?_,?_,fun c hc=>?_⟩
 ·have h1:=norm_len (f.2.2.2.1.take 512)
  rw[List.length_take]at h1
  show (normB (f.2.2.2.1.take 512)).length<_
  omega
 ·show ((foldB (f.2.2.2.2.2.map callB)).take 16).length<_
  rw[List.length_take];omega
 ·have hc:c∈(foldB (f.2.2.2.2.2.map callB)).take 16:=hc
  rcases foldB_in _ _ c (List.mem_of_mem_take hc) with h|h
  ·simp at h
  ·obtain ⟨k,hk,rfl⟩:=List.mem_map.1 h
   obtain ⟨g1,g2⟩:=h4 k hk
   have g3:=base_le k.2.1
   unfold callB
   rw[List.length_append,List.length_cons]
   omega
def sgK(T:List (Bst×List Bst))(d:Int)(i:Nat):List Bst:=match T[i]? with
 | some s=>keysB s.1 s.2 d
 | none=>[]
def lnkR(T:List (Bst×List Bst))(d:Int)(i k:Nat):Prop:=∃x,x∈sgK T d i∧x∈sgK T d k
theorem lnkR_symm{T:List (Bst×List Bst)}{d:Int}:∀i k,lnkR T d i k→lnkR T d k i:=fun _ _ ⟨x,h1,h2⟩=>⟨x,h2,h1⟩
theorem sgK_at{T:List (Bst×List Bst)}{d:Int}{i:Nat}(h:i<T.length):sgK T d i=keysB T[i].1 T[i].2 d:=by unfold sgK;rw[List.getElem?_eq_getElem h]
theorem keyB_len{m:Bst}{C:List Bst}{n:Nat}(h:okB m C)(hn:n≤16):∀x∈keyB m C n,x.length≤100000000000000000:=fun x hx=>by
 obtain ⟨h1,h2,h3⟩:=h
 unfold keyB at hx
 rcases List.mem_append.1 hx with hx|hx
 ·split at hx
  ·cases hx
  ·rw[List.mem_singleton.1 hx,List.length_append,List.length_singleton];omega
 ·split at hx
  ·rw[List.mem_singleton.1 hx]
   have hjl:=joinB_len (C.take n) 1000000000000000 fun c hc=>Nat.le_of_lt (h3 c (List.mem_of_mem_take hc))
   have h4:(C.take n).length≤16:=by rw[List.length_take];omega
   have h5:=Nat.mul_le_mul_right (1000000000000000+1) h4
   unfold stkK
   rw[List.length_append,List.length_singleton]
   omega
  ·cases hx
theorem keysB_len{m:Bst}{C:List Bst}{d:Int}(h:okB m C):∀x∈keysB m C d,x.length≤100000000000000000:=fun x hx=>by
 unfold keysB at hx
 split at hx
 ·split at hx
  ·rw[List.mem_singleton.1 hx];decide
  ·exact keyB_len h (by omega) x hx
 ·cases hx
theorem keysB_two{m:Bst}{C:List Bst}{d:Int}:(keysB m C d).length≤2:=by
 unfold keysB
 split
 ·split
  ·decide
  ·unfold keyB
   rw[List.length_append]
   split<;>split<;>simp
 ·decide
def encF(fi:List (Bst×Nat)):List (Value×Value):=fi.map fun p=>(.string (bs p.1),.int .i64 (p.2:Int))
def encP(fi:List (Nat×Nat)):List (Value×Value):=fi.map fun p=>(.int .i64 (p.1:Int),.int .i64 (p.2:Int))
theorem encF_in{fi:List (Bst×Nat)}{k:Bst}{v:Value}(h:(Value.string (bs k),v)∈encF fi):∃p:Nat,v=.int .i64 (p:Int)∧(k,p)∈fi:=by
 obtain ⟨⟨k',p⟩,hp,e⟩:=List.mem_map.1 h
 obtain ⟨e1,e2⟩:=Prod.mk.inj e
 have e3:bs k'=bs k:=by injection e1
 have e4:k'=k:=by have:=congrArg (fun x=>x.data.toList) e3;simpa [bs] using this
 exact ⟨p,e2.symm,e4▸hp⟩
theorem encF_no{fi:List (Bst×Nat)}{k:Bst}(h:∀q∈encF fi,q.1≠Value.string (bs k)):∀p,(k,p)∉fi:=fun _ hp=>h _ (List.mem_map.2 ⟨_,hp,rfl⟩) rfl
theorem wf64{x:Int}(h1 : -9223372036854775808≤x)(h2:x≤9223372036854775807):(Lit.int .i64 x).wf=true:=by
 have e1:IntKind.i64.min=-9223372036854775808:=by decide
 have e2:IntKind.i64.max=9223372036854775807:=by decide
 simp only[Lit.wf,e1,e2,Bool.and_eq_true,decide_eq_true_eq]
 exact ⟨h1,h2⟩
theorem encP_in{fi:List (Nat×Nat)}{k:Nat}{v:Value}(h:(Value.int .i64 (k:Int),v)∈encP fi):∃p:Nat,v=.int .i64 (p:Int)∧(k,p)∈fi:=by
 obtain ⟨⟨k',p⟩,hp,e⟩:=List.mem_map.1 h
 obtain ⟨e1,e2⟩:=Prod.mk.inj e
 have e3:(k':Int)=(k:Int):=by injection e1
 have e4:k'=k:=by omega
 exact ⟨p,e2.symm,e4▸hp⟩
theorem encP_no{fi:List (Nat×Nat)}{k:Nat}(h:∀q∈encP fi,q.1≠Value.int .i64 (k:Int)):∀p,(k,p)∉fi:=fun _ hp=>h _ (List.mem_map.2 ⟨_,hp,rfl⟩) rfl
structure GX where
 m:Bst
 y:Value
 C:List Bst
 u:Value
 l:List Nat
def GX.c(g:GX):List Value:=[.string (bs g.m),g.y,g.u]
abbrev GO:=(Bst×List Bst)×List Nat
def GX.o(g:GX):GO:=((g.m,g.C),g.l)
def okGX(M:Mem)(g:GX):Prop:=IsL M sbV g.y g.C∧IsL M natV g.u g.l
theorem okGX.le{M M':Mem}{g:GX}(h:okGX M g)(hM:Mem.le M M'):okGX M' g:=⟨h.1.le hM,h.2.le hM⟩
def GRF(M0 M:Mem)(U:Value)(O:List GO):Prop:=∃L:List GX,IsR M 3 GX.c U L∧FreshS M0 U∧(∀g∈L,okGX M g∧FreshS M0 g.y∧FreshS M0 g.u)∧L.map GX.o=O
theorem GRF.older{M0 M1 M:Mem}{U:Value}{O:List GO}(h:GRF M1 M U O)(hM:Mem.le M0 M1):GRF M0 M U O:=by
 obtain ⟨L,h1,h2,h3,h4⟩:=h
 exact ⟨L,h1,h2.le hM,fun g hg=>⟨(h3 g hg).1,(h3 g hg).2.1.le hM,(h3 g hg).2.2.le hM⟩,h4⟩
theorem GRF.le{M0 M M':Mem}{U:Value}{O:List GO}(h:GRF M0 M U O)(hM:Mem.le M M'):GRF M0 M' U O:=by
 obtain ⟨L,h1,h2,h3,h4⟩:=h
 exact ⟨L,h1.le hM,h2,fun g hg=>⟨(h3 g hg).1.le hM,(h3 g hg).2⟩,h4⟩
def ltG(T:List (Bst×List Bst))(i j:Nat):Bool:=decide (cmpG (T.getD i ([],[])) (T.getD j ([],[]))<0)
def grpO(T:List (Bst×List Bst))(f:Nat→Nat):List GO:=(outU (ltG T) f T.length T.length).map fun p=>(T.getD p.1 ([],[]),p.2)
def GrpO(T:List (Bst×List Bst))(d:Int)(O:List GO):Prop:=∃f,Lab T.length (lnkR T d) f∧O=grpO T f
theorem GrpO.uniq{T:List (Bst×List Bst)}{d:Int}{O O':List GO}(h:GrpO T d O)(h':GrpO T d O'):O=O':=by
 obtain ⟨f,h1,rfl⟩:=h
 obtain ⟨g,h2,rfl⟩:=h'
 unfold grpO
 rw[outU_congr fun j hj=>h1.uniq h2 hj]
def mixG:List Value→List GT→List GT
 | [],G=>G
 | _ :: _,[]=>[]
 | y :: Y,g :: G=>(g.1,y,g.2.2) :: mixG Y G
theorem mixG_len:∀(Y:List Value) (G:List GT),(mixG Y G).length=G.length
 | [],G=>rfl
 | _ :: _,[]=>rfl
 | y :: Y,g :: G=>by simp only[mixG,List.length_cons,mixG_len Y G]
theorem mixG_at:∀(Y:List Value) (G:List GT),(mixG Y G)[Y.length]? = G[Y.length]?
 | [],G=>rfl
 | _ :: _,[]=>by simp[mixG]
 | y :: Y,g :: G=>by simp only[mixG,List.length_cons,List.getElem?_cons_succ,mixG_at Y G]
theorem mixG_set:∀(Y:List Value) (G:List GT) (y:Value) (h:Y.length<G.length),(mixG Y G).set Y.length (G[Y.length].1,y,G[Y.length].2.2)=mixG (Y++[y]) G
 | [],[],y,h=>absurd h (Nat.not_lt_zero _)
 | [],g :: G,y,h=>rfl
 | _ :: _,[],y,h=>absurd h (Nat.not_lt_zero _)
 | z :: Y,g :: G,y,h=>by
  simp only[mixG,List.length_cons,List.cons_append,List.set_cons_succ,List.getElem_cons_succ]
  rw[mixG_set Y G y (Nat.lt_of_succ_lt_succ h)]
theorem gL_mix:∀(Y:List Value) (G:List GT),gL (mixG Y G)=gL G
 | [],G=>rfl
 | _ :: _,[]=>rfl
 | y :: Y,g :: G=>by
  have:=gL_mix Y G
  unfold gL at this ⊢
  simp only[mixG,List.map_cons,this]
theorem gx_of{M0 M:Mem}:∀(O:List GO) (Y:List Value) (G:List GT) (L:List GV),Y.length=O.length→G.length=O.length→(∀j (h:j<O.length) (h2:j<G.length),G[j].1=.string (bs O[j].1.1)∧G[j].2.2=O[j].2.map natV)→(∀j (h:j<O.length) (h2:j<Y.length),IsL M sbV Y[j] O[j].1.2∧FreshS M0 Y[j])→L.map GV.t=mixG Y G→(∀g∈L,SlM M 1 g.u g.l.length g.l∧FreshS M0 g.u)→
  ∃L':List GX,L'.flatMap GX.c=L.flatMap GV.c∧L'.length=L.length∧L'.map GX.o=O∧∀g∈L',okGX M g∧FreshS M0 g.y∧FreshS M0 g.u
 | [],Y,G,L,h1,h2,_,_,h5,_=>by
  have e1:G=[]:=List.eq_nil_of_length_eq_zero h2
  have e2:Y=[]:=List.eq_nil_of_length_eq_zero h1
  subst e1;subst e2
  have e3:L=[]:=by cases L with
   | nil=>rfl
   | cons a l=>cases h5
  subst e3
  exact ⟨[],rfl,rfl,rfl,fun g hg=>by cases hg⟩
 | o :: O,[],G,L,h1,_,_,_,_,_=>by cases h1
 | o :: O,y :: Y,[],L,_,h2,_,_,_,_=>by cases h2
 | o :: O,y :: Y,g :: G,[],_,_,_,_,h5,_=>by cases h5
 | o :: O,y :: Y,g :: G,w :: L,h1,h2,h3,h4,h5,h6=>by
  simp only[List.map_cons,mixG,List.cons.injEq]at h5
  obtain ⟨h5a,h5b⟩:=h5
  obtain ⟨L',i1,i2,i3,i4⟩:=gx_of O Y G L (Nat.succ.inj h1) (Nat.succ.inj h2) (fun j h h'=>by
   have:=h3 (j+1) (Nat.succ_lt_succ h) (Nat.succ_lt_succ h')
   simpa using this) (fun j h h'=>by
   have:=h4 (j+1) (Nat.succ_lt_succ h) (Nat.succ_lt_succ h')
   simpa using this) h5b (fun g hg=>h6 g (List.mem_cons_of_mem _ hg))
  obtain ⟨a1,a2⟩:=h3 0 (Nat.succ_pos _) (Nat.succ_pos _)
  obtain ⟨b1,b2⟩:=h4 0 (Nat.succ_pos _) (Nat.succ_pos _)
  obtain ⟨c1,c2⟩:=h6 w List.mem_cons_self
  simp only[List.getElem_cons_zero]at a1 a2 b1 b2
  obtain ⟨wx,wy,wu,wl⟩:=w
  simp only[GV.t,Prod.mk.injEq]at h5a
  obtain ⟨rfl,rfl,rfl⟩:=h5a
  refine ⟨⟨o.1.1,wy,o.1.2,wu,o.2⟩ :: L',?_,by simp only[List.length_cons,i2],by simp only[List.map_cons,i3];rfl,fun g hg=>?_⟩
  ·simp only[List.flatMap_cons,i1,GX.c,GV.c,a1]
  ·rcases List.mem_cons.1 hg with rfl|hg
   ·refine ⟨⟨b1,?_⟩,b2,c2⟩
    have c1:SlM M 1 wu g.2.2.length g.2.2:=c1
    rw[a2]at c1
    unfold IsL
    rw[List.length_map]at c1
    exact c1
   ·exact i4 g hg
set_option linter.unusedVariables false
set_option linter.unusedSimpArgs false
set_option maxRecDepth 100000
set_option maxHeartbeats 8000000
attribute [local congr] fin_congr finG_congr stepG_congr step1_congr runOps_congr brv_congr obl_congr condK_congr LoopK_congr seqK_congr CutK_congr vc_congr DrawK_congr regK_congr CallK_congr AskK_congr newK_congr retC_congr ret1_congr retK_congr outV_congr closeK_congr genR_congr appR_congr finD_congr finGD_congr stepGD_congr stepD_congr CallK0_congr runD_congr okR_congr CallS_congr vcX_congr
attribute [local congr] Stop_congr
theorem le_off{M1 M2 M3:Mem}{b:Nat}(h:Mem.le M1 M2)(hb:M1 b=none)(h3:∀x,x≠b→M3 x=M2 x):Mem.le M1 M3:=fun x o hx=>by
 have hne:x≠b:=fun e=>by rw[e,hb]at hx;cases hx
 rw[h3 x hne];exact h x o hx
theorem subH_no(H:Hp):subH H []=[]:=by
 induction H with
 | nil=>rfl
 | cons x H ih=>obtain ⟨k,y⟩:=x;simp[subH,ih,hasK]
theorem dropH_no(H:Hp):dropH [] H=H:=by
 induction H with
 | nil=>rfl
 | cons x H ih=>obtain ⟨k,y⟩:=x;simp[dropH,ih,lkH]
theorem callA_no{P:Program}{f:FuncId}{args:List AV}{s:St}{d:Option Nat}{K:St→Prop}(hm:mentL args=[])(h:CallS P f args [] s.M [] (afterK s d [] K)):CallK P f args s d K:=callA_nil (by rw[hm];simp[reachK,cellsK,subH_no]) h
theorem callA0_no{P:Program}{f:FuncId}{args:List AV}{s:St}{d:Option Nat}{K:St→Prop}(hm:mentL args=[])(h:CallS P f args [] s.M [] (afterK s d [] K)):CallK0 P f args s d K:=callA0_nil (by rw[hm];simp[reachK,cellsK,subH_no]) h
theorem outU_bnd{lt:Nat→Nat→Bool}{f:Nat→Nat}{i n:Nat}(hi:i≤n):∀o∈outU lt f i i,o.1<n∧o.2.length≤i:=fun o ho=>by
 unfold outU at ho
 obtain ⟨r,hr,rfl⟩:=List.mem_map.1 ho
 have h1:=(rootsU_in.1 hr).1
 refine ⟨bestU_lt (by omega) hi,?_⟩
 have h2:=List.length_filter_le (fun j=>f j==r) (List.range i)
 rw[List.length_range]at h2
 exact h2
section
variable {M:Mem}{K:AV→Hp→Mem→Prop}
def spA(M:Mem)(b:Nat)(v:Value)(n i:Nat)(d:Int)(c:List Nat):St:={env:=[(35,.ext (.int .i64 (i:Int))),(34,.ext (.int .i64 (n:Int))),(33,.ext v),(9,.ext (.map (some b))),(8,.own 8 0),(6,.ext v),(1,.ext (.int .i64 d))],hp:=[(8,62,cE natV c)],M:=M,kb:=0,fx:=[],fr:=[b]}
def spB(M:Mem)(b:Nat)(v kv:Value)(n i m q:Nat)(d:Int)(c:List Nat):St:={env:=[(47,.ext (.int .i64 (q:Int))),(46,.ext (.int .i64 (m:Int))),(45,.ext kv),(10,.ext (.int .i64 (i:Int))),(35,.ext (.int .i64 (i:Int))),(34,.ext (.int .i64 (n:Int))),(33,.ext v),(9,.ext (.map (some b))),(8,.own 8 0),(6,.ext v),(1,.ext (.int .i64 d))],hp:=[(8,62,cE natV c)],M:=M,kb:=0,fx:=[],fr:=[b]}
def spJ(M:Mem)(b:Nat)(v:Value)(c:List Nat):St:={env:=[(8,.own 8 0),(6,.ext v)],hp:=[(8,62,cE natV c)],M:=M,kb:=0,fx:=[],fr:=[b]}
theorem hasK_famTop{T:TypeId}{k:Nat}:∀(Ls:List (List Value)) (b:Nat),b+Ls.length≤k→hasK k (mentH (famB b T Ls))=false
 | [],b,_=>rfl
 | l :: Ls,b,h=>by
  rw[List.length_cons]at h
  rw[famB_cons]
  simp only[mentH,mentL_ext,List.nil_append,hasK]
  rw[hasK_famTop Ls (b+1) (by omega),Bool.or_false]
  exact beq_eq_false_iff_ne.2 (by omega)
theorem gC_mentTop{b k:Nat}{G:List GT}(h:b+G.length≤k):hasK k (mentL (gC b G))=false:=hasK_no.2 fun hm=>by
 obtain ⟨i,_,h2⟩:=(gC_mem G b).1 hm
 omega
def sgZ:SG:=⟨[],.slice none 0 0,[]⟩
def gG(S:List SG)(O:List (Nat×List Nat)):List GT:=O.map fun p=>(.string (bs (S.getD p.1 sgZ).m),(S.getD p.1 sgZ).u,p.2.map natV)
theorem gG_set(S:List SG)(O:List (Nat×List Nat))(p:Nat)(x:Nat×List Nat):gG S (O.set p x)=(gG S O).set p (.string (bs (S.getD x.1 sgZ).m),(S.getD x.1 sgZ).u,x.2.map natV):=by unfold gG;rw[List.map_set]
theorem gL_set(G:List GT)(p:Nat)(x:GT):gL (G.set p x)=(gL G).set p x.2.2:=by unfold gL;rw[List.map_set]
def spC(M:Mem)(b b2:Nat)(v:Value)(n i r:Nat)(c:List Nat)(G:List GT):St:={env:=[(69,.ext (.int .i64 (i:Int))),(68,.ext (.int .i64 (n:Int))),(67,.ext v),(17,.ext (.map (some b2))),(16,.slo 93 0 r 3),(8,.own 8 0)],hp:=(93,43,gC 1000 G) :: (8,62,cE natV c) :: famH 1000 3 (gL G) [],M:=M,kb:=0,fx:=[],fr:=[b2,b]}
def spX(M:Mem)(b b2:Nat)(v:Value)(n i r p:Nat)(c:List Nat)(sm:Bst)(su:Value)(cs:List AV)(F:Hp):St:={env:=[(20,.ext (.int .i64 (p:Int))),(19,.own 19 0),(18,.ext (.int .i64 (i:Int))),(69,.ext (.int .i64 (i:Int))),(68,.ext (.int .i64 (n:Int))),(67,.ext v),(17,.ext (.map (some b2))),(16,.slo 93 0 r 3),(8,.own 8 0)],hp:=(19,41,[.ext (.string (bs sm)),.ext su]) :: (93,43,cs) :: (8,62,cE natV c) :: F,M:=M,kb:=0,fx:=[],fr:=[b2,b]}
abbrev spD(M:Mem)(b b2:Nat)(v:Value)(n i r p:Nat)(c:List Nat)(sm:Bst)(su:Value)(G:List GT):St:=spX M b b2 v n i r p c sm su (gC 1000 G) (famH 1000 3 (gL G) [])
theorem cloneS_ok(u:Value)(l:List Bst)(hu:IsL M sbV u l)(hb:l.length<1000000000)(hK:∀w M',Mem.le M M'→IsL M' sbV w l→FreshS M w→K (.ext w) [] M'):CallS Tryz.prog 22 [.ext u] [] M [] K:=by
 refine CallS.frzF ?_
 refine inlS (cs:=[]) Tryz.mixed Tryz.func22 rfl (by kernel_rfl) 0 rfl rfl ?_
 simp only[Tryz.f22]
 cases hn:nilS u with
 | true=>
  have hl:l=[]:=by
   rcases l with _|⟨a,r⟩
   ·rfl
   ·rw[hu.nn (i:=0) (by simp)]at hn;cases hn
  subst hl
  (try with_reducible refine Fz.of ?_);refine Go1.mk ?_;repeat' ((first|(with_reducible refine Go1.go ?_)|(refine And.intro ?_ ?_;(try simp only[sxO]at *);omega)|fail)<;>(try simp (maxSteps:=1000000) only [hn,hu.one,hu.sl,bs_mk,bs_app,bs_ext,bs_size,bs_toList,bs_at,bs_cells,List.take_length,imp_ga,guard_pk,guard_pk2,↓hold_pre,awayP,runOps,regK,step1,newK,genR,appR,obl,buildR,Value.cells,closeK,keepH,outV,retK,ret1,retC,RetV,Option.getD,runD,stepD,afterK,undef,simprocAttr,sxB,↓sxD,sxE,sxTab]))
  exact .inl (hK _ _ (Mem.le.refl _) (isL_nil _ _ _) (freshS_nil _ _))
 | false=>
  have hrow:=hu.row
  have h1:List.map AV.ext (List.map sbV l)=cE sbV l:=rfl
  have a1:allOne (cE sbV l)=True:=eq_true (allOne_cE sbV (fun _=>rfl) l)
  have a2:(l.length*16≤140737488355328)=True:=eq_true (by omega)
  have a3:(l.length≤maxLen)=True:=eq_true (by unfold maxLen;omega)
  (try with_reducible refine Fz.of ?_);refine Go1.mk ?_;repeat' ((first|(with_reducible refine Go1.go ?_)|(refine And.intro ?_ ?_;(try simp only[sxO]at *);omega)|fail)<;>(try simp (maxSteps:=1000000) only [hn,hu.one,hu.sl,hu.len,hrow,h1,a1,a2,a3,cE_ment,cE_kill,cE_len,hasK_nil,Nat.mul_one,bs_mk,bs_app,bs_ext,bs_size,bs_toList,bs_at,bs_cells,List.take_length,imp_ga,guard_pk,guard_pk2,↓hold_pre,awayP,runOps,regK,step1,newK,genR,appR,obl,buildR,Value.cells,closeK,keepH,outV,retK,ret1,retC,RetV,Option.getD,runD,stepD,afterK,undef,simprocAttr,sxB,↓sxD,sxE,sxTab]))
  exact FrzF.one (l.map sbV) rfl (by simp) fun w M' h1 h2 h3=>hK w M' h1 (by unfold IsL;exact h2) h3
def spF(M:Mem)(b b2:Nat)(r i:Nat)(G:List GT):St:={env:=[(122,.ext (.int .i64 (i:Int))),(121,.ext (.int .i64 (r:Int))),(16,.slo 93 0 r 3)],hp:=(93,43,gC 1000 G) :: famH 1000 3 (gL G) [],M:=M,kb:=0,fx:=[],fr:=[b2,b]}
theorem gsplit_ok(u:Value)(L:List Fa)(d:Int)(hu:IsR M 5 faC u L)(ho:∀f∈L,faOk M f)(hb:L.length<1000000)
  (hK1:sgnE L d≠0→∀M',Mem.le M M'→K (.ext (.tuple #[.slice none 0 0,.int .i64 (sgnE L d)])) [] M')
  (hK2:sgnE L d=0→∀u' M' O,Mem.le M M'→GrpO (L.map faB) d O→GRF M M' u' O→K (.ext (.tuple #[u',.int .i64 0])) [] M') :
  CallS Tryz.prog 7 [.ext u,.ext (.int .i64 d)] [] M [] K:=by
 refine CallS.frzO ?_
 refine inlS (cs:=[19,29]) Tryz.mixed Tryz.func7 rfl (by kernel_rfl) 0 rfl rfl ?_
 simp only[Tryz.f7]
 have uo:=hu.one
 (try with_reducible refine Fz.of ?_);refine Go1.mk ?_;repeat' ((first|(with_reducible refine Go1.go ?_)|(((with_reducible refine isCall (f:=17) ?_);refine callA_nil (by kernel_rfl) ?_;refine (gsigns_ok u L d hu ho hb (fun he M1 m1=>Stop.mk ?_) (fun he v S M1 m1 g1 g2 g3 g4=>Stop.mk ?_))))|(refine And.intro ?_ ?_;(try simp only[sxO]at *);omega)|fail)<;>(try simp (maxSteps:=1000000) only [uo,↓hold_pre,awayP,runOps,regK,step1,newK,genR,appR,obl,buildR,Value.cells,closeK,keepH,outV,retK,ret1,retC,RetV,Option.getD,runD,stepD,afterK,undef,simprocAttr,sxB,↓sxD,sxE,sxTab]))
 ·have d1:decide (sgnE L d=0)=false:=decide_eq_false he
  have hk:=hK1 he M1 m1
  refine Stop.go ?_
  (try with_reducible refine Fz.of ?_);refine Go1.mk ?_;repeat' ((first|(with_reducible refine Go1.go ?_)|(refine And.intro ?_ ?_;(try simp only[sxO]at *);omega)|fail)<;>(try simp (maxSteps:=1000000) only [d1,uo,↓hold_pre,awayP,runOps,regK,step1,newK,genR,appR,obl,buildR,Value.cells,closeK,keepH,outV,retK,ret1,retC,RetV,Option.getD,runD,stepD,afterK,undef,simprocAttr,sxB,↓sxD,sxE,sxTab]))
  exact .inl hk
 have m1:Mem.le M M1:=m1
 have vo:=g1.one
 have vl:=g1.len
 have vs:=g1.sl
 have hSl:S.length=L.length:=by have:=congrArg List.length g3;simpa using this
 have hn64:L.length≤64:=by
  unfold sgnE at he
  split at he
  ·cases he
  ·split at he
   ·cases he
   ·split at he
    ·cases he
    ·omega
 obtain ⟨T,hT⟩:∃T,T=L.map faB:=⟨_,rfl⟩
 have hTl:T.length=L.length:=by rw[hT,List.length_map]
 have hTok:∀s∈T,okB s.1 s.2:=fun s hs=>by
  rw[hT]at hs
  obtain ⟨f,hf,rfl⟩:=List.mem_map.1 hs
  exact okB_fa (ho f hf)
 rw[←hT]at g3
 rw[hSl]at vl
 obtain ⟨n,hn⟩:∃n,n=L.length:=⟨_,rfl⟩
 rw[←hn]at hSl hn64 hTl vl
 have ht80:Tryz.prog.underlying 63=some (.map 9 3):=by kernel_rfl
 have kS:=Maps.string_keyed Tryz.underlying9
 refine Stop.go ?_
 (try with_reducible refine Fz.of ?_);refine Go1.mk ?_;repeat' ((first|(with_reducible refine Go1.go ?_)|(refine And.intro ?_ ?_;(try simp only[sxO]at *);omega)|fail)<;>(try simp (maxSteps:=1000000) only [uo,vo,↓hold_pre,awayP,runOps,regK,step1,newK,genR,appR,obl,buildR,Value.cells,closeK,keepH,outV,retK,ret1,retC,RetV,Option.getD,runD,stepD,afterK,undef,simprocAttr,sxB,↓sxD,sxE,sxTab]))
 refine ask_makeMap rfl fun b ob hob hMb=>?_
 have hMb:M1 b=none:=hMb
 have hle:Mem.le M1 (updM M1 b ob):=le_off (Mem.le.refl _) hMb fun x hx=>updM_ne hx
 have hself:updM M1 b ob b=some ob:=updM_self _ _ _
 have hI0:MapV ob (encF []):=hob.v0
 generalize updM M1 b ob=M2 at hle hself ⊢
 (try with_reducible refine Fz.of ?_);refine Go1.mk ?_;repeat' ((first|(with_reducible refine Go1.go ?_)|(refine And.intro ?_ ?_;(try simp only[sxO]at *);omega)|fail)<;>(try simp (maxSteps:=1000000) only [uo,vo,vl,vs,St.put,↓hold_pre,awayP,runOps,regK,step1,newK,genR,appR,obl,buildR,Value.cells,closeK,keepH,outV,retK,ret1,retC,RetV,Option.getD,runD,stepD,afterK,undef,simprocAttr,sxB,↓sxD,sxE,sxTab]))
 refine ⟨fun z=>∃M' c,Mem.le M1 M'∧c.length=64∧(∀j,c.getD j 0≤j)∧Lab n (lnkR T d) (rt c)∧z=spJ M' b v c,?_,?_⟩
 ·(try with_reducible refine Fz.of ?_);refine Go1.mk ?_;repeat' ((first|(with_reducible refine Go1.go ?_)|(refine And.intro ?_ ?_;(try simp only[sxO]at *);omega)|fail)<;>(try simp (maxSteps:=1000000) only [uo,vo,vl,vs,St.put,↓hold_pre,awayP,runOps,regK,step1,newK,genR,appR,obl,buildR,Value.cells,closeK,keepH,outV,retK,ret1,retC,RetV,Option.getD,runD,stepD,afterK,undef,simprocAttr,sxB,↓sxD,sxE,sxTab]))
  refine ⟨fun k z=>∃M' ob fi c i,k=n-i∧i≤n∧Mem.le M1 M'∧M' b=some ob∧MapV ob (encF fi)∧((i=0∧fi=[]∧c=List.replicate 64 0)∨(∃j,i=j+1∧UF n 64 (sgK T d) (lnkR T d) j (sgK T d j).length c fi))∧z=spA M' b v n i d c,
   ⟨n,spA M2 b v n 0 d (List.replicate 64 0),le_sub ⟨rfl,rfl,rfl,rfl,rfl,rfl,rfl,trivial⟩ ⟨rfl,trivial⟩ rfl rfl rfl (keepLt0 _),⟨M2,ob,[],_,0,by omega,by omega,hle,hself,hI0,.inl ⟨rfl,rfl,rfl⟩,rfl⟩⟩,?_⟩
  clear hself hI0 hle
  rintro k z ⟨M3,ob3,fi,c,i,rfl,hi,m3,hb3,hI3,hUF,rfl⟩
  by_cases hlt:i<n
  case neg=>
   obtain rfl:i=n:=by omega
   have y1:decide ((i:Int)<(i:Int))=false:=by simp
   (try with_reducible refine Fz.of ?_);refine Go1.mk ?_;repeat' ((first|(with_reducible refine Go1.go ?_)|(refine And.intro ?_ ?_;(try simp only[sxO]at *);omega)|fail)<;>(try simp (maxSteps:=1000000) only [spA,y1,uo,vo,vl,vs,cE_ment,cE_kill,hasK_nil,↓hold_pre,awayP,runOps,regK,step1,newK,genR,appR,obl,buildR,Value.cells,closeK,keepH,outV,retK,ret1,retC,RetV,Option.getD,runD,stepD,afterK,undef,simprocAttr,sxB,↓sxD,sxE,sxTab]))
   refine ⟨spJ M3 b v c,le_sub ⟨rfl,rfl,trivial⟩ ⟨rfl,trivial⟩ rfl rfl rfl (keepLt0 _),M3,c,m3,?_⟩
   rcases hUF with ⟨rfl,_,rfl⟩|⟨j,rfl,h⟩
   ·exact ⟨by simp,fun j=>by rw[List.getD_eq_getElem?_getD,List.getElem?_replicate];split<;>simp,⟨fun i hi=>absurd hi (Nat.not_lt_zero _),fun i hi=>absurd hi (Nat.not_lt_zero _),fun i _ hi=>absurd hi (Nat.not_lt_zero _),fun i _ hi=>absurd hi (Nat.not_lt_zero _)⟩,rfl⟩
   ·exact ⟨h.len,h.ok,h.lab rfl (fun _ _ h=>h),rfl⟩
  have y1:decide ((i:Int)<(n:Int))=true:=by rw[decide_eq_true_eq];omega
  have y2:(0:Int)≤(i:Int):=by omega
  have y3:(i:Int)<(n:Int):=by omega
  have y4:(i:Int)<64:=by omega
  have y5:i<64:=by omega
  have wi:IntKind.i64.wrap ((i:Int)+1)=((i+1:Nat):Int):=by rw[wrap_id (by omega) (by omega)];omega
  have g13:=g1.le m3
  have hiS:i<S.length:=by omega
  have hnn:=g13.nn hiS
  have hat:=g13.at (P:=Tryz.prog) (T:=41) (fun _=>rfl) tk41 tz41 hiS
  have hso:=g2 _ (List.getElem_mem hiS)
  have hiT:i<T.length:=by omega
  have hTi:T[i]=S[i].t:=by
   have:T[i]? = some S[i].t:=by rw[←g3,List.getElem?_map,List.getElem?_eq_getElem hiS];rfl
   rw[List.getElem?_eq_getElem hiT]at this
   exact Option.some.inj this
  have hkT:=sgK_at (d:=d) hiT
  have hTo:=hTok _ (List.getElem_mem hiT)
  rw[hTi]at hkT hTo
  clear hTi
  generalize S[i]=s at *
  obtain ⟨sm,su,sC⟩:=s
  have hat2:lookM Tryz.prog 41 M3 (elemP v 2 i)=some (.agg #[.string (bs sm),su]):=hat
  clear hat
  have hso:IsL M1 sbV su sC:=hso
  have so:=hso.one
  have hkT:sgK T d i=keysB sm sC d:=hkT
  have hTo:okB sm sC:=hTo
  have hcl:c.length=64:=by
   rcases hUF with ⟨_,_,rfl⟩|⟨_,_,h⟩
   ·simp
   ·exact h.len
  have hset:(cE natV c).set i (.ext (.int .i64 (i:Int)))=cE natV (c.set i i):=cE_set natV c i i
  have e4:(cE natV c).length=64:=by rw[cE_len];exact hcl
  have hUF2:UF n 64 (sgK T d) (lnkR T d) i 0 (c.set i i) fi:=by
   rcases hUF with ⟨rfl,rfl,rfl⟩|⟨j,rfl,h⟩
   ·exact UF.first (by omega) (by simp) hn64 fun j=>by
     rw[getD_setN _ _ _ _ (by simp)]
     split
     ·omega
     ·rw[List.getD_eq_getElem?_getD,List.getElem?_replicate];split<;>simp
   ·exact h.next hlt hn64
  clear hUF
  (try with_reducible refine Fz.of ?_);refine Go1.mk ?_;repeat' ((first|(with_reducible refine Go1.go ?_)|(((with_reducible refine isCall (f:=18) ?_);refine callA_nil (by kernel_rfl) ?_;refine (gkeys_ok sm su sC d (hso.le m3) hTo (fun kv M4 m4 g5 g6=>Stop.mk ?_))))|(refine And.intro ?_ ?_;(try simp only[sxO]at *);omega)|fail)<;>(try simp (maxSteps:=1000000) only [spA,y1,y2,y3,y4,y5,hnn,hat2,hset,e4,so,vo,vl,vs,Nat.mul_one,Nat.zero_add,cE_ment,cE_kill,hasK_nil,bs_mk,bs_app,bs_ext,bs_size,bs_toList,bs_at,bs_cells,List.take_length,imp_ga,guard_pk,guard_pk2,↓hold_pre,awayP,runOps,regK,step1,newK,genR,appR,obl,buildR,Value.cells,closeK,keepH,outV,retK,ret1,retC,RetV,Option.getD,runD,stepD,afterK,undef,simprocAttr,sxB,↓sxD,sxE,sxTab]))
  have m4:Mem.le M3 M4:=m4
  have g6:FreshS M3 kv:=g6
  have ko:=g5.one
  have kl:=g5.len
  have ks:=g5.sl
  have hk2:=keysB_two (m:=sm) (C:=sC) (d:=d)
  obtain ⟨m,hm⟩:∃m,m=(keysB sm sC d).length:=⟨_,rfl⟩
  rw[←hm]at kl hk2
  refine Stop.go ?_
  (try with_reducible refine Fz.of ?_);refine Go1.mk ?_;repeat' ((first|(with_reducible refine Go1.go ?_)|(refine And.intro ?_ ?_;(try simp only[sxO]at *);omega)|fail)<;>(try simp (maxSteps:=1000000) only [so,vo,vl,vs,ko,kl,ks,cE_ment,cE_kill,hasK_nil,bs_mk,bs_app,bs_ext,bs_size,bs_toList,bs_at,bs_cells,List.take_length,imp_ga,guard_pk,guard_pk2,↓hold_pre,awayP,runOps,regK,step1,newK,genR,appR,obl,buildR,Value.cells,closeK,keepH,outV,retK,ret1,retC,RetV,Option.getD,runD,stepD,afterK,undef,simprocAttr,sxB,↓sxD,sxE,sxTab]))
  refine ⟨fun k z=>∃M5 ob fi c q,k=m-q∧q≤m∧(∀x,x≠b→M5 x=M4 x)∧M5 b=some ob∧MapV ob (encF fi)∧UF n 64 (sgK T d) (lnkR T d) i q c fi∧z=spB M5 b v kv n i m q d c,
   ⟨m,spB M4 b v kv n i m 0 d (c.set i i),le_sub ⟨rfl,rfl,rfl,rfl,rfl,rfl,rfl,rfl,rfl,rfl,rfl,trivial⟩ ⟨rfl,trivial⟩ rfl rfl rfl (keepLt0 _),⟨M4,ob3,fi,_,0,by omega,by omega,fun _ _=>rfl,m4 b ob3 hb3,hI3,hUF2,rfl⟩⟩,?_⟩
  clear hUF2 hset e4 hI3 hcl
  rintro k z ⟨M5,ob5,fi,c,q,rfl,hq,h5,hb5,hI5,hUF,rfl⟩
  have m5:Mem.le M1 M5:=le_off (m3.trans m4) hMb h5
  by_cases hqm:q<m
  case neg=>
   obtain rfl:q=m:=by omega
   have z1:decide ((q:Int)<(q:Int))=false:=by simp
   (try with_reducible refine Fz.of ?_);refine Go1.mk ?_;repeat' ((first|(with_reducible refine Go1.go ?_)|(refine And.intro ?_ ?_;(try simp only[sxO]at *);omega)|fail)<;>(try simp (maxSteps:=1000000) only [spB,z1,wi,so,vo,vl,vs,ko,kl,ks,cE_ment,cE_kill,hasK_nil,bs_mk,bs_app,bs_ext,bs_size,bs_toList,bs_at,bs_cells,List.take_length,imp_ga,guard_pk,guard_pk2,↓hold_pre,awayP,runOps,regK,step1,newK,genR,appR,obl,buildR,Value.cells,closeK,keepH,outV,retK,ret1,retC,RetV,Option.getD,runD,stepD,afterK,undef,simprocAttr,sxB,↓sxD,sxE,sxTab]))
   exact ⟨n-(i+1),spA M5 b v n (i+1) d c,by omega,le_sub ⟨rfl,rfl,rfl,rfl,rfl,rfl,rfl,trivial⟩ ⟨rfl,trivial⟩ rfl rfl rfl (keepLt0 _),M5,ob5,fi,c,i+1,rfl,by omega,m5,hb5,hI5,.inr ⟨i,rfl,by rw[hkT,←hm];exact hUF⟩,rfl⟩
  have z1:decide ((q:Int)<(m:Int))=true:=by rw[decide_eq_true_eq];omega
  have z2:(0:Int)≤(q:Int):=by omega
  have z3:(q:Int)<(m:Int):=by omega
  have wq:IntKind.i64.wrap ((q:Int)+1)=((q+1:Nat):Int):=by rw[wrap_id (by omega) (by omega)];omega
  have g55:IsL M5 sbV kv (keysB sm sC d):=g5.move g6 fun x hx=>h5 x fun e=>by rw[e,hb3]at hx;cases hx
  have hqk:q<(keysB sm sC d).length:=by omega
  have fs:=(g55.idx (P:=Tryz.prog) (T:=9) tk9 tz9 (by omega) hqk).1
  have fn:=g55.nn hqk
  have hqs:q<(sgK T d i).length:=by rw[hkT];exact hqk
  have hke:(sgK T d i)[q]=(keysB sm sC d)[q]:=by simp only[hkT]
  have hkl:=keysB_len hTo _ (List.getElem_mem hqk)
  have hmet:=fun p=>hUF.met (p:=p) lnkR_symm (fun _ _ k h1 h2=>⟨k,h1,h2⟩) hlt hn64 hqs
  have hfre:=hUF.fresh hqs
  rw[hke]at hmet hfre
  generalize (keysB sm sC d)[q]=kq at *
  have hks:∀p∈encF fi,∃l,keyOf Tryz.prog 9 p.1=some l:=fun p hp=>by
   obtain ⟨⟨k',p'⟩,hp',rfl⟩:=List.mem_map.1 hp
   have hin:k'∈sgK T d p':=by
    rcases hUF.fr k' p' hp' with ⟨_,h⟩|⟨h0,h⟩
    ·exact h
    ·rw[h0];exact List.mem_of_mem_take h
   have hpn:p'<T.length:=by
    rcases hUF.fr k' p' hp' with ⟨h,_⟩|⟨h,_⟩<;>omega
   rw[sgK_at hpn]at hin
   have:=keysB_len (hTok _ (List.getElem_mem hpn)) k' hin
   exact ⟨_,Go.WideMaps.keyOf_string_mk Tryz.underlying9 (s:=bs k') (by rw[bs_size];exact Nat.le_trans this (by decide))⟩
  have hkey:=Go.WideMaps.keyOf_string_mk (P:=Tryz.prog) Tryz.underlying9 (s:=bs kq) (by rw[bs_size];exact Nat.le_trans hkl (by decide))
  (try with_reducible refine Fz.of ?_);refine Go1.mk ?_;repeat' ((first|(with_reducible refine Go1.go ?_)|(refine And.intro ?_ ?_;(try simp only[sxO]at *);omega)|fail)<;>(try simp (maxSteps:=1000000) only [spB,sbV,z1,z2,z3,fs,fn,so,vo,vl,vs,ko,kl,ks,cE_ment,cE_kill,hasK_nil,bs_mk,bs_app,bs_ext,bs_size,bs_toList,bs_at,bs_cells,List.take_length,imp_ga,guard_pk,guard_pk2,↓hold_pre,awayP,runOps,regK,step1,newK,genR,appR,obl,buildR,Value.cells,closeK,keepH,outV,retK,ret1,retC,RetV,Option.getD,runD,stepD,afterK,undef,simprocAttr,sxB,↓sxD,sxE,sxTab]))
  refine ask_lookupV (b:=b) (key:=.string (bs kq)) (zv:=.int .i64 0) rfl kS ht80 (fun w=>rfl) rfl rfl hb5 hI5 hks hkey (fun v hv=>?_) (fun hno=>?_)
  ·obtain ⟨p,rfl,hp⟩:=encF_in hv
   have hpi:p<64:=by rcases hUF.fr kq p hp with ⟨h,_⟩|⟨h,_⟩<;>omega
   (try with_reducible refine Fz.of ?_);refine Go1.mk ?_;repeat' ((first|(with_reducible refine Go1.go ?_)|((with_reducible refine isCall (f:=19) ?_);refine callA ?_)|((with_reducible refine isCallS (f:=19) ?_);refine (gjoin_ok c i p hUF.ok hUF.len y5 hpi (Stop.mk ?_)))|(refine And.intro ?_ ?_;(try simp only[sxO]at *);omega)|fail)<;>(try simp (maxSteps:=1000000) only [St.put,if_true,so,vo,vl,vs,ko,kl,ks,cE_ment,cE_kill,hasK_nil,bs_mk,bs_app,bs_ext,bs_size,bs_toList,bs_at,bs_cells,List.take_length,imp_ga,guard_pk,guard_pk2,↓hold_pre,awayP,runOps,regK,step1,newK,genR,appR,obl,buildR,Value.cells,closeK,keepH,outV,retK,ret1,retC,RetV,Option.getD,runD,stepD,afterK,undef,simprocAttr,sxB,↓sxD,sxE,sxTab]))
   refine Stop.go ?_
   (try with_reducible refine Fz.of ?_);refine Go1.mk ?_;repeat' ((first|(with_reducible refine Go1.go ?_)|(refine And.intro ?_ ?_;(try simp only[sxO]at *);omega)|fail)<;>(try simp (maxSteps:=1000000) only [wq,so,vo,vl,vs,ko,kl,ks,cE_ment,cE_kill,hasK_nil,bs_mk,bs_app,bs_ext,bs_size,bs_toList,bs_at,bs_cells,List.take_length,imp_ga,guard_pk,guard_pk2,↓hold_pre,awayP,runOps,regK,step1,newK,genR,appR,obl,buildR,Value.cells,closeK,keepH,outV,retK,ret1,retC,RetV,Option.getD,runD,stepD,afterK,undef,simprocAttr,sxB,↓sxD,sxE,sxTab]))
   exact ⟨m-(q+1),spB M5 b v kv n i m (q+1) d (joinC c i p),by omega,le_sub ⟨rfl,rfl,rfl,rfl,rfl,rfl,rfl,rfl,rfl,rfl,rfl,trivial⟩ ⟨rfl,trivial⟩ rfl rfl rfl (keepLt0 _),M5,ob5,fi,_,q+1,rfl,by omega,h5,hb5,hI5,hmet p hp,rfl⟩
  ·(try with_reducible refine Fz.of ?_);refine Go1.mk ?_;repeat' ((first|(with_reducible refine Go1.go ?_)|(refine And.intro ?_ ?_;(try simp only[sxO]at *);omega)|fail)<;>(try simp (maxSteps:=1000000) only [St.put,if_true,so,vo,vl,vs,ko,kl,ks,cE_ment,cE_kill,hasK_nil,bs_mk,bs_app,bs_ext,bs_size,bs_toList,bs_at,bs_cells,List.take_length,imp_ga,guard_pk,guard_pk2,↓hold_pre,awayP,runOps,regK,step1,newK,genR,appR,obl,buildR,Value.cells,closeK,keepH,outV,retK,ret1,retC,RetV,Option.getD,runD,stepD,afterK,undef,simprocAttr,sxB,↓sxD,sxE,sxTab]))
   refine ask_updateV (b:=b) (key:=.string (bs kq)) (v:=.int .i64 (i:Int)) rfl kS ht80 rfl rfl rfl (List.mem_singleton.2 rfl) hb5 hI5 hks hkey hno (fun ob' hob'=>?_)
   have h6:∀x,x≠b→updM M5 b ob' x=M4 x:=fun x hx=>(updM_ne hx).trans (h5 x hx)
   have hb6:updM M5 b ob' b=some ob':=updM_self _ _ _
   generalize updM M5 b ob'=M6 at h6 hb6 ⊢
   (try with_reducible refine Fz.of ?_);refine Go1.mk ?_;repeat' ((first|(with_reducible refine Go1.go ?_)|(refine And.intro ?_ ?_;(try simp only[sxO]at *);omega)|fail)<;>(try simp (maxSteps:=1000000) only [St.put,wq,so,vo,vl,vs,ko,kl,ks,cE_ment,cE_kill,hasK_nil,bs_mk,bs_app,bs_ext,bs_size,bs_toList,bs_at,bs_cells,List.take_length,imp_ga,guard_pk,guard_pk2,↓hold_pre,awayP,runOps,regK,step1,newK,genR,appR,obl,buildR,Value.cells,closeK,keepH,outV,retK,ret1,retC,RetV,Option.getD,runD,stepD,afterK,undef,simprocAttr,sxB,↓sxD,sxE,sxTab]))
   exact ⟨m-(q+1),spB M6 b v kv n i m (q+1) d c,by omega,le_sub ⟨rfl,rfl,rfl,rfl,rfl,rfl,rfl,rfl,rfl,rfl,rfl,trivial⟩ ⟨rfl,trivial⟩ rfl rfl rfl (keepLt0 _),M6,ob',_,c,q+1,rfl,by omega,h6,hb6,by rw[show encF (fi++[(kq,i)])=encF fi++[(.string (bs kq),.int .i64 (i:Int))] from by unfold encF;rw[List.map_append];rfl];exact hob',hfre (encF_no hno),rfl⟩
 ·rintro z ⟨M3,c,m3,hcl,hc,hlab,rfl⟩
  obtain ⟨f,hf⟩:∃f,f=rt c:=⟨_,rfl⟩
  have ht83:Tryz.prog.underlying 67=some (.map 3 3):=by kernel_rfl
  have kI:=Maps.int_keyed Tryz.underlying3
  (try with_reducible refine Fz.of ?_);refine Go1.mk ?_;repeat' ((first|(with_reducible refine Go1.go ?_)|(refine And.intro ?_ ?_;(try simp only[sxO]at *);omega)|fail)<;>(try simp (maxSteps:=1000000) only [spJ,uo,vo,vl,vs,cE_ment,cE_kill,hasK_nil,↓hold_pre,awayP,runOps,regK,step1,newK,genR,appR,obl,buildR,Value.cells,closeK,keepH,outV,retK,ret1,retC,RetV,Option.getD,runD,stepD,afterK,undef,simprocAttr,sxB,↓sxD,sxE,sxTab]))
  refine ask_makeMap rfl fun b2 ob2 hob2 hMb2=>?_
  have hMb2:M3 b2=none:=hMb2
  have hM1b2:M1 b2=none:=by
   cases hx:M1 b2 with
   | none=>rfl
   | some o=>have:=m3 b2 o hx;rw[hMb2]at this;cases this
  have hle2:Mem.le M1 (updM M3 b2 ob2):=le_off m3 hM1b2 fun x hx=>updM_ne hx
  have hself2:updM M3 b2 ob2 b2=some ob2:=updM_self _ _ _
  have hI2:MapV ob2 (encP []):=hob2.v0
  generalize updM M3 b2 ob2=M4 at hle2 hself2 ⊢
  (try with_reducible refine Fz.of ?_);refine Go1.mk ?_;repeat' ((first|(with_reducible refine Go1.go ?_)|(refine And.intro ?_ ?_;(try simp only[sxO]at *);omega)|fail)<;>(try simp (maxSteps:=1000000) only [uo,vo,vl,vs,St.put,cE_ment,cE_kill,hasK_nil,↓hold_pre,awayP,runOps,regK,step1,newK,genR,appR,obl,buildR,Value.cells,closeK,keepH,outV,retK,ret1,retC,RetV,Option.getD,runD,stepD,afterK,undef,simprocAttr,sxB,↓sxD,sxE,sxTab]))
  refine ⟨fun k z=>∃M' ob i r,k=n-i∧i≤n∧Mem.le M1 M'∧M' b2=some ob∧MapV ob (encP (rootsU f i).zipIdx)∧r=(rootsU f i).length∧z=spC M' b b2 v n i r c (gG S (outU (ltG T) f i i)),
   ⟨n,spC M4 b b2 v n 0 0 c [],(le_nil 16 93 43 3 rfl (.inl (by simp[awayB,mentE,mentH,mentL,AV.ment,hasK,cE_ment]))).trans (le_sub ⟨rfl,rfl,rfl,rfl,rfl,rfl,trivial⟩ ⟨rfl,rfl,trivial⟩ rfl rfl rfl (keepLt0 _)),⟨M4,ob2,0,0,by omega,by omega,hle2,hself2,hI2,rfl,rfl⟩⟩,?_⟩
  clear hself2 hI2 hle2
  rintro k z ⟨M5,ob5,i,r,rfl,hi,m5,hb5,hI5,hr,rfl⟩
  by_cases hlt:i<n
  case neg=>
   obtain rfl:i=n:=by omega
   have y1:decide ((i:Int)<(i:Int))=false:=by simp
   have hf2:Lab T.length (lnkR T d) f:=by rw[hTl,hf];exact hlab
   obtain ⟨O,hO⟩:∃O,O=outU (ltG T) f i i:=⟨_,rfl⟩
   have hOb:∀o∈O,o.1<i∧o.2.length≤i:=fun o ho=>by
    rw[hO]at ho
    exact outU_bnd (Nat.le_refl _) o ho
   have hOl:O.length=r:=by rw[hO,outU_len,hr]
   obtain ⟨Q,hQ⟩:∃Q:List GO,Q=grpO T f:=⟨_,rfl⟩
   have hQG:GrpO T d Q:=⟨f,hf2,hQ⟩
   have hQO:Q=O.map fun p=>(T.getD p.1 ([],[]),p.2):=by rw[hQ,hO];unfold grpO;rw[hTl]
   obtain ⟨G,hG⟩:∃G,G=gG S O:=⟨_,rfl⟩
   rw[←hO,←hG]
   have hGl:G.length=r:=by rw[hG,gG,List.length_map,hOl]
   have hQl:Q.length=r:=by rw[hQO,List.length_map,hOl]
   have hr64:r≤64:=by
    have h1:=List.length_filter_le (fun j=>f j==j) (List.range i)
    rw[List.length_range]at h1
    have h2:(rootsU f i).length≤i:=h1
    omega
   have hGQ:∀j (h:j<Q.length) (h2:j<G.length),G[j].1=.string (bs Q[j].1.1)∧G[j].2.2=Q[j].2.map natV∧IsL M1 sbV G[j].2.1 Q[j].1.2∧Q[j].1.2.length<1000000000:=fun j h h2=>by
    have hjO:j<O.length:=by omega
    have e1:G[j]=(.string (bs (S.getD O[j].1 sgZ).m),(S.getD O[j].1 sgZ).u,O[j].2.map natV):=by simp only[hG,gG,List.getElem_map]
    have e2:Q[j]=(T.getD O[j].1 ([],[]),O[j].2):=by simp only[hQO,List.getElem_map]
    have hoS:O[j].1<S.length:=by have:=(hOb _ (List.getElem_mem hjO)).1;omega
    have e3:T.getD O[j].1 ([],[])=(S.getD O[j].1 sgZ).t:=by
     rw[←g3,List.getD_eq_getElem?_getD,List.getElem?_map,List.getD_eq_getElem?_getD,List.getElem?_eq_getElem hoS];rfl
    have e4:S.getD O[j].1 sgZ∈S:=by
     rw[List.getD_eq_getElem?_getD,List.getElem?_eq_getElem hoS];exact List.getElem_mem _
    have h5:=g2 _ e4
    have h6:=(hTok (S.getD O[j].1 sgZ).t (by rw[←g3];exact List.mem_map_of_mem e4)).2.1
    have h6:(S.getD O[j].1 sgZ).C.length<_:=h6
    rw[e1,e2,e3]
    exact ⟨rfl,rfl,h5,Nat.lt_of_lt_of_le h6 (by decide)⟩
   (try with_reducible refine Fz.of ?_);refine Go1.mk ?_;repeat' ((first|(with_reducible refine Go1.go ?_)|(refine And.intro ?_ ?_;(try simp only[sxO]at *);omega)|fail)<;>(try simp (maxSteps:=1000000) only [spC,y1,uo,vo,vl,vs,cE_ment,cE_kill,hasK_nil,↓hold_pre,awayP,runOps,regK,step1,newK,genR,appR,obl,buildR,Value.cells,closeK,keepH,outV,retK,ret1,retC,RetV,Option.getD,runD,stepD,afterK,undef,simprocAttr,sxB,↓sxD,sxE,sxTab]))
   refine ⟨fun k z=>∃M' Y,k=r-Y.length∧Y.length≤r∧Mem.le M1 M'∧(∀j (h:j<Q.length) (h2:j<Y.length),IsL M' sbV Y[j] Q[j].1.2∧FreshS M1 Y[j])∧z=spF M' b b2 r Y.length (mixG Y G),
    ⟨r,spF M5 b b2 r 0 G,le_sub ⟨rfl,rfl,rfl,trivial⟩ ⟨rfl,subHp_fam (fun j hj=>by simp only[lkH];exact lkH_famI hj) trivial⟩ rfl rfl rfl (keepLt0 _),⟨M5,[],rfl,Nat.zero_le _,m5,fun j h h2=>absurd h2 (Nat.not_lt_zero _),rfl⟩⟩,?_⟩
   rintro k z ⟨M6,Y,rfl,hYr,m6,hY,rfl⟩
   by_cases hlt3:Y.length<r
   case neg=>
    have hYr2:Y.length=r:=by omega
    have x1:decide ((Y.length:Int)<(r:Int))=false:=by rw[decide_eq_false_iff_not];omega
    (try with_reducible refine Fz.of ?_);refine Go1.mk ?_;repeat' ((first|(with_reducible refine Go1.go ?_)|(refine And.intro ?_ ?_;(try simp only[sxO]at *);omega)|fail)<;>(try simp (maxSteps:=1000000) only [spF,x1,hasK_nil,↓hold_pre,awayP,runOps,regK,step1,newK,genR,appR,obl,buildR,Value.cells,closeK,keepH,retK,ret1,retC,RetV,Option.getD,runD,stepD,afterK,undef,simprocAttr,sxB,↓sxD,sxE,sxTab]))
    have hml:=mixG_len Y G
    refine outV_gfam (O:=93) (b:=1000) (G:=mixG Y G) (T0:=43) (T:=3) rfl (onceH_fam (A:=[(93,43,gC 1000 (mixG Y G))]) (fun q T' cs hq=>?_) (by simp[ltB,keysH])) (by simp[lkH]) (fun j hj=>?_) (by omega) fun U M'' hM hU=>?_
    ·simp only[List.mem_singleton]at hq
     obtain ⟨rfl,rfl,rfl⟩:=Prod.mk.injEq ..▸hq
     simp[lkH]
    ·simp only[lkH]
     rw[if_neg (by omega),lkH_famI (by rw[gL_len];exact hj),gL_at]
    ·obtain ⟨L',b1,b2',b3,b4⟩:=hU
     obtain ⟨L2,c1,c2,c3,c4⟩:=gx_of (M0:=M1) (M:=M'') Q Y G L' (by omega) (by omega) (fun j h h2=>⟨(hGQ j h h2).1,(hGQ j h h2).2.1⟩) (fun j h h2=>⟨(hY j h h2).1.le hM,(hY j h h2).2⟩) b4 (fun g hg=>⟨(b3 g hg).1,(b3 g hg).2.le m6⟩)
     have hG2:GRF M1 M'' U Q:=⟨L2,by unfold IsR;rw[c2,c1];exact b1,b2'.le m6,c4,c3⟩
     exact hK2 he U M'' Q (m1.trans (m6.trans hM)) (by rw[←hT];exact hQG) (hG2.older m1)
   have x1:decide ((Y.length:Int)<(r:Int))=true:=by rw[decide_eq_true_eq];omega
   have x2:(0:Int)≤(Y.length:Int):=by omega
   have x3:(Y.length:Int)<(r:Int):=by omega
   have wY:IntKind.i64.wrap ((Y.length:Int)+1)=((Y.length+1:Nat):Int):=by rw[wrap_id (by omega) (by omega)];omega
   have hpG:Y.length<(mixG Y G).length:=by rw[mixG_len];omega
   have hpG2:Y.length<G.length:=by omega
   have hGe:(mixG Y G)[Y.length]=G[Y.length]:=by
    have h:=mixG_at Y G
    rw[List.getElem?_eq_getElem hpG,List.getElem?_eq_getElem hpG2]at h
    exact Option.some.inj h
   obtain ⟨q1,q2,q3,q4⟩:=hGQ Y.length (by omega) hpG2
   have c1:=gC_1 (b:=1000) hpG
   rw[hGe]at c1
   have l1:(gC 1000 (mixG Y G)).length=r*3:=by rw[gC_len,mixG_len,hGl]
   have z4:Y.length*3+1<r*3:=by omega
   (try with_reducible refine Fz.of ?_);refine Go1.mk ?_;repeat' ((first|(with_reducible refine Go1.go ?_)|(((with_reducible refine isCall (f:=22) ?_);refine callA_no (by simp[mentL,AV.ment,mentL_ext]) ?_;refine (cloneS_ok _ _ (q3.le m6) q4 (fun w M7 m7 g7 f7=>Stop.mk ?_))))|(refine And.intro ?_ ?_;(try simp only[sxO]at *);omega)|fail)<;>(try simp (maxSteps:=1000000) only [spF,x1,x2,x3,c1,l1,z4,hasK_app,dropH_no,hasK_nil,↓hold_pre,awayP,runOps,regK,step1,newK,genR,appR,obl,buildR,Value.cells,closeK,keepH,outV,retK,ret1,retC,RetV,Option.getD,runD,stepD,afterK,undef,simprocAttr,sxB,↓sxD,sxE,sxTab]))
   have m7:Mem.le M6 M7:=m7
   have f7:FreshS M6 w:=f7
   have wo:=g7.one
   have hsn:=mixG_set Y G w hpG2
   have s1:=gC_st1 (b:=1000) hpG w
   rw[hGe,hsn]at s1
   refine Stop.go ?_
   (try with_reducible refine Fz.of ?_);refine Go1.mk ?_;repeat' ((first|(with_reducible refine Go1.go ?_)|(refine And.intro ?_ ?_;(try simp only[sxO]at *);omega)|fail)<;>(try simp (maxSteps:=1000000) only [x2,x3,s1,wY,wo,l1,z4,hasK_app,dropH_no,hasK_nil,↓hold_pre,awayP,runOps,regK,step1,newK,genR,appR,obl,buildR,Value.cells,closeK,keepH,outV,retK,ret1,retC,RetV,Option.getD,runD,stepD,afterK,undef,simprocAttr,sxB,↓sxD,sxE,sxTab]))
   refine ⟨r-(Y++[w]).length,spF M7 b b2 r (Y++[w]).length (mixG (Y++[w]) G),by simp;omega,le_sub ⟨by simp[lk],rfl,rfl,trivial⟩ ⟨rfl,by rw[gL_mix,gL_mix];exact subHp_fam (fun j hj=>by simp only[lkH];exact lkH_famI hj) trivial⟩ rfl rfl rfl (keepLt0 _),M7,Y++[w],rfl,by simp;omega,m6.trans m7,fun j h h2=>?_,rfl⟩
   by_cases e:j<Y.length
   ·rw[List.getElem_append_left e]
    exact ⟨(hY j h e).1.le m7,(hY j h e).2⟩
   ·have e2:j=Y.length:=by simp at h2;omega
    subst e2
    rw[List.getElem_append_right (Nat.le_refl _)]
    simp only[Nat.sub_self,List.getElem_cons_zero]
    exact ⟨g7,f7.le m6⟩
  have y1:decide ((i:Int)<(n:Int))=true:=by rw[decide_eq_true_eq];omega
  have y2:(0:Int)≤(i:Int):=by omega
  have y3:(i:Int)<(n:Int):=by omega
  have y5:i<64:=by omega
  have wi:IntKind.i64.wrap ((i:Int)+1)=((i+1:Nat):Int):=by rw[wrap_id (by omega) (by omega)];omega
  have g15:=g1.le m5
  have hiS:i<S.length:=by omega
  have hnn:=g15.nn hiS
  have hat:=g15.at (P:=Tryz.prog) (T:=41) (fun _=>rfl) tk41 tz41 hiS
  have hso:=g2 _ (List.getElem_mem hiS)
  have hSi:S.getD i sgZ=S[i]:=by rw[List.getD_eq_getElem?_getD,List.getElem?_eq_getElem hiS];rfl
  obtain ⟨s,hs⟩:∃s,s=S[i]:=⟨_,rfl⟩
  rw[←hs]at hat hso hSi
  clear hs
  obtain ⟨sm,su,sC⟩:=s
  have hat2:lookM Tryz.prog 41 M5 (elemP v 2 i)=some (.agg #[.string (bs sm),su]):=hat
  clear hat
  have hso:IsL M1 sbV su sC:=hso
  have so:=hso.one
  have hfi:f i≤i:=by rw[hf];exact rt_le i
  have hff:f (f i)=f i:=by rw[hf];exact rt_idem hc i
  have hfl:∀j,j<i→f j≤j:=fun j _=>by rw[hf];exact rt_le j
  have hks:∀p∈encP (rootsU f i).zipIdx,∃l,keyOf Tryz.prog 3 p.1=some l:=fun p hp=>by
   obtain ⟨⟨k',p'⟩,hp',rfl⟩:=List.mem_map.1 hp
   have h1:=List.mk_mem_zipIdx_iff_getElem?.1 hp'
   have h2:=(rootsU_in.1 (List.mem_of_getElem? h1)).1
   exact ⟨_,Maps.keyOf_int_mk Tryz.underlying3 (a:=(k':Int)) (wf64 (by omega) (by omega))⟩
  have hkey:=Maps.keyOf_int_mk (P:=Tryz.prog) Tryz.underlying3 (a:=((f i:Nat):Int)) (wf64 (by omega) (by omega))
  obtain ⟨G,hG⟩:∃G,G=gG S (outU (ltG T) f i i):=⟨_,rfl⟩
  rw[←hG]
  have a1:hasK 19 (mentL (gC 1000 G))=false:=gC_ment (by omega)
  have a2:hasK 19 (mentH (famH 1000 3 (gL G) []))=false:=by rw[hasK_fam (by omega)];rfl
  have a4:subH (famH 1000 3 (gL G) []) [8]=[]:=by rw[subH_fam (by simp[ltB])];rfl
  have a5:∀cs,dropH [(8,62,cs)] (famH 1000 3 (gL G) [])=famH 1000 3 (gL G) []:=fun cs=>by rw[dropH_fam (by simp[ltB,keysH])];rfl
  (try with_reducible refine Fz.of ?_);refine Go1.mk ?_;repeat' ((first|(with_reducible refine Go1.go ?_)|((with_reducible refine isCall (f:=20) ?_);refine callA ?_)|((with_reducible refine isCallS (f:=20) ?_);refine (gfind_ok c i hc hcl y5 (Stop.mk ?_)))|(refine And.intro ?_ ?_;(try simp only[sxO]at *);omega)|fail)<;>(try simp (maxSteps:=1000000) only [spC,y1,y2,y3,hnn,hat2,hasK_app,a1,a2,a4,a5,so,vo,vl,vs,Nat.mul_one,Nat.zero_add,cE_ment,cE_kill,hasK_nil,↓hold_pre,awayP,runOps,regK,step1,newK,genR,appR,obl,buildR,Value.cells,closeK,keepH,outV,retK,ret1,retC,RetV,Option.getD,runD,stepD,afterK,undef,simprocAttr,sxB,↓sxD,sxE,sxTab]))
  rw[←hf]
  refine Stop.go ?_
  obtain ⟨O,hO⟩:∃O,O=outU (ltG T) f i i:=⟨_,rfl⟩
  have hOl:O.length=r:=by rw[hO,outU_len,hr]
  have hOb:∀o∈O,o.1<n∧o.2.length≤i:=fun o ho=>by
   rw[hO]at ho
   exact outU_bnd (Nat.le_of_lt hlt) o ho
  obtain ⟨J,hJ⟩:∃J:St→Prop,J=fun z=>∃M' ob p r' O',Mem.le M1 M'∧M' b2=some ob∧MapV ob (encP (rootsU f (i+1)).zipIdx)∧r'=(rootsU f (i+1)).length∧O'.length=r'∧p<r'∧(∀o∈O',o.1<n∧o.2.length≤i)∧O'.set p (if ltG T i (O'.getD p (0,[])).1 then i else (O'.getD p (0,[])).1,(O'.getD p (0,[])).2++[i])=outU (ltG T) f (i+1) (i+1)∧z=spD M' b b2 v n i r' p c sm su (gG S O'):=⟨_,rfl⟩
  refine ask_lookupV (b:=b2) (key:=.int .i64 ((f i:Nat):Int)) (zv:=.int .i64 0) rfl kI ht83 (fun w=>rfl) rfl rfl hb5 hI5 hks hkey (fun v hv=>?oneK) (fun hno=>?twoK)
  case' oneK=>
   obtain ⟨p,rfl,hp⟩:=encP_in hv
   have hp:=List.mk_mem_zipIdx_iff_getElem?.1 hp
   have hne:f i≠i:=by
    have:=(rootsU_in.1 (List.mem_of_getElem? hp)).1
    omega
   have hold:=outU_old (lt:=ltG T) hne hp
   have hat:=outU_at (lt:=ltG T) hp
   have hpr:p<r:=by rw[hr];exact (List.getElem?_eq_some_iff.1 hp).1
   have hrs:rootsU f (i+1)=rootsU f i:=by rw[rootsU_succ,if_neg hne]
   (try with_reducible refine Fz.of ?_);refine Go1.mk ?_;repeat' ((first|(with_reducible refine Go1.go ?_)|(refine And.intro ?_ ?_;(try simp only[sxO]at *);omega)|fail)<;>(try simp (maxSteps:=1000000) only [St.put,if_true,hasK_app,a1,a2,a4,a5,so,vo,vl,vs,cE_ment,cE_kill,hasK_nil,↓hold_pre,awayP,runOps,regK,step1,newK,genR,appR,obl,buildR,Value.cells,closeK,keepH,outV,retK,ret1,retC,RetV,Option.getD,runD,stepD,afterK,undef,simprocAttr,sxB,↓sxD,sxE,sxTab]))
   refine ⟨J,?_,?_⟩
   ·(try with_reducible refine Fz.of ?_);refine Go1.mk ?_;repeat' ((first|(with_reducible refine Go1.go ?_)|(refine And.intro ?_ ?_;(try simp only[sxO]at *);omega)|fail)<;>(try simp (maxSteps:=1000000) only [St.put,if_true,hasK_app,a1,a2,a4,a5,so,vo,vl,vs,cE_ment,cE_kill,hasK_nil,↓hold_pre,awayP,runOps,regK,step1,newK,genR,appR,obl,buildR,Value.cells,closeK,keepH,outV,retK,ret1,retC,RetV,Option.getD,runD,stepD,afterK,undef,simprocAttr,sxB,↓sxD,sxE,sxTab]))
    refine ⟨spD M5 b b2 v n i r p c sm su G,le_sub ⟨rfl,rfl,rfl,rfl,rfl,rfl,rfl,rfl,rfl,trivial⟩ ⟨rfl,rfl,rfl,subHp_fam (fun j hj=>lkH_famI hj) trivial⟩ rfl rfl rfl (keepLt0 _),?_⟩
    rw[hJ]
    refine ⟨M5,ob5,p,r,O,m5,hb5,by rw[hrs];exact hI5,by rw[hrs];exact hr,hOl,hpr,hOb,?_,by rw[hO,hG]⟩
    have hgd:O.getD p (0,[])=(bestU (ltG T) f i (f i),memU f i (f i)):=by rw[hO,List.getD_eq_getElem?_getD,hat];rfl
    rw[hgd,hold,hO]
  case' twoK=>
   have hroot:f i=i:=Classical.byContradiction fun hne=>by
    obtain ⟨p,hp⟩:=root_place (f:=f) (i:=i) (r:=f i) (by omega) hff
    exact encP_no hno p (List.mk_mem_zipIdx_iff_getElem?.2 hp)
   (try with_reducible refine Fz.of ?_);refine Go1.mk ?_;repeat' ((first|(with_reducible refine Go1.go ?_)|(refine And.intro ?_ ?_;(try simp only[sxO]at *);omega)|fail)<;>(try simp (maxSteps:=1000000) only [St.put,if_true,hasK_app,a1,a2,a4,a5,so,vo,vl,vs,cE_ment,cE_kill,hasK_nil,↓hold_pre,awayP,runOps,regK,step1,newK,genR,appR,obl,buildR,Value.cells,closeK,keepH,outV,retK,ret1,retC,RetV,Option.getD,runD,stepD,afterK,undef,simprocAttr,sxB,↓sxD,sxE,sxTab]))
   refine ⟨J,?_,?_⟩
   ·(try with_reducible refine Fz.of ?_);refine Go1.mk ?_;repeat' ((first|(with_reducible refine Go1.go ?_)|((with_reducible refine isCall (f:=20) ?_);refine callA ?_)|((with_reducible refine isCallS (f:=20) ?_);refine (gfind_ok c i hc hcl y5 (Stop.mk ?_)))|(refine And.intro ?_ ?_;(try simp only[sxO]at *);omega)|fail)<;>(try simp (maxSteps:=1000000) only [St.put,if_true,hasK_app,a1,a2,a4,a5,so,vo,vl,vs,cE_ment,cE_kill,hasK_nil,↓hold_pre,awayP,runOps,regK,step1,newK,genR,appR,obl,buildR,Value.cells,closeK,keepH,outV,retK,ret1,retC,RetV,Option.getD,runD,stepD,afterK,undef,simprocAttr,sxB,↓sxD,sxE,sxTab]))
    rw[←hf]
    refine Stop.go ?_
    refine ask_updateV (b:=b2) (key:=.int .i64 ((f i:Nat):Int)) (v:=.int .i64 (r:Int)) rfl kI ht83 rfl rfl rfl (by exact List.mem_cons_self) hb5 hI5 hks hkey hno (fun ob' hob'=>?_)
    have hM5b2:Mem.le M1 (updM M5 b2 ob'):=le_off m5 hM1b2 fun x hx=>updM_ne hx
    have hb6:updM M5 b2 ob' b2=some ob':=updM_self _ _ _
    generalize updM M5 b2 ob'=M6 at hM5b2 hb6 ⊢
    have f1:hasK 92 (mentL (gC 1000 G))=false:=gC_ment (by omega)
    have f2:hasK 92 (mentH (famH 1000 3 (gL G) []))=false:=by rw[hasK_fam (by omega)];rfl
    have f3:killL 93 (gC 1000 G)=gC 1000 G:=gC_kill (by omega)
    have f4:hasK 93 (mentL (gC 1000 G))=false:=gC_ment (by omega)
    have f5:killH 93 (famH 1000 3 (gL G) [])=famH 1000 3 (gL G) []:=by rw[killH_fam (by omega)];rfl
    have hGl:G.length=r:=by rw[hG,gG,List.length_map,←hO,hOl]
    have f6:(gC 1000 G).length=r*3:=by rw[gC_len,hGl]
    have hr64:r≤64:=by
     have h1:=List.length_filter_le (fun j=>f j==j) (List.range i)
     rw[List.length_range]at h1
     have h2:(rootsU f i).length≤i:=h1
     omega
    (try with_reducible refine Fz.of ?_);refine Go1.mk ?_;repeat' ((first|(with_reducible refine Go1.go ?_)|(refine And.intro ?_ ?_;(try simp only[sxO]at *);omega)|fail)<;>(try simp (maxSteps:=1000000) only [St.put,if_true,hasK_app,a1,a2,a4,a5,f1,f2,f3,f4,f5,f6,maxLen,so,vo,vl,vs,cE_ment,cE_kill,hasK_nil,↓hold_pre,awayP,runOps,regK,step1,newK,genR,appR,obl,buildR,Value.cells,closeK,keepH,outV,retK,ret1,retC,RetV,Option.getD,runD,stepD,afterK,undef,simprocAttr,sxB,↓sxD,sxE,sxTab]))
    have hsn:=gC_snoc (b:=1000) (G:=G) (.string (bs sm)) su (.ext (.slice none 0 0))
    rw[hGl]at hsn
    have hnil:(gC 1000 G++[AV.ext (Value.string (bs sm)),AV.ext su,AV.ext (Value.slice none 0 0)])[r*3+2]? = some (.ext (.slice none 0 0)):=by
     rw[List.getElem?_append_right (by omega),f6,Nat.add_sub_cancel_left];rfl
    have haw:awayB (r+1000) (spX M6 b b2 v n i (r+1) r c sm su (gC 1000 G++[.ext (.string (bs sm)),.ext su,.ext (.slice none 0 0)]) (famH 1000 3 (gL G) []))=true:=by
     have g1:hasK (r+1000) (mentL (gC 1000 G))=false:=gC_mentTop (by omega)
     have g2:hasK (r+1000) (mentH (famH 1000 3 (gL G) []))=false:=by unfold famH;rw[List.append_nil];exact hasK_famTop _ _ (by rw[gL_len];omega)
     have g3:∀q,q<1000→¬r+1000=q∧¬q=r+1000:=fun q hq=>⟨by omega,by omega⟩
     simp[awayB,spX,mentE,mentH,mentL,mentL_append,AV.ment,hasK,hasK_app,cE_ment,g1,g2]
     try omega
    have hle2:=le_nilH (s:=spX M6 b b2 v n i (r+1) r c sm su (gC 1000 G++[.ext (.string (bs sm)),.ext su,.ext (.slice none 0 0)]) (famH 1000 3 (gL G) [])) 93 (r*3+2) (r+1000) 3 43 _ 1 (by simp[spX,lkH]) hnil (.inl haw)
    rw[hsn]at hle2
    refine ⟨spD M6 b b2 v n i (r+1) r c sm su (G++[(.string (bs sm),su,[])]),Le.trans ?_ (Le.trans hle2 ?_),?_⟩
    ·exact le_sub ⟨rfl,rfl,rfl,rfl,rfl,rfl,rfl,rfl,rfl,trivial⟩ ⟨rfl,rfl,rfl,subHp_fam (fun j hj=>lkH_famI hj) trivial⟩ rfl rfl rfl (keepLt0 _)
    ·have k0:∀q,q<1000→¬r+1000=q:=fun q hq=>by omega
     have hgl:gL (G++[(.string (bs sm),su,[])])=gL G++[[]]:=by unfold gL;rw[List.map_append];rfl
     have hgn:(gL G).length=r:=by rw[gL_len,hGl]
     refine le_sub ⟨rfl,rfl,rfl,rfl,rfl,rfl,rfl,rfl,rfl,trivial⟩ ⟨by simp[lkH,upH,spX,k0],by simp[lkH,upH,spX,k0],by simp[lkH,upH,spX,k0],?_⟩ rfl rfl rfl (keepLt0 _)
     rw[hgl]
     refine subHp_fam (fun j hj=>?_) trivial
     have hj2:j<r+1:=by rw[List.length_append,hgn]at hj;exact hj
     simp only[lkH]
     by_cases e:j=r
     ·subst e
      rw[if_pos rfl,List.getElem_append_right (by omega)]
      simp[hgn]
     ·rw[if_neg (by omega),List.getElem_append_left (by omega),lkH_upH,if_neg (by omega)]
      simp only[spX,lkH]
      rw[if_neg (by omega),if_neg (by omega),if_neg (by omega)]
      exact lkH_famI (by omega)
    rw[hJ]
    have hrs:rootsU f (i+1)=rootsU f i++[i]:=by rw[rootsU_succ,if_pos hroot]
    have hltf:ltG T i i=false:=by unfold ltG;rw[(cmp_G.zero _ _).2 rfl];rfl
    refine ⟨M6,ob',r,r+1,O++[(i,[])],hM5b2,hb6,?_,by rw[hrs,List.length_append,hr];rfl,by rw[List.length_append,hOl];rfl,by omega,fun o ho=>by
     rcases List.mem_append.1 ho with ho|ho
     ·exact hOb o ho
     ·rw[List.mem_singleton.1 ho];exact ⟨hlt,Nat.zero_le _⟩,?_,?_⟩
    ·rw[hrs,List.zipIdx_append]
     rw[hroot]at hob'
     unfold encP at hob' ⊢
     rw[List.map_append]
     simpa [←hr] using hob'
    ·have hgd:(O++[(i,([]:List Nat))]).getD r (0,[])=(i,[]):=by rw[List.getD_eq_getElem?_getD,List.getElem?_append_right (by omega),hOl,Nat.sub_self];rfl
     rw[hgd,hltf,outU_new hfl hroot hltf,←hO,List.set_append_right _ _ (by omega),hOl,Nat.sub_self];rfl
    ·rw[hG,←hO]
     unfold gG
     rw[List.map_append,List.map_cons,List.map_nil,hSi];rfl
  all_goals
   clear hks hkey hI5 hb5 m5 hnn hat2 g15
   rw[hJ]
   rintro z ⟨M6,ob6,p,r',O',m6,hb6,hI6,hr',hOl2,hpr',hOb2,hset,rfl⟩
   obtain ⟨G',hG'⟩:∃G',G'=gG S O':=⟨_,rfl⟩
   rw[←hG']
   have hGl:G'.length=r':=by rw[hG',gG,List.length_map,hOl2]
   have hpG:p<G'.length:=by omega
   have hpO:p<O'.length:=by omega
   obtain ⟨q,ml,hqm⟩:∃q ml,O'.getD p (0,[])=(q,ml):=⟨_,_,rfl⟩
   have hqO:O'[p]=(q,ml):=by rw[←hqm,List.getD_eq_getElem?_getD,List.getElem?_eq_getElem hpO];rfl
   rw[hqm]at hset
   obtain ⟨hq1,hq2⟩:=hOb2 _ (List.getElem_mem hpO)
   rw[hqO]at hq1 hq2
   have hq1:q<n:=hq1
   have hq2:ml.length≤i:=hq2
   clear hOb2 hqm
   have hqS:q<S.length:=by omega
   have hSq:S.getD q sgZ=S[q]:=by rw[List.getD_eq_getElem?_getD,List.getElem?_eq_getElem hqS];rfl
   have hsq:=g2 _ (List.getElem_mem hqS)
   have hGp:G'[p]=(.string (bs S[q].m),S[q].u,ml.map natV):=by
    have e:(gG S O')[p]? = some (.string (bs S[q].m),S[q].u,ml.map natV):=by
     unfold gG
     rw[List.getElem?_map,List.getElem?_eq_getElem hpO,hqO,Option.map_some,hSq]
    rw[←hG',List.getElem?_eq_getElem hpG]at e
    exact Option.some.inj e
   have hTq:T.getD q ([],[])=(S[q].m,S[q].C):=by
    rw[←g3,List.getD_eq_getElem?_getD,List.getElem?_map,List.getElem?_eq_getElem hqS];rfl
   have hTi2:T.getD i ([],[])=(sm,sC):=by
    rw[←g3,List.getD_eq_getElem?_getD,List.getElem?_map,List.getElem?_eq_getElem hiS]
    have:=hSi
    rw[List.getD_eq_getElem?_getD,List.getElem?_eq_getElem hiS]at this
    rw[show S[i]=⟨sm,su,sC⟩ from this];rfl
   have hlt1:ltG T i q=decide (cmpG (sm,sC) (S[q].m,S[q].C)<0):=by unfold ltG;rw[hTq,hTi2]
   rw[hlt1]at hset
   have hCl:∀s∈S,s.C.length<4000000000000000000:=fun s hs=>by
    have h1:=(hTok s.t (by rw[←g3];exact List.mem_map_of_mem hs)).2.1
    have h1:s.C.length<_:=h1
    omega
   have hC1:=hCl _ (List.getElem_mem hqS)
   have hC2:sC.length<4000000000000000000:=by
    have:=hCl _ (List.getElem_mem hiS)
    have e:=hSi
    rw[List.getD_eq_getElem?_getD,List.getElem?_eq_getElem hiS]at e
    rw[show S[i]=⟨sm,su,sC⟩ from e]at this
    exact this
   have hsq:IsL M1 sbV S[q].u S[q].C:=hsq
   generalize S[q]=sq at *
   obtain ⟨qm,qu,qC⟩:=sq
   have hGp:G'[p]=(.string (bs qm),qu,ml.map natV):=hGp
   have z2:(0:Int)≤(p:Int):=by omega
   have z3:(p:Int)<(r':Int):=by omega
   have c1:=gC_1 (b:=1000) hpG
   have c2:=gC_2 (b:=1000) hpG
   rw[hGp]at c1 c2
   rw[show (Value.string (bs qm),qu,ml.map natV).2.2.length=ml.length from List.length_map _]at c2
   have fk:lkH (famH 1000 3 (gL G') []) (p+1000)=some (3,cE natV ml):=by
    rw[lkH_famI (by rw[gL_len];exact hpG),gL_at,hGp];unfold cE;rw[List.map_map]
   have f1:hasK 102 (mentL (gC 1000 G'))=false:=gC_ment (by omega)
   have f2:hasK 102 (mentH (famH 1000 3 (gL G') []))=false:=by rw[hasK_fam (by omega)];rfl
   have f3:killL (p+1000) (gC 1000 G')=(gC 1000 G').set (p*3+2) .unk:=gC_kI hpG
   have f4:killH (p+1000) (famH 1000 3 (gL G') [])=famX 1000 3 (gL G') p []:=killH_famI
   obtain ⟨G1,hG1⟩:∃G1,G1=G'.set p (.string (bs qm),qu,(ml++[i]).map natV):=⟨_,rfl⟩
   have f5:(gC 1000 G').set (p*3+2) (.slo (p+1000) 0 (ml.length+1) 1)=gC 1000 G1:=by
    rw[gC_st hpG ((ml++[i]).map natV) (by simp),hGp,hG1]
   have hp1:p<G1.length:=by rw[hG1,List.length_set];exact hpG
   have hG1p:G1[p]=(.string (bs qm),qu,(ml++[i]).map natV):=by simp only[hG1];exact List.getElem_set_self _
   have d2:=gC_ld2 (b:=1000) hp1
   have s2:=gC_st2 (b:=1000) hp1 (.string (bs sm)) su
   rw[hG1p]at d2 s2
   have l1:(gC 1000 G').length=r'*3:=by rw[gC_len,hGl]
   have l2:(gC 1000 G1).length=r'*3:=by rw[gC_len,hG1,List.length_set,hGl]
   have z4:p*3+2<r'*3:=by omega
   have z5:p*3+2≤r'*3:=by omega
   have z6:p*3<r'*3:=by omega
   (try with_reducible refine Fz.of ?_);refine Go1.mk ?_;repeat' ((first|(with_reducible refine Go1.go ?_)|((with_reducible refine callA0_no (by simp[mentL,AV.ment,mentL_ext]) ?_);refine compare_ok sm qm su qu sC qC (hso.le m6) (hsq.le m6) hC2 hC1 (Stop.mk ?_))|((with_reducible refine isDraw [some 106,some 107,some 108,some 109,some 110,some 111,some 112,some 113] (by decide) ?_);refine draw_rule [(0,[]),(1,[0]),(2,[0]),(3,[0]),(4,[0]),(5,[0]),(6,[]),(7,[])] [[],[],[],[1,2],[1,2,3],[1,2,3,4],[0,1,2,3,4,5],[0,1,2,3,4,5,6]] [106,107,108,109,110,111] [] (by kernel_rfl) (by kernel_rfl) (by kernel_rfl) (by kernel_rfl) (by exact trivial) ?_)|(refine And.intro ?_ ?_;(try simp only[sxO]at *);omega)|fail)<;>(try simp (maxSteps:=1000000) only [spX,z2,z3,z4,z5,z6,l1,l2,d2,s2,c2,fk,f1,f2,f3,f4,f5,hasK_app,List.set_set,List.length_set,cE_len,maxLen,so,vo,vl,vs,cE_ment,cE_kill,hasK_nil,↓hold_pre,awayP,runOps,regK,step1,newK,genR,appR,obl,buildR,Value.cells,closeK,keepH,outV,retK,ret1,retC,RetV,Option.getD,runD,stepD,afterK,undef,simprocAttr,sxB,↓sxD,sxE,sxTab]))
   obtain ⟨cz,hcz⟩:∃cz,cz=cmpG (sm,sC) (qm,qC):=⟨_,rfl⟩
   rw[←hcz]at hset ⊢
   have hfx:∀A B C D:TypeId×List AV,subHp (famH 1000 3 ((gL G').set p ((ml++[i]).map natV)) []) ((p+1000,3,cE natV ml++[.ext (.int .i64 (i:Int))]) :: (102,A) :: (19,B) :: (93,C) :: (8,D) :: famX 1000 3 (gL G') p []):=fun A B C D=>by
    refine subHp_fam (fun j hj=>?_) trivial
    have hj2:j<(gL G').length:=by rw[List.length_set]at hj;exact hj
    simp only[lkH]
    by_cases e:j=p
    ·subst e
     rw[if_pos rfl,List.getElem_set_self];unfold cE;rw[List.map_append,List.map_append,List.map_map];rfl
    ·rw[if_neg (by omega),if_neg (by omega),if_neg (by omega),if_neg (by omega),if_neg (by omega),lkH_famXJ hj2 e,List.getElem_set_ne (fun h=>e h.symm)]
   have k0:∀q,q<1000→¬p+1000=q:=fun q hq=>by omega
   by_cases hc0:cz<0
   ·have d9:decide (cz<0)=true:=decide_eq_true hc0
    obtain ⟨G2,hG2⟩:∃G2,G2=G'.set p (.string (bs sm),su,(ml++[i]).map natV):=⟨_,rfl⟩
    have s3:List.take (p*3) (gC 1000 G1)++AV.ext (.string (bs sm)) :: AV.ext su :: List.drop (p*3+2) (gC 1000 G1)=gC 1000 G2:=by
     have h:=s2
     rw[hG1,List.set_set,←hG1,←hG2]at h
     exact h
    have hfin:gG S (outU (ltG T) f (i+1) (i+1))=G2:=by
     rw[d9]at hset
     rw[←hset,gG_set,←hG',hG2]
     show G'.set p (.string (bs (S.getD i sgZ).m),(S.getD i sgZ).u,_)=_
     rw[hSi]
    have hgl:gL G2=(gL G').set p ((ml++[i]).map natV):=by rw[hG2,gL_set]
    refine Stop.go ?_
    (try with_reducible refine Fz.of ?_);refine Go1.mk ?_;repeat' ((first|(with_reducible refine Go1.go ?_)|(refine And.intro ?_ ?_;(try simp only[sxO]at *);omega)|fail)<;>(try simp (maxSteps:=1000000) only [d9,wi,z2,z3,z4,z5,z6,l1,l2,d2,s3,hasK_app,dropH_no,so,vo,vl,vs,cE_ment,cE_kill,hasK_nil,↓hold_pre,awayP,runOps,regK,step1,newK,genR,appR,obl,buildR,Value.cells,closeK,keepH,outV,retK,ret1,retC,RetV,Option.getD,runD,stepD,afterK,undef,simprocAttr,sxB,↓sxD,sxE,sxTab]))
    refine ⟨n-(i+1),spC M6 b b2 v n (i+1) r' c G2,by omega,le_sub ⟨rfl,rfl,rfl,rfl,rfl,rfl,trivial⟩ ⟨by simp[lkH,k0],by simp[lkH,k0],?_⟩ rfl rfl rfl (keepLt0 _),M6,ob6,i+1,r',rfl,by omega,m6,hb6,hI6,hr',by rw[hfin]⟩
    rw[hgl];exact hfx _ _ _ _
   ·have d9:decide (cz<0)=false:=decide_eq_false hc0
    have hfin:gG S (outU (ltG T) f (i+1) (i+1))=G1:=by
     rw[d9]at hset
     rw[←hset,gG_set,←hG',hG1]
     show G'.set p (.string (bs (S.getD q sgZ).m),(S.getD q sgZ).u,_)=_
     rw[hSq]
    have hgl:gL G1=(gL G').set p ((ml++[i]).map natV):=by rw[hG1,gL_set]
    refine Stop.go ?_
    (try with_reducible refine Fz.of ?_);refine Go1.mk ?_;repeat' ((first|(with_reducible refine Go1.go ?_)|(refine And.intro ?_ ?_;(try simp only[sxO]at *);omega)|fail)<;>(try simp (maxSteps:=1000000) only [d9,wi,z2,z3,z4,z5,z6,l1,l2,d2,hasK_app,dropH_no,so,vo,vl,vs,cE_ment,cE_kill,hasK_nil,↓hold_pre,awayP,runOps,regK,step1,newK,genR,appR,obl,buildR,Value.cells,closeK,keepH,outV,retK,ret1,retC,RetV,Option.getD,runD,stepD,afterK,undef,simprocAttr,sxB,↓sxD,sxE,sxTab]))
    refine ⟨n-(i+1),spC M6 b b2 v n (i+1) r' c G1,by omega,le_sub ⟨rfl,rfl,rfl,rfl,rfl,rfl,trivial⟩ ⟨by simp[lkH,k0],by simp[lkH,k0],?_⟩ rfl rfl rfl (keepLt0 _),M6,ob6,i+1,r',rfl,by omega,m6,hb6,hI6,hr',by rw[hfin]⟩
    rw[hgl];exact hfx _ _ _ _
end
section
variable {M:Mem}{K:AV→Hp→Mem→Prop}
def hsSt(M:Mem)(u:Value)(x:Bst)(i:Nat):St:={env:=[(5,.ext (.int .i64 (i:Int))),(1,.ext (.string (bs x))),(0,.ext u)],hp:=[],M:=M,kb:=0,fx:=[]}
theorem has_ok(u:Value)(l:List Bst)(x:Bst)(hu:IsL M sbV u l)(hb:l.length<1000000000)(hK:K (.ext (.bool (l.contains x))) [] M):CallS Tryz.prog 54 [.ext u,.ext (.string (bs x))] [] M [] K:=by
 refine inlS (cs:=[]) Tryz.mixed Tryz.func54 rfl (by kernel_rfl) 0 rfl rfl ?_
 simp only[Tryz.f54]
 have uo:=hu.one
 have ul:=hu.len
 have us:=hu.sl
 refine Go1.mk ?_;repeat' ((first|(with_reducible refine Go1.go ?_)|(refine And.intro ?_ ?_;(try simp only[sxO]at *);omega)|fail)<;>(try simp (maxSteps:=1000000) only [uo,ul,us,bs_mk,bs_app,bs_ext,bs_size,bs_toList,bs_at,bs_cells,List.take_length,imp_ga,guard_pk,guard_pk2,↓hold_pre,awayP,runOps,regK,step1,newK,genR,appR,obl,buildR,Value.cells,closeK,keepH,outV,retK,ret1,retC,RetV,Option.getD,runD,stepD,afterK,undef,simprocAttr,sxB,↓sxD,sxE,sxTab]))
 refine ⟨fun m z=>∃i,i≤l.length∧(∀y∈l.take i,y≠x)∧m=l.length-i∧z=hsSt M u x i,⟨l.length,hsSt M u x 0,le_sub ⟨rfl,rfl,rfl,trivial⟩ trivial rfl rfl rfl (keepLt0 _),⟨0,by omega,by simp,rfl,rfl⟩⟩,?_⟩
 rintro m z ⟨i,hi,hno,rfl,rfl⟩
 by_cases hlt:i<l.length
 case neg=>
  have f1:=hu.fin hlt
  obtain rfl:i=l.length:=by omega
  have e:l.contains x=false:=by
   rw[List.take_length]at hno
   cases h:l.contains x with
   | false=>rfl
   | true=>exact absurd rfl (hno x (by simpa using h))
  rw[e]at hK
  refine Go1.mk ?_;repeat' ((first|(with_reducible refine Go1.go ?_)|(refine And.intro ?_ ?_;(try simp only[sxO]at *);omega)|fail)<;>(try simp (maxSteps:=1000000) only [hsSt,f1,bs_mk,bs_app,bs_ext,bs_size,bs_toList,bs_at,bs_cells,List.take_length,imp_ga,guard_pk,guard_pk2,↓hold_pre,awayP,runOps,regK,step1,newK,genR,appR,obl,buildR,Value.cells,closeK,keepH,outV,retK,ret1,retC,RetV,Option.getD,runD,stepD,afterK,undef,simprocAttr,sxB,↓sxD,sxE,sxTab]))
  exact hK
 have f1:=hu.idx (P:=Tryz.prog) (T:=9) tk9 tz9 (by omega) hlt
 have htk:l.take (i+1)=l.take i++[l[i]]:=by rw[List.take_add_one,List.getElem?_eq_getElem hlt];rfl
 by_cases hx:l[i]=x
 ·have d1:(l[i]==x)=true:=by simp[hx]
  have e:l.contains x=true:=by rw[List.contains_iff_mem];exact hx▸List.getElem_mem hlt
  rw[e]at hK
  refine Go1.mk ?_;repeat' ((first|(with_reducible refine Go1.go ?_)|(refine And.intro ?_ ?_;(try simp only[sxO]at *);omega)|fail)<;>(try simp (maxSteps:=1000000) only [hsSt,f1,sbV,d1,bs_mk,bs_app,bs_ext,bs_size,bs_toList,bs_at,bs_cells,List.take_length,imp_ga,guard_pk,guard_pk2,↓hold_pre,awayP,runOps,regK,step1,newK,genR,appR,obl,buildR,Value.cells,closeK,keepH,outV,retK,ret1,retC,RetV,Option.getD,runD,stepD,afterK,undef,simprocAttr,sxB,↓sxD,sxE,sxTab]))
  exact hK
 ·have d1:(l[i]==x)=false:=by simpa using hx
  refine Go1.mk ?_;repeat' ((first|(with_reducible refine Go1.go ?_)|(refine And.intro ?_ ?_;(try simp only[sxO]at *);omega)|fail)<;>(try simp (maxSteps:=1000000) only [hsSt,f1,sbV,d1,bs_mk,bs_app,bs_ext,bs_size,bs_toList,bs_at,bs_cells,List.take_length,imp_ga,guard_pk,guard_pk2,↓hold_pre,awayP,runOps,regK,step1,newK,genR,appR,obl,buildR,Value.cells,closeK,keepH,outV,retK,ret1,retC,RetV,Option.getD,runD,stepD,afterK,undef,simprocAttr,sxB,↓sxD,sxE,sxTab]))
  refine ⟨l.length-(i+1),hsSt M u x (i+1),by omega,le_sub ⟨rfl,rfl,rfl,trivial⟩ trivial rfl rfl rfl (keepLt0 _),i+1,by omega,?_,rfl,rfl⟩
  rw[htk]
  intro y hy
  rcases List.mem_append.1 hy with hy|hy
  ·exact hno y hy
  ·rw[List.mem_singleton.1 hy];exact hx
def lkB(A B:List Bst):Bool:=A.any fun x=>B.contains x
theorem lkB_iff{A B:List Bst}:lkB A B=true↔∃x,x∈A∧x∈B:=by simp[lkB]
def lkSt(M:Mem)(v1 v2:Value)(i:Nat):St:={env:=[(9,.ext (.int .i64 (i:Int))),(8,.ext v2),(7,.ext v1)],hp:=[],M:=M,kb:=0,fx:=[]}
theorem rlinked_ok(m1 m2:Bst)(u1 u2:Value)(C1 C2:List Bst)(d:Int)(h1:IsL M sbV u1 C1)(h2:IsL M sbV u2 C2)(b1:okB m1 C1)(b2:okB m2 C2)(hK:∀M',Mem.le M M'→K (.ext (.bool (lkB (keysB m1 C1 d) (keysB m2 C2 d)))) [] M'):CallS Tryz.prog 34 [.ext (.agg #[.string (bs m1),u1]),.ext (.agg #[.string (bs m2),u2]),.ext (.int .i64 d)] [] M [] K:=by
 refine inlS (cs:=[]) Tryz.mixed Tryz.func34 rfl (by kernel_rfl) 0 rfl rfl ?_
 simp only[Tryz.f34]
 have o1:=h1.one
 have o2:=h2.one
 refine Go1.mk ?_;repeat' ((first|(with_reducible refine Go1.go ?_)|(((with_reducible refine isCall0 (f:=53) ?_);refine callA0_nil (by kernel_rfl) ?_;refine (rkeys_ok m1 u1 C1 d h1 b1 (fun v1 M1 m1' g1 _=>Stop.mk ?_))))|((with_reducible refine isDraw [some 10,some 11,some 12,some 13,some 14,some 15,some 7,some 8] (by decide) ?_);refine draw_rule [(0,[]),(1,[0]),(3,[0]),(4,[0,3]),(2,[3]),(5,[]),(6,[]),(7,[])] [[],[],[0,1],[],[],[0,1,2,3,4],[0,1,2,3,4,5],[0,1,2,3,4,5,6]] [10,11,12,13,14] [] (by kernel_rfl) (by kernel_rfl) (by kernel_rfl) (by kernel_rfl) (by exact trivial) ?_)|(refine And.intro ?_ ?_;(try simp only[sxO]at *);omega)|fail)<;>(try simp (maxSteps:=1000000) only [o1,o2,bs_mk,bs_app,bs_ext,bs_size,bs_toList,bs_at,bs_cells,List.take_length,imp_ga,guard_pk,guard_pk2,↓hold_pre,awayP,runOps,regK,step1,newK,genR,appR,obl,buildR,Value.cells,closeK,keepH,outV,retK,ret1,retC,RetV,Option.getD,runD,stepD,afterK,undef,simprocAttr,sxB,↓sxD,sxE,sxTab]))
 have m1':Mem.le M M1:=m1'
 have w1:=g1.one
 have wl1:=g1.len
 have ws1:=g1.sl
 refine Stop.go ?_
 refine Go1.mk ?_;repeat' ((first|(with_reducible refine Go1.go ?_)|(((with_reducible refine isCall0 (f:=53) ?_);refine callA0_nil (by kernel_rfl) ?_;refine (rkeys_ok m2 u2 C2 d (h2.le m1') b2 (fun v2 M2 m2' g2 _=>Stop.mk ?_))))|((with_reducible refine isDraw [some 10,some 11,some 12,some 13,some 14,some 15,some 7,some 8] (by decide) ?_);refine draw_rule [(0,[]),(1,[0]),(3,[0]),(4,[0,3]),(2,[3]),(5,[]),(6,[]),(7,[])] [[],[],[0,1],[],[],[0,1,2,3,4],[0,1,2,3,4,5],[0,1,2,3,4,5,6]] [10,11,12,13,14] [] (by kernel_rfl) (by kernel_rfl) (by kernel_rfl) (by kernel_rfl) (by exact trivial) ?_)|(refine And.intro ?_ ?_;(try simp only[sxO]at *);omega)|fail)<;>(try simp (maxSteps:=1000000) only [o1,o2,w1,bs_mk,bs_app,bs_ext,bs_size,bs_toList,bs_at,bs_cells,List.take_length,imp_ga,guard_pk,guard_pk2,↓hold_pre,awayP,runOps,regK,step1,newK,genR,appR,obl,buildR,Value.cells,closeK,keepH,outV,retK,ret1,retC,RetV,Option.getD,runD,stepD,afterK,undef,simprocAttr,sxB,↓sxD,sxE,sxTab]))
 have m2':Mem.le M1 M2:=m2'
 have w2:=g2.one
 have g1:=g1.le m2'
 have hk1:=keysB_two (m:=m1) (C:=C1) (d:=d)
 have hk2:=keysB_two (m:=m2) (C:=C2) (d:=d)
 have hK:=hK M2 (m1'.trans m2')
 generalize keysB m1 C1 d=A at *
 generalize keysB m2 C2 d=B at *
 refine Stop.go ?_
 refine Go1.mk ?_;repeat' ((first|(with_reducible refine Go1.go ?_)|(refine And.intro ?_ ?_;(try simp only[sxO]at *);omega)|fail)<;>(try simp (maxSteps:=1000000) only [o1,o2,w1,w2,wl1,ws1,bs_mk,bs_app,bs_ext,bs_size,bs_toList,bs_at,bs_cells,List.take_length,imp_ga,guard_pk,guard_pk2,↓hold_pre,awayP,runOps,regK,step1,newK,genR,appR,obl,buildR,Value.cells,closeK,keepH,outV,retK,ret1,retC,RetV,Option.getD,runD,stepD,afterK,undef,simprocAttr,sxB,↓sxD,sxE,sxTab]))
 refine ⟨fun k z=>∃i,i≤A.length∧(∀y∈A.take i,B.contains y=false)∧k=A.length-i∧z=lkSt M2 v1 v2 i,⟨A.length,lkSt M2 v1 v2 0,le_sub ⟨rfl,rfl,rfl,trivial⟩ trivial rfl rfl rfl (keepLt0 _),⟨0,by omega,by simp,rfl,rfl⟩⟩,?_⟩
 rintro k z ⟨i,hi,hno,rfl,rfl⟩
 by_cases hlt:i<A.length
 case neg=>
  have f1:=g1.fin hlt
  obtain rfl:i=A.length:=by omega
  rw[List.take_length]at hno
  have e:lkB A B=false:=by
   unfold lkB
   rw[List.any_eq_false]
   intro y hy;rw[hno y hy];simp
  rw[e]at hK
  refine Go1.mk ?_;repeat' ((first|(with_reducible refine Go1.go ?_)|(refine And.intro ?_ ?_;(try simp only[sxO]at *);omega)|fail)<;>(try simp (maxSteps:=1000000) only [lkSt,f1,w1,w2,wl1,ws1,bs_mk,bs_app,bs_ext,bs_size,bs_toList,bs_at,bs_cells,List.take_length,imp_ga,guard_pk,guard_pk2,↓hold_pre,awayP,runOps,regK,step1,newK,genR,appR,obl,buildR,Value.cells,closeK,keepH,outV,retK,ret1,retC,RetV,Option.getD,runD,stepD,afterK,undef,simprocAttr,sxB,↓sxD,sxE,sxTab]))
  exact hK
 have f1:=g1.idx (P:=Tryz.prog) (T:=9) tk9 tz9 (by omega) hlt
 have htk:A.take (i+1)=A.take i++[A[i]]:=by rw[List.take_add_one,List.getElem?_eq_getElem hlt];rfl
 have hAi:=List.getElem_mem hlt
 generalize A[i]=x at *
 refine Go1.mk ?_;repeat' ((first|(with_reducible refine Go1.go ?_)|(((with_reducible refine isCall (f:=54) ?_);refine callA_nil (by kernel_rfl) ?_;refine (has_ok v2 B x g2 (by omega) (Stop.mk ?_))))|(refine And.intro ?_ ?_;(try simp only[sxO]at *);omega)|fail)<;>(try simp (maxSteps:=1000000) only [lkSt,sbV,f1,w1,w2,wl1,ws1,bs_mk,bs_app,bs_ext,bs_size,bs_toList,bs_at,bs_cells,List.take_length,imp_ga,guard_pk,guard_pk2,↓hold_pre,awayP,runOps,regK,step1,newK,genR,appR,obl,buildR,Value.cells,closeK,keepH,outV,retK,ret1,retC,RetV,Option.getD,runD,stepD,afterK,undef,simprocAttr,sxB,↓sxD,sxE,sxTab]))
 cases hx:B.contains x with
 | true=>
  have e:lkB A B=true:=by
   unfold lkB
   rw[List.any_eq_true]
   exact ⟨x,hAi,hx⟩
  rw[e]at hK
  refine Stop.go ?_
  refine Go1.mk ?_;repeat' ((first|(with_reducible refine Go1.go ?_)|(refine And.intro ?_ ?_;(try simp only[sxO]at *);omega)|fail)<;>(try simp (maxSteps:=1000000) only [hx,w1,w2,wl1,ws1,bs_mk,bs_app,bs_ext,bs_size,bs_toList,bs_at,bs_cells,List.take_length,imp_ga,guard_pk,guard_pk2,↓hold_pre,awayP,runOps,regK,step1,newK,genR,appR,obl,buildR,Value.cells,closeK,keepH,outV,retK,ret1,retC,RetV,Option.getD,runD,stepD,afterK,undef,simprocAttr,sxB,↓sxD,sxE,sxTab]))
  exact hK
 | false=>
  have wi:IntKind.i64.wrap ((i:Int)+1)=((i+1:Nat):Int):=by rw[wrap_id (by omega) (by omega)];omega
  refine Stop.go ?_
  refine Go1.mk ?_;repeat' ((first|(with_reducible refine Go1.go ?_)|(refine And.intro ?_ ?_;(try simp only[sxO]at *);omega)|fail)<;>(try simp (maxSteps:=1000000) only [hx,wi,w1,w2,wl1,ws1,bs_mk,bs_app,bs_ext,bs_size,bs_toList,bs_at,bs_cells,List.take_length,imp_ga,guard_pk,guard_pk2,↓hold_pre,awayP,runOps,regK,step1,newK,genR,appR,obl,buildR,Value.cells,closeK,keepH,outV,retK,ret1,retC,RetV,Option.getD,runD,stepD,afterK,undef,simprocAttr,sxB,↓sxD,sxE,sxTab]))
  refine ⟨A.length-(i+1),lkSt M2 v1 v2 (i+1),by omega,le_sub ⟨rfl,rfl,rfl,trivial⟩ trivial rfl rfl rfl (keepLt0 _),i+1,by omega,?_,rfl,rfl⟩
  rw[htk]
  intro y hy
  rcases List.mem_append.1 hy with hy|hy
  ·exact hno y hy
  ·rw[List.mem_singleton.1 hy];exact hx
end
theorem sum_set_lt:∀(c:List Nat) (i x:Nat),i<c.length→x<c.getD i 0→(c.set i x).sum<c.sum
 | [],i,x,h,_=>absurd h (Nat.not_lt_zero _)
 | a :: c,0,x,_,h=>by
  simp only[List.getD_eq_getElem?_getD,List.getElem?_cons_zero,Option.getD_some]at h
  simp only[List.set_cons_zero,List.sum_cons];omega
 | a :: c,i+1,x,h,h2=>by
  have:=sum_set_lt c i x (Nat.lt_of_succ_lt_succ h) (by simpa using h2)
  simp only[List.set_cons_succ,List.sum_cons];omega
structure RC (n:Nat) (R:Nat→Nat→Prop) (c:List Nat):Prop where
 len:c.length=n
 le:∀i,i<n→c.getD i 0≤i
 cn:∀i,i<n→Conn R n i (c.getD i 0)
section
variable {n:Nat}{R:Nat→Nat→Prop}{c c0:List Nat}{i k:Nat}{b:Bool}
theorem RC.init:RC n R (List.range n):=by
 have h:∀i,i<n→(List.range n).getD i 0=i:=fun i hi=>by simp[hi]
 exact ⟨List.length_range,fun i hi=>by rw[h i hi];exact Nat.le_refl _,fun i hi=>by rw[h i hi];exact .refl hi⟩
theorem RC.upd(h:RC n R c)(hi:i<n)(hk:k<n)(hR:R i k)(hlt:c.getD k 0<c.getD i 0):RC n R (c.set i (c.getD k 0)):=by
 have hl:i<c.length:=by rw[h.len];exact hi
 refine ⟨by rw[List.length_set];exact h.len,fun j hj=>?_,fun j hj=>?_⟩
 ·rw[getD_setN _ _ _ _ hl]
  split
  ·rename_i e;subst e;have:=h.le i hi;omega
  ·exact h.le j hj
 ·rw[getD_setN _ _ _ _ hl]
  split
  ·rename_i e;subst e;exact (Conn.one hi hk hR).trans (h.cn k hk)
  ·exact h.cn j hj
def RQ(n:Nat)(R:Nat→Nat→Prop)(c0 c:List Nat)(b:Bool)(i k:Nat):Prop:=RC n R c∧((b=false∧c=c0∧(∀i' k',i'<i→k'<n→R i' k'→c.getD i' 0≤c.getD k' 0)∧∀k',k'<k→R i k'→c.getD i 0≤c.getD k' 0)∨(b=true∧c.sum<c0.sum))
theorem RQ.start(h:RC n R c):RQ n R c c false 0 0:=⟨h,.inl ⟨rfl,rfl,fun _ _ h=>absurd h (Nat.not_lt_zero _),fun _ h=>absurd h (Nat.not_lt_zero _)⟩⟩
theorem RQ.stay(h:RQ n R c0 c b i k)(hno:¬(R i k∧c.getD k 0<c.getD i 0)):RQ n R c0 c b i (k+1):=by
 obtain ⟨h1,h2|h2⟩:=h
 ·refine ⟨h1,.inl ⟨h2.1,h2.2.1,h2.2.2.1,fun k' hk hR=>?_⟩⟩
  by_cases e:k'=k
  ·subst e
   exact Nat.not_lt.1 fun hlt=>hno ⟨hR,hlt⟩
  ·exact h2.2.2.2 k' (by omega) hR
 ·exact ⟨h1,.inr h2⟩
theorem RQ.change(h:RQ n R c0 c b i k)(hi:i<n)(hk:k<n)(hR:R i k)(hlt:c.getD k 0<c.getD i 0):RQ n R c0 (c.set i (c.getD k 0)) true i (k+1):=by
 have hs:=sum_set_lt c i (c.getD k 0) (by rw[h.1.len];exact hi) hlt
 refine ⟨h.1.upd hi hk hR hlt,.inr ⟨rfl,?_⟩⟩
 rcases h.2 with h2|h2
 ·rw[←h2.2.1];exact hs
 ·omega
theorem RQ.next(h:RQ n R c0 c b i n):RQ n R c0 c b (i+1) 0:=by
 obtain ⟨h1,h2|h2⟩:=h
 ·refine ⟨h1,.inl ⟨h2.1,h2.2.1,fun i' k' hi hk hR=>?_,fun _ h=>absurd h (Nat.not_lt_zero _)⟩⟩
  by_cases e:i'=i
  ·subst e;exact h2.2.2.2 k' hk hR
  ·exact h2.2.2.1 i' k' (by omega) hk hR
 ·exact ⟨h1,.inr h2⟩
theorem RC.lab(h:RC n R c)(hs:∀i k,R i k→R k i)(h3:∀i k,i<n→k<n→R i k→c.getD i 0≤c.getD k 0):Lab n R (fun i=>c.getD i 0):=lab_fix hs h.le h.cn h3
end
def frzE(us:Nat→Value):List Nat→Env→Env
 | [],E=>E
 | t :: r,E=>(t,.ext (us t)) :: frzE us r E
theorem lk_frzE(us:Nat→Value)(E:Env):∀(ts:List Nat) (t:Nat),lk (frzE us ts E) t=.ext (us t)∨lk (frzE us ts E) t=lk E t
 | [],t=>.inr rfl
 | q :: r,t=>by
  simp only[frzE,lk]
  split
  ·rename_i e;subst e;exact .inl rfl
  ·exact lk_frzE us E r t
open Classical in
theorem Fz.frz{z:St}{B:St→Prop}(F:Hp)(ts:List Nat)(E:Env)(R:Hp)(hc:closedH F)(hF:∀k x,lkH F k=some x→lkH z.hp k=some x∧z.kb≤k)
  (hE:subE E z.env) (hE2:∀k,(lkH F k).isSome=true→k∉mentE E) (hR:subHp R z.hp) (hR2:∀k,(lkH F k).isSome=true→k∉mentH R) (hkeep:keepLt z.kb R z.hp) (hfx:∀k,k<z.kb→(lkH z.hp k).isSome=true→k∈z.fx)
  (h:∀M' ρ w us,Mem.le z.M M'→HoldH ρ z.M M' F w→(∀t,(lk z.env t).is ρ (us t))→B {env:=frzE us ts E,hp:=R,M:=M',kb:=z.kb,fx:=z.fx,fr:=z.fr}):Fz z B:=fun c n a w hcx ⟨ρ,g⟩=>by
 let D:Nat→Prop:=fun b=>∃k x,(lkH F k).isSome=true∧ρ k=some x∧x.b=b
 let M':Mem:=fun b=>if D b then w.heap[b]? else z.M b
 have hFz:∀k,(lkH F k).isSome=true→(lkH z.hp k).isSome=true∧z.kb≤k:=fun k hk=>by
  obtain ⟨x,hx⟩:=Option.isSome_iff_exists.1 hk
  obtain ⟨h1,h2⟩:=hF k x hx
  exact ⟨by rw[h1];rfl,h2⟩
 have hRz:∀k x,lkH R k=some x→lkH z.hp k=some x:=subHp_lk hR
 have hRF:∀k x,lkH R k=some x→lkH F k=none:=fun k x hx=>by
  cases e:lkH F k with
  | none=>rfl
  | some y=>exact absurd (mentH_lk (T:=x.1) (cs:=x.2) hx (.inl rfl)) (hR2 k (by rw[e];rfl))
 have hMD:∀b,D b→z.M b=none:=fun b ⟨k,x,hk,hx,e⟩=>by
  obtain ⟨y,hy⟩:=Option.isSome_iff_exists.1 hk
  rw[←e];exact (g.hp k y.1 y.2 x (hF k y hy).1 hx).2.2
 have hle:Mem.le z.M M':=fun b o hb=>by
  by_cases hD:D b
  ·rw[hMD b hD]at hb;cases hb
  ·simp only[M',if_neg hD];exact hb
 have hhold:HoldH ρ z.M M' F w:=fun k T cs b hk hb=>by
  obtain ⟨⟨arr,h1⟩,_,h2⟩:=g.hp k T cs b (hF k _ hk).1 hb
  have hD:D b.b:=⟨k,b,by rw[hk];rfl,hb,rfl⟩
  exact ⟨⟨arr,by simp only[M',if_pos hD];exact h1.there,h1⟩,h2⟩
 refine ⟨_,⟨ρ,?_⟩,h M' ρ w (fun t=>a.tmps.getD t undef) hle hhold g.env⟩
 refine {df:=g.df,sz:=g.sz,env:=fun t=>?_,hp:=fun j T' cs b hj hb=>?_,no:=fun j T' cs hj hb=>g.no j T' cs (hRz j _ hj) hb,inj:=fun j j' b b' hj hj' hb hb' e=>?_,os:=g.os,tape:=g.tape,output:=g.output,size:=g.size,block:=g.block,sub:=fun b o hb=>?_,le:=g.le.trans hle,mf:=fun b hb=>?_,fix:=fun j hj=>keepLt_ok hkeep j (g.kl j hj) (g.fix j hj),fx:=g.fx,kl:=g.kl,fr:=g.fr}
 ·show (lk (frzE _ ts E) t).is ρ _
  rcases lk_frzE (fun t=>a.tmps.getD t undef) E ts t with e|e
  ·rw[e];rfl
  ·rw[e]
   rcases subE_lk hE t with e2|e2
   ·rw[e2];trivial
   ·rw[e2];exact g.env t
 ·obtain ⟨f1,f2,f3⟩:=g.hp j T' cs b (hRz j _ hj) hb
  refine ⟨f1,f2,?_⟩
  have hnD:¬D b.b:=fun ⟨k,x,hk,hx,e⟩=>by
   have:=g.inj k j x b (hFz k hk).1 (by rw[hRz j _ hj];rfl) hx hb e
   subst this
   rw[hRF k _ hj]at hk;cases hk
  show M' b.b=none
  simp only[M',if_neg hnD];exact f3
 ·obtain ⟨x,hx⟩:=Option.isSome_iff_exists.1 hj
  obtain ⟨x',hx'⟩:=Option.isSome_iff_exists.1 hj'
  exact g.inj j j' b b' (by rw[hRz j x hx];rfl) (by rw[hRz j' x' hx'];rfl) hb hb' e
 ·have hb:M' b=some o:=hb
  by_cases hD:D b
  ·simp only[M',if_pos hD]at hb;exact hb
  ·simp only[M',if_neg hD]at hb;exact g.sub b o hb
 ·have hb:M' b≠none:=hb
  by_cases hD:D b
  ·obtain ⟨k,x,hk,hx,e⟩:=hD
   obtain ⟨y,hy⟩:=Option.isSome_iff_exists.1 hk
   rcases (g.hp k y.1 y.2 x (hF k y hy).1 hx).2.1 with h5|h5
   ·rw[←e];exact .inr h5
   ·exfalso
    obtain ⟨k',y',h6,h7,h8⟩:=hcx.x _ h5
    have h9:=g.fix k' h6
    have h10:=g.kl k' h6
    have h11:=g.fx k' (hfx k' h10 h9)
    rw[h7]at h11
    have:=g.inj k' k y' x h9 (hFz k hk).1 h11 hx h8
    have:=(hFz k hk).2
    omega
  ·simp only[M',if_neg hD]at hb;exact g.mf b hb
theorem Fz.flat{z:St}{B:St→Prop}{k n w:Nat}{T:TypeId}(t:Nat)(cs:List Value)(E:Env)(R:Hp)(ht:lk z.env t=.slo k 0 n w)(hk:lkH z.hp k=some (T,cs.map .ext))(hn:cs.length=n*w)(hkb:z.kb≤k)
  (hE:subE E z.env) (hE1:hasK k (mentE E)=false) (hR:subHp R z.hp) (hR1:hasK k (mentH R)=false) (hkeep:keepLt z.kb R z.hp) (hfx:∀k,k<z.kb→(lkH z.hp k).isSome=true→k∈z.fx)
  (h:∀M' U,Mem.le z.M M'→SlM M' w U n cs→FreshS z.M U→B {env:=(t,.ext U) :: E,hp:=R,M:=M',kb:=z.kb,fx:=z.fx,fr:=z.fr}):Fz z B:=by
 have hlk:∀j x,lkH [(k,T,cs.map AV.ext)] j=some x→j=k∧x=(T,cs.map .ext):=fun j x h=>by
  simp only[lkH]at h
  split at h
  ·rename_i e;cases h;exact ⟨e.symm,rfl⟩
  ·cases h
 have hc:closedH [(k,T,cs.map AV.ext)]:=fun j T' ds q hj hq=>by
  obtain ⟨_,e⟩:=hlk j _ hj
  cases e
  rw[mentL_ext]at hq;cases hq
 have hs:∀j,(lkH [(k,T,cs.map AV.ext)] j).isSome=true→j=k:=fun j hj=>by
  obtain ⟨x,hx⟩:=Option.isSome_iff_exists.1 hj
  exact (hlk j x hx).1
 refine Fz.frz [(k,T,cs.map .ext)] [t] E R hc (fun j x hx=>?_) hE (fun j h1 h2=>?_) hR (fun j h1 h2=>?_) hkeep hfx (fun M' ρ v us hM hh hu=>?_)
 ·obtain ⟨rfl,rfl⟩:=hlk j x hx
  exact ⟨hk,hkb⟩
 ·exact hasK_no.1 hE1 (hs j h1▸h2)
 ·exact hasK_no.1 hR1 (hs j h1▸h2)
 ·have h1:=hu t
  rw[ht]at h1
  have h2:=borI_is hh _ _ (fun j hj=>by
   have:j=k:=by simpa [AV.ment] using hj
   subst this
   simp[lkH]) h1
  obtain ⟨h3,h4⟩:=h2
  have h5:=h4 T cs (by simp[lkH]) (by omega)
  rw[List.drop_zero,List.take_of_length_le (by omega)]at h5
  exact h M' (us t) hM h5 h3
theorem Fz.bind{z:St}{B:St→Prop}(h:Fz z (fun y=>Fz y B)):Fz z B:=fun c n a w hcx g=>by
 obtain ⟨y,g1,h1⟩:=h c n a w hcx g
 exact h1 c n a w hcx g1
open Classical in
theorem Fz.cell{z:St}{B:St→Prop}{j k n q:Nat}{T T0:TypeId}(cs:List Value)(E:Env)(R:Hp)(hj:lkH z.hp j=some (T0,[.slo k 0 n q]))(hk:lkH z.hp k=some (T,cs.map .ext))(hn:cs.length=n*q)(hkb:z.kb≤k)(hjk:j≠k)
  (hE:subE E z.env) (hE2:k∉mentE E) (hR:subHp R z.hp) (hR2:k∉mentH R) (hkeep:keepLt z.kb R z.hp) (hfx:∀k,k<z.kb→(lkH z.hp k).isSome=true→k∈z.fx)
  (h:∀M' U,Mem.le z.M M'→SlM M' q U n cs→FreshS z.M U→B {env:=E,hp:=(j,T0,[.ext U]) :: R,M:=M',kb:=z.kb,fx:=z.fx,fr:=z.fr}):Fz z B:=fun c n0 a w hcx ⟨ρ,g⟩=>by
 obtain ⟨bj,hbj⟩:∃b,ρ j=some b:=by
  cases hb:ρ j with
  | none=>have:=g.no j _ _ hj hb;cases this
  | some b=>exact ⟨b,rfl⟩
 obtain ⟨⟨arr0,row0⟩,fj2,fj3⟩:=g.hp j _ _ bj hj hbj
 have hU:=row0.is 0 (.slo k 0 n q) rfl
 generalize hUe:arr0.getD 0 undef=U at hU
 let D:Nat→Prop:=fun b=>∃x,ρ k=some x∧x.b=b
 let M':Mem:=fun b=>if D b then w.heap[b]? else z.M b
 have hRz:∀k x,lkH R k=some x→lkH z.hp k=some x:=subHp_lk hR
 have hRF:∀i x,lkH R i=some x→i≠k:=fun i x hx e=>by
  subst e
  exact hR2 (mentH_lk (T:=x.1) (cs:=x.2) hx (.inl rfl))
 have hMD:∀b,D b→z.M b=none:=fun b ⟨x,hx,e⟩=>by
  rw[←e];exact (g.hp k _ _ x hk hx).2.2
 have hle:Mem.le z.M M':=fun b o hb=>by
  by_cases hD:D b
  ·rw[hMD b hD]at hb;cases hb
  ·simp only[M',if_neg hD];exact hb
 have hlk:∀j x,lkH [(k,T,cs.map AV.ext)] j=some x→j=k∧x=(T,cs.map .ext):=fun j x h=>by
  simp only[lkH]at h
  split at h
  ·rename_i e;cases h;exact ⟨e.symm,rfl⟩
  ·cases h
 have hc:closedH [(k,T,cs.map AV.ext)]:=fun j T' ds q hj hq=>by
  obtain ⟨_,e⟩:=hlk j _ hj
  cases e
  rw[mentL_ext]at hq;cases hq
 have hhold:HoldH ρ z.M M' [(k,T,cs.map AV.ext)] w:=fun i T' ds b hi hb=>by
  obtain ⟨rfl,e⟩:=hlk i _ hi
  cases e
  obtain ⟨⟨arr,h1⟩,_,h2⟩:=g.hp _ _ _ b hk hb
  have hD:D b.b:=⟨b,hb,rfl⟩
  exact ⟨⟨arr,by simp only[M',if_pos hD];exact h1.there,h1⟩,h2⟩
 have hB:B {env:=E,hp:=(j,T0,[.ext U]) :: R,M:=M',kb:=z.kb,fx:=z.fx,fr:=z.fr}:=by
  have h2:=borI_is hhold (.slo k 0 n q) U (fun i hi=>by
   have:i=k:=by simpa [AV.ment] using hi
   subst this
   simp[lkH]) hU
  obtain ⟨h3,h4⟩:=h2
  have h5:=h4 T cs (by simp[lkH]) (by omega)
  rw[List.drop_zero,List.take_of_length_le (by omega)]at h5
  exact h M' U hle h5 h3
 have hlk2:∀i x,lkH ((j,T0,[AV.ext U]) :: R) i=some x→(i=j∧x=(T0,[.ext U]))∨(i≠j∧lkH R i=some x):=fun i x hx=>by
  simp only[lkH]at hx
  split at hx
  ·rename_i e;cases hx;exact .inl ⟨e.symm,rfl⟩
  ·rename_i e;exact .inr ⟨fun e2=>e e2.symm,hx⟩
 have hsome:∀i,(lkH ((j,T0,[AV.ext U]) :: R) i).isSome=true→(lkH z.hp i).isSome=true:=fun i hi=>by
  obtain ⟨x,hx⟩:=Option.isSome_iff_exists.1 hi
  rcases hlk2 i x hx with ⟨rfl,_⟩|⟨_,hx⟩
  ·rw[hj];rfl
  ·rw[hRz i x hx];rfl
 have hnk:∀i,(lkH ((j,T0,[AV.ext U]) :: R) i).isSome=true→i≠k:=fun i hi=>by
  obtain ⟨x,hx⟩:=Option.isSome_iff_exists.1 hi
  rcases hlk2 i x hx with ⟨rfl,_⟩|⟨_,hx⟩
  ·exact hjk
  ·exact hRF i x hx
 have hnD:∀i b,(lkH ((j,T0,[AV.ext U]) :: R) i).isSome=true→ρ i=some b→¬D b.b:=fun i b hi hb ⟨x,hx,e⟩=>by
  exact hnk i hi (g.inj k i x b (by rw[hk];rfl) (hsome i hi) hx hb e).symm
 refine ⟨_,⟨ρ,?_⟩,hB⟩
 refine {df:=g.df,sz:=g.sz,env:=fun t=>?_,hp:=fun i T' ds b hi hb=>?_,no:=fun i T' ds hi hb=>?_,inj:=fun i i' b b' hi hi' hb hb' e=>g.inj i i' b b' (hsome i hi) (hsome i' hi') hb hb' e,os:=g.os,tape:=g.tape,output:=g.output,size:=g.size,block:=g.block,sub:=fun b o hb=>?_,le:=g.le.trans hle,mf:=fun b hb=>?_,fix:=fun i hi=>?_,fx:=g.fx,kl:=g.kl,fr:=g.fr}
 ·show (lk E t).is ρ _
  rcases subE_lk hE t with e2|e2
  ·rw[e2];trivial
  ·rw[e2];exact g.env t
 ·have hD:=hnD i b (by rw[hi];rfl) hb
  rcases hlk2 i _ hi with ⟨rfl,e⟩|⟨_,hi⟩
  ·cases e
   rw[hbj]at hb;cases hb
   refine ⟨⟨arr0,row0.there,row0.size,row0.le,fun p v hv=>?_⟩,fj2,?_⟩
   ·cases p with
    | zero=>cases hv;exact hUe
    | succ p=>cases hv
   ·show M' bj.b=none
    simp only[M',if_neg hD];exact fj3
  ·obtain ⟨f1,f2,f3⟩:=g.hp i T' ds b (hRz i _ hi) hb
   refine ⟨f1,f2,?_⟩
   show M' b.b=none
   simp only[M',if_neg hD];exact f3
 ·rcases hlk2 i _ hi with ⟨rfl,e⟩|⟨_,hi⟩
  ·rw[hbj]at hb;cases hb
  ·exact g.no i T' ds (hRz i _ hi) hb
 ·have hb:M' b=some o:=hb
  by_cases hD:D b
  ·simp only[M',if_pos hD]at hb;exact hb
  ·simp only[M',if_neg hD]at hb;exact g.sub b o hb
 ·have hb:M' b≠none:=hb
  by_cases hD:D b
  ·obtain ⟨x,hx,e⟩:=hD
   rcases (g.hp k _ _ x hk hx).2.1 with h5|h5
   ·rw[←e];exact .inr h5
   ·exfalso
    obtain ⟨k',y',h6,h7,h8⟩:=hcx.x _ h5
    have h9:=g.fix k' h6
    have h10:=g.kl k' h6
    have h11:=g.fx k' (hfx k' h10 h9)
    rw[h7]at h11
    have:=g.inj k' k y' x h9 (by rw[hk];rfl) h11 hx h8
    omega
  ·simp only[M',if_neg hD]at hb;exact g.mf b hb
 ·have h1:=keepLt_ok hkeep i (g.kl i hi) (g.fix i hi)
  simp only[lkH]
  split
  ·rfl
  ·exact h1
open Classical in
theorem Fz.cellI{z:St}{B:St→Prop}{j k n q off p0:Nat}{T T0:TypeId}{C:List AV}(cs:List Value)(E:Env)(R:Hp)(hj:lkH z.hp j=some (T0,C))(hC:C[p0]? = some (.slo k off n q))(hk:lkH z.hp k=some (T,cs.map .ext))(hn:off+n*q≤cs.length)(hkb:z.kb≤k)(hjk:j≠k)
  (hE:subE E z.env) (hE2:k∉mentE E) (hR:subHp R z.hp) (hR2:k∉mentH R) (hkeep:keepLt z.kb R z.hp) (hfx:∀k,k<z.kb→(lkH z.hp k).isSome=true→k∈z.fx)
  (h:∀M' U,Mem.le z.M M'→SlM M' q U n ((cs.drop off).take (n*q))→FreshS z.M U→B {env:=E,hp:=(j,T0,C.set p0 (.ext U)) :: R,M:=M',kb:=z.kb,fx:=z.fx,fr:=z.fr}):Fz z B:=fun c n0 a w hcx ⟨ρ,g⟩=>by
 obtain ⟨bj,hbj⟩:∃b,ρ j=some b:=by
  cases hb:ρ j with
  | none=>have:=g.no j _ _ hj hb;subst this;simp at hC
  | some b=>exact ⟨b,rfl⟩
 obtain ⟨⟨arr0,row0⟩,fj2,fj3⟩:=g.hp j _ _ bj hj hbj
 have hU:=row0.is p0 (.slo k off n q) hC
 generalize hUe:arr0.getD p0 undef=U at hU
 let D:Nat→Prop:=fun b=>∃x,ρ k=some x∧x.b=b
 let M':Mem:=fun b=>if D b then w.heap[b]? else z.M b
 have hRz:∀k x,lkH R k=some x→lkH z.hp k=some x:=subHp_lk hR
 have hRF:∀i x,lkH R i=some x→i≠k:=fun i x hx e=>by
  subst e
  exact hR2 (mentH_lk (T:=x.1) (cs:=x.2) hx (.inl rfl))
 have hMD:∀b,D b→z.M b=none:=fun b ⟨x,hx,e⟩=>by
  rw[←e];exact (g.hp k _ _ x hk hx).2.2
 have hle:Mem.le z.M M':=fun b o hb=>by
  by_cases hD:D b
  ·rw[hMD b hD]at hb;cases hb
  ·simp only[M',if_neg hD];exact hb
 have hlk:∀j x,lkH [(k,T,cs.map AV.ext)] j=some x→j=k∧x=(T,cs.map .ext):=fun j x h=>by
  simp only[lkH]at h
  split at h
  ·rename_i e;cases h;exact ⟨e.symm,rfl⟩
  ·cases h
 have hc:closedH [(k,T,cs.map AV.ext)]:=fun j T' ds q hj hq=>by
  obtain ⟨_,e⟩:=hlk j _ hj
  cases e
  rw[mentL_ext]at hq;cases hq
 have hhold:HoldH ρ z.M M' [(k,T,cs.map AV.ext)] w:=fun i T' ds b hi hb=>by
  obtain ⟨rfl,e⟩:=hlk i _ hi
  cases e
  obtain ⟨⟨arr,h1⟩,_,h2⟩:=g.hp _ _ _ b hk hb
  have hD:D b.b:=⟨b,hb,rfl⟩
  exact ⟨⟨arr,by simp only[M',if_pos hD];exact h1.there,h1⟩,h2⟩
 have hB:B {env:=E,hp:=(j,T0,C.set p0 (.ext U)) :: R,M:=M',kb:=z.kb,fx:=z.fx,fr:=z.fr}:=by
  have h2:=borI_is hhold (.slo k off n q) U (fun i hi=>by
   have:i=k:=by simpa [AV.ment] using hi
   subst this
   simp[lkH]) hU
  obtain ⟨h3,h4⟩:=h2
  have h5:=h4 T cs (by simp[lkH]) (by omega)
  exact h M' U hle h5 h3
 have hlk2:∀i x,lkH ((j,T0,C.set p0 (AV.ext U)) :: R) i=some x→(i=j∧x=(T0,C.set p0 (.ext U)))∨(i≠j∧lkH R i=some x):=fun i x hx=>by
  simp only[lkH]at hx
  split at hx
  ·rename_i e;cases hx;exact .inl ⟨e.symm,rfl⟩
  ·rename_i e;exact .inr ⟨fun e2=>e e2.symm,hx⟩
 have hsome:∀i,(lkH ((j,T0,C.set p0 (AV.ext U)) :: R) i).isSome=true→(lkH z.hp i).isSome=true:=fun i hi=>by
  obtain ⟨x,hx⟩:=Option.isSome_iff_exists.1 hi
  rcases hlk2 i x hx with ⟨rfl,_⟩|⟨_,hx⟩
  ·rw[hj];rfl
  ·rw[hRz i x hx];rfl
 have hnk:∀i,(lkH ((j,T0,C.set p0 (AV.ext U)) :: R) i).isSome=true→i≠k:=fun i hi=>by
  obtain ⟨x,hx⟩:=Option.isSome_iff_exists.1 hi
  rcases hlk2 i x hx with ⟨rfl,_⟩|⟨_,hx⟩
  ·exact hjk
  ·exact hRF i x hx
 have hnD:∀i b,(lkH ((j,T0,C.set p0 (AV.ext U)) :: R) i).isSome=true→ρ i=some b→¬D b.b:=fun i b hi hb ⟨x,hx,e⟩=>by
  exact hnk i hi (g.inj k i x b (by rw[hk];rfl) (hsome i hi) hx hb e).symm
 refine ⟨_,⟨ρ,?_⟩,hB⟩
 refine {df:=g.df,sz:=g.sz,env:=fun t=>?_,hp:=fun i T' ds b hi hb=>?_,no:=fun i T' ds hi hb=>?_,inj:=fun i i' b b' hi hi' hb hb' e=>g.inj i i' b b' (hsome i hi) (hsome i' hi') hb hb' e,os:=g.os,tape:=g.tape,output:=g.output,size:=g.size,block:=g.block,sub:=fun b o hb=>?_,le:=g.le.trans hle,mf:=fun b hb=>?_,fix:=fun i hi=>?_,fx:=g.fx,kl:=g.kl,fr:=g.fr}
 ·show (lk E t).is ρ _
  rcases subE_lk hE t with e2|e2
  ·rw[e2];trivial
  ·rw[e2];exact g.env t
 ·have hD:=hnD i b (by rw[hi];rfl) hb
  rcases hlk2 i _ hi with ⟨rfl,e⟩|⟨_,hi⟩
  ·cases e
   rw[hbj]at hb;cases hb
   refine ⟨⟨arr0,row0.there,row0.size,by rw[List.length_set];exact row0.le,fun p v hv=>?_⟩,fj2,?_⟩
   ·by_cases hp:p0=p
    ·subst hp
     rw[List.getElem?_set_self (by exact (List.getElem?_eq_some_iff.1 hC).1)]at hv
     cases hv;exact hUe
    ·rw[List.getElem?_set_ne hp]at hv
     exact row0.is p v hv
   ·show M' bj.b=none
    simp only[M',if_neg hD];exact fj3
  ·obtain ⟨f1,f2,f3⟩:=g.hp i T' ds b (hRz i _ hi) hb
   refine ⟨f1,f2,?_⟩
   show M' b.b=none
   simp only[M',if_neg hD];exact f3
 ·rcases hlk2 i _ hi with ⟨rfl,e⟩|⟨_,hi⟩
  ·rw[hbj]at hb;cases hb
  ·exact g.no i T' ds (hRz i _ hi) hb
 ·have hb:M' b=some o:=hb
  by_cases hD:D b
  ·simp only[M',if_pos hD]at hb;exact hb
  ·simp only[M',if_neg hD]at hb;exact g.sub b o hb
 ·have hb:M' b≠none:=hb
  by_cases hD:D b
  ·obtain ⟨x,hx,e⟩:=hD
   rcases (g.hp k _ _ x hk hx).2.1 with h5|h5
   ·rw[←e];exact .inr h5
   ·exfalso
    obtain ⟨k',y',h6,h7,h8⟩:=hcx.x _ h5
    have h9:=g.fix k' h6
    have h10:=g.kl k' h6
    have h11:=g.fx k' (hfx k' h10 h9)
    rw[h7]at h11
    have:=g.inj k' k y' x h9 (by rw[hk];rfl) h11 hx h8
    omega
  ·simp only[M',if_neg hD]at hb;exact g.mf b hb
 ·have h1:=keepLt_ok hkeep i (g.kl i hi) (g.fix i hi)
  simp only[lkH]
  split
  ·rfl
  ·exact h1
def GRV(M:Mem)(U:Value)(O:List GO):Prop:=∃L:List GX,IsR M 3 GX.c U L∧(∀g∈L,okGX M g)∧L.map GX.o=O
theorem GRV.le{M M':Mem}{U:Value}{O:List GO}(h:GRV M U O)(hM:Mem.le M M'):GRV M' U O:=by
 obtain ⟨L,h1,h2,h3⟩:=h
 exact ⟨L,h1.le hM,fun g hg=>(h2 g hg).le hM,h3⟩
theorem GRF.v{M0 M:Mem}{U:Value}{O:List GO}(h:GRF M0 M U O):GRV M U O:=by
 obtain ⟨L,h1,_,h3,h4⟩:=h
 exact ⟨L,h1,fun g hg=>(h3 g hg).1,h4⟩
section
variable {M:Mem}{K:AV→Hp→Mem→Prop}
def rpA(M:Mem)(u v:Value)(d:Int)(n i:Nat)(c:List Nat):St:={env:=[(9,.ext (.int .i64 (i:Int))),(8,.slo 28 0 n 1),(6,.ext v),(0,.ext u),(1,.ext (.int .i64 d))],hp:=[(28,3,cE natV c)],M:=M,kb:=0,fx:=[]}
def rpB(M:Mem)(u v:Value)(d:Int)(n:Nat)(c:List Nat)(b:Bool):St:={env:=[(10,.ext (.bool b)),(8,.slo 28 0 n 1),(6,.ext v),(0,.ext u),(1,.ext (.int .i64 d))],hp:=[(28,3,cE natV c)],M:=M,kb:=0,fx:=[]}
def rpC(M:Mem)(u v:Value)(d:Int)(n i:Nat)(c:List Nat)(b:Bool):St:={env:=[(11,.ext (.int .i64 (i:Int))),(10,.ext (.bool b)),(8,.slo 28 0 n 1),(6,.ext v),(0,.ext u),(1,.ext (.int .i64 d))],hp:=[(28,3,cE natV c)],M:=M,kb:=0,fx:=[]}
def rpD(M:Mem)(u v:Value)(d:Int)(n i k:Nat)(c:List Nat)(b:Bool):St:={env:=[(12,.ext (.int .i64 (k:Int))),(11,.ext (.int .i64 (i:Int))),(10,.ext (.bool b)),(8,.slo 28 0 n 1),(6,.ext v),(0,.ext u),(1,.ext (.int .i64 d))],hp:=[(28,3,cE natV c)],M:=M,kb:=0,fx:=[]}
def gxF(X:List GX):List AV:=(X.flatMap GX.c).map .ext
theorem gxF_len(X:List GX):(gxF X).length=X.length*3:=by
 unfold gxF
 rw[List.length_map,flat_len (z:=3) (fun _=>rfl)]
theorem gxF_ment(X:List GX):mentL (gxF X)=[]:=mentL_ext _
theorem gxF_kill(k:Nat)(X:List GX):killL k (gxF X)=gxF X:=killL_exts _ _
theorem gxF_app(X:List GX)(x:GX):gxF X++[.ext (.string (bs x.m)),.ext x.y,.ext x.u]=gxF (X++[x]):=by simp[gxF,GX.c]
def rpE(M:Mem)(u v w:Value)(i r:Nat)(X:List GX):St:={env:=[(14,.ext (.int .i64 (i:Int))),(13,.slo 132 0 r 3),(8,.ext w),(6,.ext v),(0,.ext u)],hp:=[(132,43,gxF X)],M:=M,kb:=0,fx:=[]}
def rpG(M:Mem)(u v w:Value)(i k r q:Nat)(X:List GX)(m:Bst)(y:Value)(ml:List Nat):St:={env:=[(16,.ext (.int .i64 (k:Int))),(15,.own 15 0),(14,.ext (.int .i64 (i:Int))),(13,.slo 132 0 r 3),(8,.ext w),(6,.ext v),(0,.ext u)],hp:=[(15,43,[.ext (.string (bs m)),.ext y,.slo 114 0 q 1]),(114,3,cE natV ml),(132,43,gxF X)],M:=M,kb:=0,fx:=[]}
def rpH(M:Mem)(u v w:Value)(i k r:Nat)(X:List GX)(m:Bst)(y:Value):St:={env:=[(16,.ext (.int .i64 (k:Int))),(15,.own 15 0),(14,.ext (.int .i64 (i:Int))),(13,.slo 132 0 r 3),(8,.ext w),(6,.ext v),(0,.ext u)],hp:=[(15,43,[.ext (.string (bs m)),.ext y,.ext (.slice none 0 0)]),(132,43,gxF X)],M:=M,kb:=0,fx:=[]}
theorem rpH_le(M:Mem)(u v w:Value)(i k r:Nat)(X:List GX)(m:Bst)(y:Value):Le (rpH M u v w i k r X m y) (rpG M u v w i k r 0 X m y []):=
 (le_nilH (s:=rpH M u v w i k r X m y) 15 2 114 3 43 _ 1 rfl rfl (.inl (by simp[awayB,rpH,mentE,mentH,mentL,AV.ment,hasK,gxF_ment]))).trans (le_sub ⟨rfl,rfl,rfl,rfl,rfl,rfl,rfl,trivial⟩ ⟨rfl,rfl,rfl,trivial⟩ rfl rfl rfl (keepLt0 _))
theorem rsplit_ok(u:Value)(L:List Fa)(d:Int)(hu:IsR M 5 faC u L)(ho:∀f∈L,faOk M f)(hb:L.length<1000000)
  (hK1:sgnE L d≠0→∀M',Mem.le M M'→K (.ext (.tuple #[.slice none 0 0,.int .i64 (sgnE L d)])) [] M')
  (hK2:sgnE L d=0→∀u' M' O,Mem.le M M'→GrpO (L.map faB) d O→GRV M' u' O→K (.ext (.tuple #[u',.int .i64 0])) [] M') :
  CallS Tryz.prog 30 [.ext u,.ext (.int .i64 d)] [] M [] K:=by
 refine CallS.frzF ?_
 refine inlS (cs:=[20,33]) Tryz.mixed Tryz.func30 rfl (by kernel_rfl) 0 rfl rfl ?_
 simp only[Tryz.f30]
 have uo:=hu.one
 have ul:=hu.len
 have us:=hu.sl
 (try with_reducible refine Fz.of ?_);refine Go1.mk ?_;repeat' ((first|(with_reducible refine Go1.go ?_)|(((with_reducible refine isCall (f:=33) ?_);refine callA_nil (by kernel_rfl) ?_;refine (rsigns_ok u L d hu ho hb (fun he M1 m1=>Stop.mk ?_) (fun he v S M1 m1 g1 g2 g3 g4=>Stop.mk ?_))))|(refine And.intro ?_ ?_;(try simp only[sxO]at *);omega)|fail)<;>(try simp (maxSteps:=1000000) only [uo,↓hold_pre,awayP,runOps,regK,step1,newK,genR,appR,obl,buildR,Value.cells,closeK,keepH,outV,retK,ret1,retC,RetV,Option.getD,runD,stepD,afterK,undef,simprocAttr,sxB,↓sxD,sxE,sxTab]))
 ·have d1:decide (sgnE L d=0)=false:=decide_eq_false he
  have hk:=hK1 he M1 m1
  refine Stop.go ?_
  (try with_reducible refine Fz.of ?_);refine Go1.mk ?_;repeat' ((first|(with_reducible refine Go1.go ?_)|(refine And.intro ?_ ?_;(try simp only[sxO]at *);omega)|fail)<;>(try simp (maxSteps:=1000000) only [d1,uo,↓hold_pre,awayP,runOps,regK,step1,newK,genR,appR,obl,buildR,Value.cells,closeK,keepH,outV,retK,ret1,retC,RetV,Option.getD,runD,stepD,afterK,undef,simprocAttr,sxB,↓sxD,sxE,sxTab]))
  exact .inl hk
 have m1:Mem.le M M1:=m1
 have vo:=g1.one
 have vl:=g1.len
 have vs:=g1.sl
 have hSl:S.length=L.length:=by have:=congrArg List.length g3;simpa using this
 have hn64:L.length≤64:=by
  unfold sgnE at he
  split at he
  ·cases he
  ·split at he
   ·cases he
   ·split at he
    ·cases he
    ·omega
 obtain ⟨T,hT⟩:∃T,T=L.map faB:=⟨_,rfl⟩
 have hTl:T.length=L.length:=by rw[hT,List.length_map]
 have hTok:∀s∈T,okB s.1 s.2:=fun s hs=>by
  rw[hT]at hs
  obtain ⟨f,hf,rfl⟩:=List.mem_map.1 hs
  exact okB_fa (ho f hf)
 rw[←hT]at g3
 rw[hSl]at vl
 obtain ⟨n,hn⟩:∃n,n=L.length:=⟨_,rfl⟩
 rw[←hn]at hSl hn64 hTl vl ul
 have n0:(0:Int)≤(n:Int):=by omega
 have nT:((n:Int)).toNat=n:=by omega
 have hz:(repN [.int .i64 0] n).map AV.ext=cE natV (List.replicate n 0):=cE_rep natV n 0
 refine Stop.go ?_
 (try with_reducible refine Fz.of ?_);refine Go1.mk ?_;repeat' ((first|(with_reducible refine Go1.go ?_)|(refine And.intro ?_ ?_;(try simp only[sxO]at *);omega)|fail)<;>(try simp (maxSteps:=1000000) only [uo,ul,us,vo,vl,vs,n0,nT,hz,maxLen,cE_ment,cE_kill,hasK_nil,↓hold_pre,awayP,runOps,regK,step1,newK,genR,appR,obl,buildR,Value.cells,closeK,keepH,outV,retK,ret1,retC,RetV,Option.getD,runD,stepD,afterK,undef,simprocAttr,sxB,↓sxD,sxE,sxTab]))
 have hR0:∀a b,lkB (sgK T d a) (sgK T d b)=true↔lnkR T d a b:=fun a b=>lkB_iff
 refine ⟨fun k z=>∃i,k=n-i∧i≤n∧z=rpA M1 u v d n i (List.range i++List.replicate (n-i) 0),⟨n,rpA M1 u v d n 0 (List.replicate n 0),le_sub ⟨rfl,rfl,rfl,rfl,rfl,trivial⟩ ⟨rfl,trivial⟩ rfl rfl rfl (keepLt0 _),⟨0,by omega,by omega,rfl⟩⟩,?_⟩
 rintro k z ⟨i,rfl,hi,rfl⟩
 by_cases hlt:i<n
 ·have y1:decide ((i:Int)<(n:Int))=true:=by rw[decide_eq_true_eq];omega
  have y2:(0:Int)≤(i:Int):=by omega
  have y3:(i:Int)<(n:Int):=by omega
  have wi:IntKind.i64.wrap ((i:Int)+1)=((i+1:Nat):Int):=by rw[wrap_id (by omega) (by omega)];omega
  have e4:(cE natV (List.range i++List.replicate (n-i) 0)).length=n:=by rw[cE_len];simp;omega
  have hset:(cE natV (List.range i++List.replicate (n-i) 0)).set i (.ext (.int .i64 (i:Int)))=cE natV (List.range (i+1)++List.replicate (n-(i+1)) 0):=by
   rw[show (AV.ext (.int .i64 (i:Int)))=.ext (natV i) from rfl,cE_set,List.set_append_right _ _ (by simp),List.length_range,Nat.sub_self,show n-i=n-(i+1)+1 by omega,List.replicate_succ,List.set_cons_zero,List.range_succ,List.append_assoc];rfl
  (try with_reducible refine Fz.of ?_);refine Go1.mk ?_;repeat' ((first|(with_reducible refine Go1.go ?_)|(refine And.intro ?_ ?_;(try simp only[sxO]at *);omega)|fail)<;>(try simp (maxSteps:=1000000) only [rpA,y1,y2,y3,wi,hlt,e4,hset,uo,ul,us,Nat.mul_one,Nat.zero_add,cE_ment,cE_kill,hasK_nil,↓hold_pre,awayP,runOps,regK,step1,newK,genR,appR,obl,buildR,Value.cells,closeK,keepH,outV,retK,ret1,retC,RetV,Option.getD,runD,stepD,afterK,undef,simprocAttr,sxB,↓sxD,sxE,sxTab]))
  exact ⟨n-(i+1),rpA M1 u v d n (i+1) _,by omega,le_sub ⟨rfl,rfl,rfl,rfl,rfl,trivial⟩ ⟨rfl,trivial⟩ rfl rfl rfl (keepLt0 _),i+1,rfl,by omega,rfl⟩
 obtain rfl:n=i:=by omega
 have y1:decide ((n:Int)<(n:Int))=false:=by simp
 rw[Nat.sub_self,List.replicate_zero,List.append_nil]
 (try with_reducible refine Fz.of ?_);refine Go1.mk ?_;repeat' ((first|(with_reducible refine Go1.go ?_)|(refine And.intro ?_ ?_;(try simp only[sxO]at *);omega)|fail)<;>(try simp (maxSteps:=1000000) only [rpA,y1,uo,ul,us,Nat.mul_one,Nat.zero_add,cE_ment,cE_kill,hasK_nil,↓hold_pre,awayP,runOps,regK,step1,newK,genR,appR,obl,buildR,Value.cells,closeK,keepH,outV,retK,ret1,retC,RetV,Option.getD,runD,stepD,afterK,undef,simprocAttr,sxB,↓sxD,sxE,sxTab]))
 clear hlt hi n0 nT hz
 refine ⟨fun z=>∃M' c,Mem.le M1 M'∧c.length=n∧(∀i,i<n→c.getD i 0≤i)∧Lab n (lnkR T d) (fun i=>c.getD i 0)∧z=rpB M' u v d n c false,?_,?_⟩
 ·(try with_reducible refine Fz.of ?_);refine Go1.mk ?_;repeat' ((first|(with_reducible refine Go1.go ?_)|(refine And.intro ?_ ?_;(try simp only[sxO]at *);omega)|fail)<;>(try simp (maxSteps:=1000000) only [uo,ul,us,Nat.mul_one,Nat.zero_add,cE_ment,cE_kill,hasK_nil,↓hold_pre,awayP,runOps,regK,step1,newK,genR,appR,obl,buildR,Value.cells,closeK,keepH,outV,retK,ret1,retC,RetV,Option.getD,runD,stepD,afterK,undef,simprocAttr,sxB,↓sxD,sxE,sxTab]))
  refine ⟨fun k z=>∃M' c b,k=c.sum+(if b=true then 1 else 0)∧Mem.le M1 M'∧RC n (lnkR T d) c∧(b=false→∀i k,i<n→k<n→lnkR T d i k→c.getD i 0≤c.getD k 0)∧z=rpB M' u v d n c b,⟨_,rpB M1 u v d n (List.range n) true,le_sub ⟨rfl,rfl,rfl,rfl,rfl,trivial⟩ ⟨rfl,trivial⟩ rfl rfl rfl (keepLt0 _),⟨M1,_,true,rfl,Mem.le.refl _,.init,(fun h=>by cases h),rfl⟩⟩,?_⟩
  rintro k z ⟨M2,c0,b,rfl,m2,hRC,hcl,rfl⟩
  cases b with
  | false=>
   (try with_reducible refine Fz.of ?_);refine Go1.mk ?_;repeat' ((first|(with_reducible refine Go1.go ?_)|(refine And.intro ?_ ?_;(try simp only[sxO]at *);omega)|fail)<;>(try simp (maxSteps:=1000000) only [rpB,uo,ul,us,Nat.mul_one,Nat.zero_add,cE_ment,cE_kill,hasK_nil,↓hold_pre,awayP,runOps,regK,step1,newK,genR,appR,obl,buildR,Value.cells,closeK,keepH,outV,retK,ret1,retC,RetV,Option.getD,runD,stepD,afterK,undef,simprocAttr,sxB,↓sxD,sxE,sxTab]))
   exact ⟨rpB M2 u v d n c0 false,le_sub ⟨rfl,rfl,rfl,rfl,rfl,trivial⟩ ⟨rfl,trivial⟩ rfl rfl rfl (keepLt0 _),M2,c0,m2,hRC.len,hRC.le,hRC.lab lnkR_symm (hcl rfl),rfl⟩
  | true=>
   clear hcl
   (try with_reducible refine Fz.of ?_);refine Go1.mk ?_;repeat' ((first|(with_reducible refine Go1.go ?_)|(refine And.intro ?_ ?_;(try simp only[sxO]at *);omega)|fail)<;>(try simp (maxSteps:=1000000) only [rpB,uo,ul,us,Nat.mul_one,Nat.zero_add,cE_ment,cE_kill,hasK_nil,↓hold_pre,awayP,runOps,regK,step1,newK,genR,appR,obl,buildR,Value.cells,closeK,keepH,outV,retK,ret1,retC,RetV,Option.getD,runD,stepD,afterK,undef,simprocAttr,sxB,↓sxD,sxE,sxTab]))
   refine ⟨fun k z=>∃M' c b i,k=n-i∧i≤n∧Mem.le M1 M'∧RQ n (lnkR T d) c0 c b i 0∧z=rpC M' u v d n i c b,⟨n,rpC M2 u v d n 0 c0 false,le_sub ⟨rfl,rfl,rfl,rfl,rfl,rfl,trivial⟩ ⟨rfl,trivial⟩ rfl rfl rfl (keepLt0 _),⟨M2,c0,false,0,by omega,by omega,m2,RQ.start hRC,rfl⟩⟩,?_⟩
   clear m2 hRC
   rintro k z ⟨M3,c,b,i,rfl,hi,m3,hRQ,rfl⟩
   by_cases hlt:i<n
   case neg=>
    obtain rfl:n=i:=by omega
    (try with_reducible refine Fz.of ?_);refine Go1.mk ?_;repeat' ((first|(with_reducible refine Go1.go ?_)|(refine And.intro ?_ ?_;(try simp only[sxO]at *);omega)|fail)<;>(try simp (maxSteps:=1000000) only [rpC,y1,uo,ul,us,Nat.mul_one,Nat.zero_add,cE_ment,cE_kill,hasK_nil,↓hold_pre,awayP,runOps,regK,step1,newK,genR,appR,obl,buildR,Value.cells,closeK,keepH,outV,retK,ret1,retC,RetV,Option.getD,runD,stepD,afterK,undef,simprocAttr,sxB,↓sxD,sxE,sxTab]))
    obtain ⟨r1,r2|r2⟩:=hRQ
    ·obtain ⟨rfl,rfl,r3,_⟩:=r2
     exact ⟨_,rpB M3 u v d n c false,by simp,le_sub ⟨rfl,rfl,rfl,rfl,rfl,trivial⟩ ⟨rfl,trivial⟩ rfl rfl rfl (keepLt0 _),M3,c,false,rfl,m3,r1,fun _ i k hi hk hR=>r3 i k hi hk hR,rfl⟩
    ·obtain ⟨rfl,r3⟩:=r2
     exact ⟨_,rpB M3 u v d n c true,by simp;omega,le_sub ⟨rfl,rfl,rfl,rfl,rfl,trivial⟩ ⟨rfl,trivial⟩ rfl rfl rfl (keepLt0 _),M3,c,true,rfl,m3,r1,(fun h=>by cases h),rfl⟩
   have x1:decide ((i:Int)<(n:Int))=true:=by rw[decide_eq_true_eq];omega
   have x2:(0:Int)≤(i:Int):=by omega
   have x3:(i:Int)<(n:Int):=by omega
   have wi:IntKind.i64.wrap ((i:Int)+1)=((i+1:Nat):Int):=by rw[wrap_id (by omega) (by omega)];omega
   (try with_reducible refine Fz.of ?_);refine Go1.mk ?_;repeat' ((first|(with_reducible refine Go1.go ?_)|(refine And.intro ?_ ?_;(try simp only[sxO]at *);omega)|fail)<;>(try simp (maxSteps:=1000000) only [rpC,x1,uo,ul,us,Nat.mul_one,Nat.zero_add,cE_ment,cE_kill,hasK_nil,↓hold_pre,awayP,runOps,regK,step1,newK,genR,appR,obl,buildR,Value.cells,closeK,keepH,outV,retK,ret1,retC,RetV,Option.getD,runD,stepD,afterK,undef,simprocAttr,sxB,↓sxD,sxE,sxTab]))
   refine ⟨fun q z=>∃M' c b k,q=n-k∧k≤n∧Mem.le M1 M'∧RQ n (lnkR T d) c0 c b i k∧z=rpD M' u v d n i k c b,⟨n,rpD M3 u v d n i 0 c b,le_sub ⟨rfl,rfl,rfl,rfl,rfl,rfl,rfl,trivial⟩ ⟨rfl,trivial⟩ rfl rfl rfl (keepLt0 _),⟨M3,c,b,0,by omega,by omega,m3,hRQ,rfl⟩⟩,?_⟩
   clear m3 hRQ
   rintro q z ⟨M4,c,b,k,rfl,hk,m4,hRQ,rfl⟩
   by_cases hkt:k<n
   case neg=>
    obtain rfl:n=k:=by omega
    (try with_reducible refine Fz.of ?_);refine Go1.mk ?_;repeat' ((first|(with_reducible refine Go1.go ?_)|(refine And.intro ?_ ?_;(try simp only[sxO]at *);omega)|fail)<;>(try simp (maxSteps:=1000000) only [rpD,y1,wi,uo,ul,us,Nat.mul_one,Nat.zero_add,cE_ment,cE_kill,hasK_nil,↓hold_pre,awayP,runOps,regK,step1,newK,genR,appR,obl,buildR,Value.cells,closeK,keepH,outV,retK,ret1,retC,RetV,Option.getD,runD,stepD,afterK,undef,simprocAttr,sxB,↓sxD,sxE,sxTab]))
    exact ⟨n-(i+1),rpC M4 u v d n (i+1) c b,by omega,le_sub ⟨rfl,rfl,rfl,rfl,rfl,rfl,trivial⟩ ⟨rfl,trivial⟩ rfl rfl rfl (keepLt0 _),M4,c,b,i+1,rfl,by omega,m4,hRQ.next,rfl⟩
   have z1:decide ((k:Int)<(n:Int))=true:=by rw[decide_eq_true_eq];omega
   have z2:(0:Int)≤(k:Int):=by omega
   have z3:(k:Int)<(n:Int):=by omega
   have wk:IntKind.i64.wrap ((k:Int)+1)=((k+1:Nat):Int):=by rw[wrap_id (by omega) (by omega)];omega
   have hcl:=hRQ.1.len
   have e4:(cE natV c).length=n:=by rw[cE_len];exact hcl
   have hai:=cE_at natV (show i<c.length by omega)
   have hak:=cE_at natV (show k<c.length by omega)
   have hgi:c.getD i 0=c[i]'(by omega):=by rw[List.getD_eq_getElem?_getD,List.getElem?_eq_getElem (by omega)];rfl
   have hgk:c.getD k 0=c[k]'(by omega):=by rw[List.getD_eq_getElem?_getD,List.getElem?_eq_getElem (by omega)];rfl
   rw[←hgi]at hai
   rw[←hgk]at hak
   clear hgi hgk
   have hset:(cE natV c).set i (.ext (.int .i64 ((c.getD k 0:Nat):Int)))=cE natV (c.set i (c.getD k 0)):=cE_set natV c i _
   have hch:=fun hR hl=>hRQ.change hlt hkt hR hl
   have hst:=fun hno=>hRQ.stay hno
   clear hRQ
   generalize c.getD i 0=ci at *
   generalize c.getD k 0=ck at *
   by_cases hcc:ck<ci
   case neg=>
    have d1:decide ((ck:Int)<(ci:Int))=false:=by rw[decide_eq_false_iff_not];omega
    (try with_reducible refine Fz.of ?_);refine Go1.mk ?_;repeat' ((first|(with_reducible refine Go1.go ?_)|((with_reducible refine isDraw [some 52,some 53,some 54,some 55,some 56,some 57,some 58,some 59,some 60,some 61,some 62,some 63,some 64,some 65,some 66,some 67,some 68,some 69,some 70,some 71,some 72] (by decide) ?_);refine draw_rule [(0,[]),(1,[]),(2,[]),(3,[]),(4,[3]),(5,[3]),(6,[3]),(7,[3]),(8,[]),(9,[]),(10,[]),(11,[]),(12,[]),(13,[]),(14,[13]),(15,[13]),(16,[13]),(17,[13]),(18,[13,17]),(19,[]),(20,[])] [[],[],[0,1],[0,1,2],[],[],[4,5],[4,5,6],[0,1,2,3,4,5,6,7],[0,1,2,3,4,5,6,7,8],[0,1,2,3,4,5,6,7,8,9],[0,1,2,3,4,5,6,7,8,9],[0,1,2,3,4,5,6,7,8,9,10,11],[0,1,2,3,4,5,6,7,8,9,10,11,12],[0,1,2,3,4,5,6,7,8,9],[0,1,2,3,4,5,6,7,8,9],[0,1,2,3,4,5,6,7,8,9,14,15],[0,1,2,3,4,5,6,7,8,9,14,15,16],[0,1,2,3,4,5,6,7,8,9],[0,1,2,3,4,5,6,7,8,9,10,11,12,13,14,15,16,17,18],[0,1,2,3,4,5,6,7,8,9,10,11,12,13,14,15,16,17,18,19]] [52,53,54,55,56,57,58,59,62,63,64,65,66,67,68,69,70] [] (by kernel_rfl) (by kernel_rfl) (by kernel_rfl) (by kernel_rfl) (by exact trivial) ?_)|(refine And.intro ?_ ?_;(try simp only[sxO]at *);omega)|fail)<;>(try simp (maxSteps:=1000000) only [rpD,natV,z1,z2,z3,x2,x3,e4,hai,hak,d1,wk,uo,ul,us,vo,vl,vs,Nat.mul_one,Nat.zero_add,cE_ment,cE_kill,hasK_nil,↓hold_pre,awayP,runOps,regK,step1,newK,genR,appR,obl,buildR,Value.cells,closeK,keepH,outV,retK,ret1,retC,RetV,Option.getD,runD,stepD,afterK,undef,simprocAttr,sxB,↓sxD,sxE,sxTab]))
    exact ⟨n-(k+1),rpD M4 u v d n i (k+1) c b,by omega,le_sub ⟨rfl,rfl,rfl,rfl,rfl,rfl,rfl,trivial⟩ ⟨rfl,trivial⟩ rfl rfl rfl (keepLt0 _),M4,c,b,k+1,rfl,by omega,m4,hst fun h=>hcc h.2,rfl⟩
   have d1:decide ((ck:Int)<(ci:Int))=true:=by rw[decide_eq_true_eq];omega
   have g14:=g1.le m4
   have hiS:i<S.length:=by omega
   have hkS:k<S.length:=by omega
   have nni:=g14.nn hiS
   have nnk:=g14.nn hkS
   have ati:=g14.at (P:=Tryz.prog) (T:=41) (fun _=>rfl) tk41 tz41 hiS
   have atk:=g14.at (P:=Tryz.prog) (T:=41) (fun _=>rfl) tk41 tz41 hkS
   have osi:=g2 _ (List.getElem_mem hiS)
   have osk:=g2 _ (List.getElem_mem hkS)
   have kTi:sgK T d i=keysB S[i].m S[i].C d:=by
    rw[sgK_at (show i<T.length by omega)]
    have:T[i]'(by omega)=S[i].t:=by simp only[←g3,List.getElem_map]
    rw[this];rfl
   have kTk:sgK T d k=keysB S[k].m S[k].C d:=by
    rw[sgK_at (show k<T.length by omega)]
    have:T[k]'(by omega)=S[k].t:=by simp only[←g3,List.getElem_map]
    rw[this];rfl
   have oBi:okB S[i].m S[i].C:=hTok S[i].t (by rw[←g3];exact List.mem_map_of_mem (List.getElem_mem hiS))
   have oBk:okB S[k].m S[k].C:=hTok S[k].t (by rw[←g3];exact List.mem_map_of_mem (List.getElem_mem hkS))
   have hlk:=hR0 i k
   rw[kTi,kTk]at hlk
   clear kTi kTk
   generalize S[i]=si at *
   generalize S[k]=sk at *
   obtain ⟨mi,ui,Ci⟩:=si
   obtain ⟨mk,uk,Ck⟩:=sk
   have ati2:lookM Tryz.prog 41 M4 (elemP v 2 i)=some (.agg #[.string (bs mi),ui]):=ati
   have atk2:lookM Tryz.prog 41 M4 (elemP v 2 k)=some (.agg #[.string (bs mk),uk]):=atk
   clear ati atk
   have osi:IsL M1 sbV ui Ci:=osi
   have osk:IsL M1 sbV uk Ck:=osk
   have oui:=osi.one
   have ouk:=osk.one
   (try with_reducible refine Fz.of ?_);refine Go1.mk ?_;repeat' ((first|(with_reducible refine Go1.go ?_)|(((with_reducible refine isCall0 (f:=34) ?_);refine callA0_nil (by kernel_rfl) ?_;refine (rlinked_ok mi mk ui uk Ci Ck d (osi.le m4) (osk.le m4) oBi oBk (fun M5 m5=>Stop.mk ?_))))|((with_reducible refine isDraw [some 52,some 53,some 54,some 55,some 56,some 57,some 58,some 59,some 60,some 61,some 62,some 63,some 64,some 65,some 66,some 67,some 68,some 69,some 70,some 71,some 72] (by decide) ?_);refine draw_rule [(0,[]),(1,[]),(2,[]),(3,[]),(4,[3]),(5,[3]),(6,[3]),(7,[3]),(8,[]),(9,[]),(10,[]),(11,[]),(12,[]),(13,[]),(14,[13]),(15,[13]),(16,[13]),(17,[13]),(18,[13,17]),(19,[]),(20,[])] [[],[],[0,1],[0,1,2],[],[],[4,5],[4,5,6],[0,1,2,3,4,5,6,7],[0,1,2,3,4,5,6,7,8],[0,1,2,3,4,5,6,7,8,9],[0,1,2,3,4,5,6,7,8,9],[0,1,2,3,4,5,6,7,8,9,10,11],[0,1,2,3,4,5,6,7,8,9,10,11,12],[0,1,2,3,4,5,6,7,8,9],[0,1,2,3,4,5,6,7,8,9],[0,1,2,3,4,5,6,7,8,9,14,15],[0,1,2,3,4,5,6,7,8,9,14,15,16],[0,1,2,3,4,5,6,7,8,9],[0,1,2,3,4,5,6,7,8,9,10,11,12,13,14,15,16,17,18],[0,1,2,3,4,5,6,7,8,9,10,11,12,13,14,15,16,17,18,19]] [52,53,54,55,56,57,58,59,62,63,64,65,66,67,68,69,70] [] (by kernel_rfl) (by kernel_rfl) (by kernel_rfl) (by kernel_rfl) (by exact trivial) ?_)|(refine And.intro ?_ ?_;(try simp only[sxO]at *);omega)|fail)<;>(try simp (maxSteps:=1000000) only [rpD,natV,z1,z2,z3,x2,x3,e4,hai,hak,d1,wk,nni,nnk,ati2,atk2,oui,ouk,uo,ul,us,vo,vl,vs,Nat.mul_one,Nat.zero_add,cE_ment,cE_kill,hasK_nil,↓hold_pre,awayP,runOps,regK,step1,newK,genR,appR,obl,buildR,Value.cells,closeK,keepH,outV,retK,ret1,retC,RetV,Option.getD,runD,stepD,afterK,undef,simprocAttr,sxB,↓sxD,sxE,sxTab]))
   have m5:Mem.le M4 M5:=m5
   cases hll:lkB (keysB mi Ci d) (keysB mk Ck d) with
   | false=>
    refine Stop.go ?_
    (try with_reducible refine Fz.of ?_);refine Go1.mk ?_;repeat' ((first|(with_reducible refine Go1.go ?_)|(refine And.intro ?_ ?_;(try simp only[sxO]at *);omega)|fail)<;>(try simp (maxSteps:=1000000) only [hll,wk,uo,ul,us,vo,vl,vs,Nat.mul_one,Nat.zero_add,cE_ment,cE_kill,hasK_nil,↓hold_pre,awayP,runOps,regK,step1,newK,genR,appR,obl,buildR,Value.cells,closeK,keepH,outV,retK,ret1,retC,RetV,Option.getD,runD,stepD,afterK,undef,simprocAttr,sxB,↓sxD,sxE,sxTab]))
    exact ⟨n-(k+1),rpD M5 u v d n i (k+1) c b,by omega,le_sub ⟨rfl,rfl,rfl,rfl,rfl,rfl,rfl,trivial⟩ ⟨rfl,trivial⟩ rfl rfl rfl (keepLt0 _),M5,c,b,k+1,rfl,by omega,m4.trans m5,hst (fun h=>by rw[hlk.2 h.1]at hll;cases hll),rfl⟩
   | true=>
    have hR:=hlk.1 hll
    refine Stop.go ?_
    (try with_reducible refine Fz.of ?_);refine Go1.mk ?_;repeat' ((first|(with_reducible refine Go1.go ?_)|(refine And.intro ?_ ?_;(try simp only[sxO]at *);omega)|fail)<;>(try simp (maxSteps:=1000000) only [hll,natV,hset,x2,x3,hlt,z2,z3,e4,hak,wk,uo,ul,us,vo,vl,vs,Nat.mul_one,Nat.zero_add,cE_ment,cE_kill,hasK_nil,↓hold_pre,awayP,runOps,regK,step1,newK,genR,appR,obl,buildR,Value.cells,closeK,keepH,outV,retK,ret1,retC,RetV,Option.getD,runD,stepD,afterK,undef,simprocAttr,sxB,↓sxD,sxE,sxTab]))
    exact ⟨n-(k+1),rpD M5 u v d n i (k+1) _ true,by omega,le_sub ⟨rfl,rfl,rfl,rfl,rfl,rfl,rfl,trivial⟩ ⟨rfl,trivial⟩ rfl rfl rfl (keepLt0 _),M5,_,true,k+1,rfl,by omega,m4.trans m5,hch hR hcc,rfl⟩
 ·rintro z ⟨M2,c,m2,hcl,hcle,hlab,rfl⟩
  refine Fz.flat (k:=28) (n:=n) (w:=1) (T:=3) 8 (c.map natV) [(6,.ext v),(0,.ext u),(1,.ext (.int .i64 d))] [] rfl (by simp[lkH,rpB,cE]) (by rw[List.length_map,hcl,Nat.mul_one]) (Nat.zero_le _) ⟨rfl,rfl,rfl,trivial⟩ rfl trivial rfl (keepLt0 _) (fun j hj _=>absurd hj (Nat.not_lt_zero _)) (fun M3 w m3 hw _=>?_)
  have m3:Mem.le M2 M3:=m3
  have hw:IsL M3 natV w c:=by unfold IsL;rw[hcl];exact hw
  have m13:=m2.trans m3
  have wo:=hw.one
  have wl:=hw.len
  have ws:=hw.sl
  obtain ⟨f,hf⟩:∃f:Nat→Nat,f=fun i=>c.getD i 0:=⟨_,rfl⟩
  rw[←hf]at hlab
  have hfc:∀i (h:i<c.length),c[i]=f i:=fun i h=>by rw[hf];simp[h]
  have hfle:∀i,i<n→f i≤i:=fun i hi=>by rw[hf];exact hcle i hi
  clear hf hcle
  obtain ⟨Q,hQ⟩:∃Q:List GO,Q=grpO T f:=⟨_,rfl⟩
  have hQG:GrpO T d Q:=⟨f,by rw[hTl];exact hlab,hQ⟩
  have hTS:∀j,j<n→T.getD j ([],[])=(S.getD j sgZ).t:=fun j hj=>by
   rw[←g3,List.getD_eq_getElem?_getD,List.getElem?_map,List.getD_eq_getElem?_getD,List.getElem?_eq_getElem (show j<S.length by omega)];rfl
  have hSI:∀j,j<n→IsL M1 sbV (S.getD j sgZ).u (S.getD j sgZ).C∧(S.getD j sgZ).C.length<4000000000000000000:=fun j hj=>by
   have e:S.getD j sgZ∈S:=by rw[List.getD_eq_getElem?_getD,List.getElem?_eq_getElem (show j<S.length by omega)];exact List.getElem_mem _
   have h6:=(hTok (S.getD j sgZ).t (by rw[←g3];exact List.mem_map_of_mem e)).2.1
   have h6:(S.getD j sgZ).C.length<_:=h6
   exact ⟨g2 _ e,Nat.lt_of_lt_of_le h6 (by decide)⟩
  have hSat:∀{M':Mem} (h:Mem.le M1 M') j,j<n→nilS v=false∧lookM Tryz.prog 41 M' (elemP v 2 j)=some (.agg #[.string (bs (S.getD j sgZ).m),(S.getD j sgZ).u]):=fun h j hj=>by
   have g:=g1.le h
   have hjS:j<S.length:=by omega
   have at':=g.at (P:=Tryz.prog) (T:=41) (fun _=>rfl) tk41 tz41 hjS
   have e:S.getD j sgZ=S[j]:=by rw[List.getD_eq_getElem?_getD,List.getElem?_eq_getElem hjS];rfl
   rw[e]
   exact ⟨g.nn hjS,at'⟩
  (try with_reducible refine Fz.of ?_);refine Go1.mk ?_;repeat' ((first|(with_reducible refine Go1.go ?_)|(refine And.intro ?_ ?_;(try simp only[sxO]at *);omega)|fail)<;>(try simp (maxSteps:=1000000) only [rpB,uo,ul,us,wo,wl,ws,vo,Nat.mul_one,Nat.zero_add,cE_ment,cE_kill,hasK_nil,↓hold_pre,awayP,runOps,regK,step1,newK,genR,appR,obl,buildR,Value.cells,closeK,keepH,outV,retK,ret1,retC,RetV,Option.getD,runD,stepD,afterK,undef,simprocAttr,sxB,↓sxD,sxE,sxTab]))
  refine ⟨fun k z=>∃M' X i r,k=n-i∧i≤n∧Mem.le M3 M'∧(∀g∈X,okGX M' g)∧X.map GX.o=(rootsU f i).map (fun r=>(T.getD (bestU (ltG T) f n r) ([],[]),memU f n r))∧r=X.length∧z=rpE M' u v w i r X,
   ⟨n,rpE M3 u v w 0 0 [],(le_nil 13 132 43 3 rfl (.inl rfl)).trans (le_sub ⟨rfl,rfl,rfl,rfl,rfl,trivial⟩ ⟨rfl,trivial⟩ rfl rfl rfl (keepLt0 _)),⟨M3,[],0,0,by omega,by omega,Mem.le.refl _,(fun g hg=>by cases hg),rfl,rfl,rfl⟩⟩,?_⟩
  rintro k z ⟨M4,X,i,r,rfl,hi,m4,hX,hXO,hr,rfl⟩
  have lX:=gxF_len X
  rw[←hr]at lX
  by_cases hlt:i<n
  case neg=>
   obtain rfl:n=i:=by omega
   have hQX:X.map GX.o=Q:=by rw[hXO,hQ];unfold grpO outU;rw[hTl,List.map_map];rfl
   (try with_reducible refine Fz.of ?_);refine Go1.mk ?_;repeat' ((first|(with_reducible refine Go1.go ?_)|(refine And.intro ?_ ?_;(try simp only[sxO]at *);omega)|fail)<;>(try simp (maxSteps:=1000000) only [rpE,y1,lX,gxF_ment,gxF_kill,uo,ul,us,vo,wo,hasK_nil,↓hold_pre,awayP,runOps,regK,step1,newK,genR,appR,obl,buildR,Value.cells,closeK,keepH,outV,retK,ret1,retC,RetV,Option.getD,runD,stepD,afterK,undef,simprocAttr,sxB,↓sxD,sxE,sxTab]))
   refine FrzF.tup [] [.int .i64 0] (X.flatMap GX.c) rfl (by rw[flat_len (z:=3) (fun _=>rfl),hr]) fun U M5 h1 h2 h3=>hK2 he U M5 Q (m1.trans (m13.trans (m4.trans h1))) (by rw[←hT];exact hQG) ⟨X,by unfold IsR;rw[←hr];exact h2,fun g hg=>(hX g hg).le h1,hQX⟩
  have x1:decide ((i:Int)<(n:Int))=true:=by rw[decide_eq_true_eq];omega
  have x2:(0:Int)≤(i:Int):=by omega
  have x3:(i:Int)<(n:Int):=by omega
  have wi:IntKind.i64.wrap ((i:Int)+1)=((i+1:Nat):Int):=by rw[wrap_id (by omega) (by omega)];omega
  have wi1:=(hw.le m4).idx (P:=Tryz.prog) (T:=3) tk3 tz3 (by omega) (show i<c.length by omega)
  rw[hfc i (by omega)]at wi1
  by_cases hfi:f i=i
  case neg=>
   have d1:decide (((f i:Nat):Int)=(i:Int))=false:=by rw[decide_eq_false_iff_not];omega
   have hrs:rootsU f (i+1)=rootsU f i:=by rw[rootsU_succ,if_neg hfi]
   (try with_reducible refine Fz.of ?_);refine Go1.mk ?_;repeat' ((first|(with_reducible refine Go1.go ?_)|(refine And.intro ?_ ?_;(try simp only[sxO]at *);omega)|fail)<;>(try simp (maxSteps:=1000000) only [rpE,natV,x1,x2,x3,wi1,d1,wi,lX,gxF_ment,gxF_kill,uo,ul,us,vo,wo,wl,ws,hasK_nil,↓hold_pre,awayP,runOps,regK,step1,newK,genR,appR,obl,buildR,Value.cells,closeK,keepH,outV,retK,ret1,retC,RetV,Option.getD,runD,stepD,afterK,undef,simprocAttr,sxB,↓sxD,sxE,sxTab]))
   exact ⟨n-(i+1),rpE M4 u v w (i+1) r X,by omega,le_sub ⟨rfl,rfl,rfl,rfl,rfl,trivial⟩ ⟨rfl,trivial⟩ rfl rfl rfl (keepLt0 _),M4,X,i+1,r,rfl,by omega,m4,hX,by rw[hrs];exact hXO,hr,rfl⟩
  have d1:decide (((f i:Nat):Int)=(i:Int))=true:=by rw[decide_eq_true_eq];omega
  have hrs:rootsU f (i+1)=rootsU f i++[i]:=by rw[rootsU_succ,if_pos hfi]
  obtain ⟨sn1,sn2⟩:=hSat (m13.trans m4) i hlt
  have si1:=(hSI i hlt).1.one
  have hfl:∀j,j<i→f j≤j:=fun j hj=>hfle j (by omega)
  (try with_reducible refine Fz.of ?_);refine Go1.mk ?_;repeat' ((first|(with_reducible refine Go1.go ?_)|(refine And.intro ?_ ?_;(try simp only[sxO]at *);omega)|fail)<;>(try simp (maxSteps:=1000000) only [rpE,natV,x1,x2,x3,wi1,d1,wi,sn1,sn2,si1,lX,gxF_ment,gxF_kill,uo,ul,us,vo,vl,vs,wo,wl,ws,hasK_nil,↓hold_pre,awayP,runOps,regK,step1,newK,genR,appR,obl,buildR,Value.cells,closeK,keepH,outV,retK,ret1,retC,RetV,Option.getD,runD,stepD,afterK,undef,simprocAttr,sxB,↓sxD,sxE,sxTab]))
  obtain ⟨bx,hbx⟩:∃bx:Nat→SG,∀k,bx k=S.getD (bestU (ltG T) f k i) sgZ:=⟨_,fun _=>rfl⟩
  refine ⟨fun z=>z=rpG M4 u v w i n r (memU f n i).length X (bx n).m (bx n).u (memU f n i),?_,?_⟩
  ·(try with_reducible refine Fz.of ?_);refine Go1.mk ?_;repeat' ((first|(with_reducible refine Go1.go ?_)|(refine And.intro ?_ ?_;(try simp only[sxO]at *);omega)|fail)<;>(try simp (maxSteps:=1000000) only [x1,x2,x3,lX,gxF_ment,gxF_kill,uo,ul,us,vo,vl,vs,wo,wl,ws,hasK_nil,↓hold_pre,awayP,runOps,regK,step1,newK,genR,appR,obl,buildR,Value.cells,closeK,keepH,outV,retK,ret1,retC,RetV,Option.getD,runD,stepD,afterK,undef,simprocAttr,sxB,↓sxD,sxE,sxTab]))
   refine ⟨fun q z=>∃k,q=n-k∧i≤k∧k≤n∧z=rpG M4 u v w i k r (memU f k i).length X (bx k).m (bx k).u (memU f k i),
    ⟨n-i,rpG M4 u v w i i r 0 X (S.getD i sgZ).m (S.getD i sgZ).u [],Le.trans (le_sub (s:=_) (z:=rpH M4 u v w i i r X (S.getD i sgZ).m (S.getD i sgZ).u) ⟨rfl,rfl,rfl,rfl,rfl,rfl,rfl,trivial⟩ ⟨rfl,rfl,trivial⟩ rfl rfl rfl (keepLt0 _)) (rpH_le _ _ _ _ _ _ _ _ _ _),⟨i,rfl,Nat.le_refl _,hi,by rw[hbx,bestU_none hfl (Nat.le_refl _),memU_none hfl (Nat.le_refl _)];rfl⟩⟩,?_⟩
   rintro q z ⟨k,rfl,hik,hk,rfl⟩
   have lM:(cE natV (memU f k i)).length=(memU f k i).length:=cE_len _ _
   by_cases hkt:k<n
   case neg=>
    obtain rfl:n=k:=by omega
    (try with_reducible refine Fz.of ?_);refine Go1.mk ?_;repeat' ((first|(with_reducible refine Go1.go ?_)|(refine And.intro ?_ ?_;(try simp only[sxO]at *);omega)|fail)<;>(try simp (maxSteps:=1000000) only [rpG,y1,lX,lM,gxF_ment,gxF_kill,cE_ment,cE_kill,uo,ul,us,vo,vl,vs,wo,wl,ws,hasK_nil,↓hold_pre,awayP,runOps,regK,step1,newK,genR,appR,obl,buildR,Value.cells,closeK,keepH,outV,retK,ret1,retC,RetV,Option.getD,runD,stepD,afterK,undef,simprocAttr,sxB,↓sxD,sxE,sxTab]))
    exact ⟨_,le_sub (z:=rpG M4 u v w i n r (memU f n i).length X (bx n).m (bx n).u (memU f n i)) ⟨rfl,rfl,rfl,rfl,rfl,rfl,rfl,trivial⟩ ⟨rfl,rfl,rfl,trivial⟩ rfl rfl rfl (keepLt0 _),rfl⟩
   have z1:decide ((k:Int)<(n:Int))=true:=by rw[decide_eq_true_eq];omega
   have z2:(0:Int)≤(k:Int):=by omega
   have z3:(k:Int)<(n:Int):=by omega
   have wk:IntKind.i64.wrap ((k:Int)+1)=((k+1:Nat):Int):=by rw[wrap_id (by omega) (by omega)];omega
   have wk1:=(hw.le m4).idx (P:=Tryz.prog) (T:=3) tk3 tz3 (by omega) (show k<c.length by omega)
   rw[hfc k (by omega)]at wk1
   by_cases hfk:f k=i
   case neg=>
    have d2:decide (((f k:Nat):Int)=(i:Int))=false:=by rw[decide_eq_false_iff_not];omega
    (try with_reducible refine Fz.of ?_);refine Go1.mk ?_;repeat' ((first|(with_reducible refine Go1.go ?_)|(refine And.intro ?_ ?_;(try simp only[sxO]at *);omega)|fail)<;>(try simp (maxSteps:=1000000) only [rpG,natV,z1,z2,z3,wk1,d2,wk,lX,lM,gxF_ment,gxF_kill,cE_ment,cE_kill,uo,ul,us,vo,vl,vs,wo,wl,ws,hasK_nil,↓hold_pre,awayP,runOps,regK,step1,newK,genR,appR,obl,buildR,Value.cells,closeK,keepH,outV,retK,ret1,retC,RetV,Option.getD,runD,stepD,afterK,undef,simprocAttr,sxB,↓sxD,sxE,sxTab]))
    exact ⟨n-(k+1),rpG M4 u v w i (k+1) r (memU f k i).length X (bx k).m (bx k).u (memU f k i),by omega,le_sub ⟨rfl,rfl,rfl,rfl,rfl,rfl,rfl,trivial⟩ ⟨rfl,rfl,rfl,trivial⟩ rfl rfl rfl (keepLt0 _),k+1,rfl,by omega,by omega,by rw[hbx,hbx,bestU_succ,memU_succ,if_neg hfk,if_neg hfk];rfl⟩
   have d2:decide (((f k:Nat):Int)=(i:Int))=true:=by rw[decide_eq_true_eq];omega
   obtain ⟨kn1,kn2⟩:=hSat (m13.trans m4) k hkt
   have sk1:=(hSI k hkt).1.one
   have hb1:bestU (ltG T) f k i<n:=bestU_lt hlt hk
   obtain ⟨sb1,sb2⟩:=hSI _ hb1
   obtain ⟨sk0,sk2⟩:=hSI _ hkt
   have hTb:=hTS _ hb1
   have hTk:=hTS _ hkt
   rw[←hbx k]at sb1 sb2 hTb
   have hml:(memU f k i).length≤k:=by
    have h2:=List.length_filter_le (fun j=>f j==i) (List.range k)
    rw[List.length_range]at h2
    exact h2
   have hlt1:ltG T k (bestU (ltG T) f k i)=decide (cmpG ((S.getD k sgZ).m,(S.getD k sgZ).C) ((bx k).m,(bx k).C)<0):=by
    show decide (cmpG (T.getD k ([],[])) (T.getD (bestU (ltG T) f k i) ([],[]))<0)=_
    rw[hTb,hTk];rfl
   have hbs:bestU (ltG T) f (k+1) i=if ltG T k (bestU (ltG T) f k i)=true then k else bestU (ltG T) f k i:=by rw[bestU_succ,if_pos hfk]
   have hms:memU f (k+1) i=memU f k i++[k]:=by rw[memU_succ,if_pos hfk]
   have hsn:cE natV (memU f k i)++[.ext (.int .i64 (k:Int))]=cE natV (memU f (k+1) i):=by rw[hms];exact cE_snoc natV _ k
   have hms2:(memU f (k+1) i).length=(memU f k i).length+1:=by rw[hms];simp
   have bu1:=sb1.one
   (try with_reducible refine Fz.of ?_);refine Go1.mk ?_;repeat' ((first|(with_reducible refine Go1.go ?_)|(((with_reducible refine isCall0 (f:=48) ?_);refine callA0_nil (by kernel_rfl) ?_;refine (refCompare_ok (S.getD k sgZ).m (bx k).m (S.getD k sgZ).u (bx k).u (S.getD k sgZ).C (bx k).C (sk0.le (m13.trans m4)) (sb1.le (m13.trans m4)) sk2 sb2 (Stop.mk ?_))))|((with_reducible refine isDraw [some 116,some 117,some 118,some 119,some 120,some 121,some 122,some 123] (by decide) ?_);refine draw_rule [(0,[]),(1,[]),(2,[]),(3,[]),(4,[3]),(5,[3]),(6,[]),(7,[])] [[],[],[0,1],[0,1,2],[],[4],[0,1,2,3,4,5],[0,1,2,3,4,5,6]] [116,117,118,119,120,121] [] (by kernel_rfl) (by kernel_rfl) (by kernel_rfl) (by kernel_rfl) (by exact trivial) ?_)|(refine And.intro ?_ ?_;(try simp only[sxO]at *);omega)|fail)<;>(try simp (maxSteps:=1000000) only [rpG,natV,z1,z2,z3,wk1,d2,wk,kn1,kn2,sk1,bu1,hsn,maxLen,lX,lM,gxF_ment,gxF_kill,cE_ment,cE_kill,cE_len,uo,ul,us,vo,vl,vs,wo,wl,ws,Nat.mul_one,Nat.zero_add,hasK_nil,↓hold_pre,awayP,runOps,regK,step1,newK,genR,appR,obl,buildR,Value.cells,closeK,keepH,outV,retK,ret1,retC,RetV,Option.getD,runD,stepD,afterK,undef,simprocAttr,sxB,↓sxD,sxE,sxTab]))
   obtain ⟨cz,hcz⟩:∃cz,cz=cmpG ((S.getD k sgZ).m,(S.getD k sgZ).C) ((bx k).m,(bx k).C):=⟨_,rfl⟩
   rw[←hcz]at hlt1 ⊢
   by_cases hc0:cz<0
   ·have d9:decide (cz<0)=true:=decide_eq_true hc0
    rw[hlt1,d9,if_pos rfl]at hbs
    have hbk:bx (k+1)=S.getD k sgZ:=by rw[hbx,hbs]
    refine Stop.go ?_
    (try with_reducible refine Fz.of ?_);refine Go1.mk ?_;repeat' ((first|(with_reducible refine Go1.go ?_)|(refine And.intro ?_ ?_;(try simp only[sxO]at *);omega)|fail)<;>(try simp (maxSteps:=1000000) only [z1,z2,z3,d9,wk,kn1,kn2,sk1,bu1,lX,lM,gxF_ment,gxF_kill,cE_ment,cE_kill,uo,ul,us,vo,vl,vs,wo,wl,ws,hasK_nil,↓hold_pre,awayP,runOps,regK,step1,newK,genR,appR,obl,buildR,Value.cells,closeK,keepH,outV,retK,ret1,retC,RetV,Option.getD,runD,stepD,afterK,undef,simprocAttr,sxB,↓sxD,sxE,sxTab]))
    exact ⟨n-(k+1),rpG M4 u v w i (k+1) r (memU f (k+1) i).length X (S.getD k sgZ).m (S.getD k sgZ).u (memU f (k+1) i),by omega,le_sub ⟨rfl,rfl,rfl,rfl,rfl,rfl,rfl,trivial⟩ ⟨by rw[hms2];rfl,rfl,rfl,trivial⟩ rfl rfl rfl (keepLt0 _),k+1,rfl,by omega,by omega,by rw[hbk]⟩
   ·have d9:decide (cz<0)=false:=decide_eq_false hc0
    rw[hlt1,d9,if_neg (by decide)]at hbs
    have hbk:bx (k+1)=bx k:=by rw[hbx,hbs,←hbx]
    refine Stop.go ?_
    (try with_reducible refine Fz.of ?_);refine Go1.mk ?_;repeat' ((first|(with_reducible refine Go1.go ?_)|(refine And.intro ?_ ?_;(try simp only[sxO]at *);omega)|fail)<;>(try simp (maxSteps:=1000000) only [z1,z2,z3,d9,wk,kn1,kn2,sk1,bu1,lX,lM,gxF_ment,gxF_kill,cE_ment,cE_kill,uo,ul,us,vo,vl,vs,wo,wl,ws,hasK_nil,↓hold_pre,awayP,runOps,regK,step1,newK,genR,appR,obl,buildR,Value.cells,closeK,keepH,outV,retK,ret1,retC,RetV,Option.getD,runD,stepD,afterK,undef,simprocAttr,sxB,↓sxD,sxE,sxTab]))
    exact ⟨n-(k+1),rpG M4 u v w i (k+1) r (memU f (k+1) i).length X (bx k).m (bx k).u (memU f (k+1) i),by omega,le_sub ⟨rfl,rfl,rfl,rfl,rfl,rfl,rfl,trivial⟩ ⟨by rw[hms2];rfl,rfl,rfl,trivial⟩ rfl rfl rfl (keepLt0 _),k+1,rfl,by omega,by omega,by rw[hbk]⟩
  ·rintro z rfl
   refine Fz.cellI (k:=114) (j:=15) (p0:=2) (n:=(memU f n i).length) (q:=1) (off:=0) (T:=3) (T0:=43) ((memU f n i).map natV) [(15,.own 15 0),(14,.ext (.int .i64 (i:Int))),(13,.slo 132 0 r 3),(8,.ext w),(6,.ext v),(0,.ext u)] [(132,43,gxF X)] rfl rfl (by simp[lkH,rpG,cE]) (by rw[List.length_map];omega) (Nat.zero_le _) (by decide) ⟨rfl,rfl,rfl,rfl,rfl,rfl,trivial⟩ (by simp[mentE,AV.ment]) ⟨rfl,trivial⟩ (by simp[mentH,gxF_ment]) (keepLt0 _) (fun j hj _=>absurd hj (Nat.not_lt_zero _)) (fun M5 um m5 hum _=>?_)
   have m5:Mem.le M4 M5:=m5
   have hum:IsL M5 natV um (memU f n i):=by
    rw[List.drop_zero,List.take_of_length_le (by rw[List.length_map];omega)]at hum
    exact hum
   have umo:=hum.one
   have hb1:bestU (ltG T) f n i<n:=bestU_lt hlt (Nat.le_refl _)
   obtain ⟨sb1,sb2⟩:=hSI _ hb1
   have hTb:=hTS _ hb1
   rw[←hbx n]at sb1 sb2 hTb
   have bu1:=sb1.one
   have hsn:=gxF_app X ⟨(bx n).m,(bx n).u,(bx n).C,um,memU f n i⟩
   have hr64:r≤64:=by
    have h1:=List.length_filter_le (fun j=>f j==j) (List.range i)
    rw[List.length_range]at h1
    have h2:(rootsU f i).length≤i:=h1
    have h3:=congrArg List.length hXO
    rw[List.length_map,List.length_map]at h3
    omega
   (try with_reducible refine Fz.of ?_);refine Go1.mk ?_;repeat' ((first|(with_reducible refine Go1.go ?_)|(refine And.intro ?_ ?_;(try simp only[sxO]at *);omega)|fail)<;>(try simp (maxSteps:=1000000) only [rpG,umo,bu1,hsn,wi,maxLen,lX,gxF_ment,gxF_kill,uo,ul,us,vo,vl,vs,wo,wl,ws,Nat.mul_one,Nat.zero_add,hasK_nil,↓hold_pre,awayP,runOps,regK,step1,newK,genR,appR,obl,buildR,Value.cells,closeK,keepH,outV,retK,ret1,retC,RetV,Option.getD,runD,stepD,afterK,undef,simprocAttr,sxB,↓sxD,sxE,sxTab]))
   exact ⟨n-(i+1),rpE M5 u v w (i+1) (r+1) (X++[⟨(bx n).m,(bx n).u,(bx n).C,um,memU f n i⟩]),by omega,le_sub ⟨rfl,rfl,rfl,rfl,rfl,trivial⟩ ⟨rfl,trivial⟩ rfl rfl rfl (keepLt0 _),M5,_,i+1,r+1,rfl,by omega,m4.trans m5,(fun g hg=>by
    rcases List.mem_append.1 hg with hg|hg
    ·exact (hX g hg).le m5
    ·rw[List.mem_singleton.1 hg];exact ⟨sb1.le (m13.trans (m4.trans m5)),hum⟩),by rw[hrs,List.map_append,List.map_append,hXO,List.map_cons,List.map_nil,List.map_cons,List.map_nil,hTb];rfl,by rw[List.length_append,hr];rfl,rfl⟩
end
end Go.Proofs.YtoblkpomikokhaaGreat.Sx
