/- Part 13 of the texts of this claim: a symbolic executor and contracts of functions. -/
import Derived.Test.YtjapnklocibgaaaOCiRCDc
namespace Go.Proofs.Ytjapnklocibgaaa.Sx
open Go Go.RowKit
set_option linter.unusedVariables false
set_option linter.unusedSimpArgs false
section
variable {P:Program}{c:Cx}{n:Nat}{s z:St}{ρ:Rho}{a:Act}{w:World}{ops:Array Oper}{A:List (List Nat)}{K:St→Prop}
def anc(A:List (List Nat))(j:Nat):List Nat:=A.getD j []
def Tot(ops:Array Oper)(A:List (List Nat))(i:Nat):Prop:=∀j,j<ops.size→j≠i→j∈anc A i∨i∈anc A j
def totB(ops:Array Oper)(A:List (List Nat))(i:Nat):Bool:=(List.range ops.size).all fun j=>j==i || ((anc A i).contains j || (anc A j).contains i)
theorem totB_ok{ops:Array Oper}{A:List (List Nat)}{i:Nat}(h:totB ops A i=true):Tot ops A i:=fun j hj hne=>by
 simp only[totB,List.all_eq_true,List.mem_range,Bool.or_eq_true,beq_iff_eq,List.contains_iff_mem]at h
 exact (h j hj).resolve_left hne
def isAddr:Op→Bool
 | .load _ _=>true
 | .store _ _ _=>true
 | .convert _ _ _=>true
 | .slice _ _ _ _ _=>true
 | _=>false
def isApp:Op→Bool
 | .call cl=>match cl.callee with
  | .builtin .append=>true
  | _=>false
 | _=>false
theorem addr_isAddr{op:Op}{k:Nat}(h:k∈addrL s op):isAddr op=true∨isApp op=true:=by
 cases op with
 | load T x=>exact .inl rfl
 | store T x y=>exact .inl rfl
 | convert S T x=>exact .inl rfl
 | slice T x lo hi mx=>exact .inl rfl
 | call cl=>
  right
  simp only[addrL]at h
  simp only[isApp]
  split at h
  ·rename_i e;rw[e]
  ·cases h
 | _=>simp[addrL]at h
theorem app_isApp{op:Op}{ts:List TypeId}{args:List AV}(h:tOp P s op=.gen (.app ts args)):isApp op=true:=by
 by_cases hs:softOp op=true
 ·have:=soft_ra (P:=P) (s:=s) hs
  rw[h]at this;exact this.elim
 ·cases op with
  | call cl=>
   simp only[tOp,callR]at h
   simp only[isApp]
   cases hc:cl.callee with
   | value g=>
    rw[hc]at h
    simp only[evC]at h
    split at h
    ·cases h
    ·cases h
    ·cases h
    ·rename_i e;cases e
    ·cases h
   | invoke r m=>rw[hc]at h;simp only[evC]at h;cases h
   | builtin b=>
    simp only[softOp,hc]at hs
    cases b<;>first|rfl|exact absurd rfl hs
  | store T x y=>
   simp only[tOp]at h
   exfalso
   unfold storeX at h
   split at h
   ·unfold storeH at h
    split at h
    ·unfold storeR at h
     revert h
     (repeat' split)<;>intro h<;>cases h
    ·cases h
   ·cases h
  | _=>exact absurd rfl hs
def Quiet(ops:Array Oper)(o:Oper):Prop:=isAddr o.op=false∧isApp o.op=false∧∀(k:Nat) (ok:Oper),ops[k]? = some ok→isApp ok.op=false
def quietB(ops:Array Oper)(o:Oper):Bool:=!(isAddr o.op)&&(!(isApp o.op)&&ops.toList.all fun k=>!(isApp k.op))
theorem quietB_ok{ops:Array Oper}{o:Oper}(h:quietB ops o=true):Quiet ops o:=by
 simp only[quietB,Bool.and_eq_true,Bool.not_eq_true',List.all_eq_true]at h
 exact ⟨h.1,h.2.1,fun k ok hk=>h.2.2 ok (by simpa using Array.mem_of_getElem? hk)⟩
theorem quiet_noClash{ops:Array Oper}{oi oj:Oper}{j:Nat}(h:Quiet ops oi)(hj:ops[j]? = some oj):NoClash s oi.op (tOp P s oj.op):=by
 refine ⟨fun k hk=>?_,fun k hk=>?_⟩
 ·rcases addr_isAddr hk with e|e
  ·rw[h.1]at e;cases e
  ·rw[h.2.1]at e;cases e
 ·cases hr:tOp P s oj.op with
  | gen G=>
   obtain ⟨ts,args⟩:=G
   have:=app_isApp hr
   rw[h.2.2 j oj hj]at this;cases this
  | _=>rw[hr]at hk;simp[killR]at hk
structure SepA (ops:Array Oper) (A:List (List Nat)):Prop where
 up:∀(j:Nat) (oj:Oper) (i:Nat),ops[j]? = some oj→i∈anc A j→∃e∈oj.after,Region.binds .any e=true∧(e.on=i∨i∈anc A e.on)∧e.on<j
 one:∀(i j:Nat) (oi oj:Oper) (d:Nat),ops[i]? = some oi→ops[j]? = some oj→oi.dst=some d→i≠j→oj.dst≠some d
 look:∀(i j:Nat) (oi oj:Oper) (d:Nat),ops[i]? = some oi→ops[j]? = some oj→oi.dst=some d→d∈oj.looksAt ops→i≠j∧(i∈anc A j∨(j∈anc A i∧(Tot ops A i∨Quiet ops oj)))
def Dn(ops:Array Oper)(L:Array Bool):Prop:=∀j oj,ops[j]? = some oj→L.getD j false=true→∀e∈oj.after,Region.binds .any e=true→L.getD e.on false=true
theorem dn_anc(S:SepA ops A){L:Array Bool}(hL:L.size=ops.size)(D:Dn ops L){i:Nat} :
  ∀j,(∀oj,ops[j]? = some oj→∀e∈oj.after,Region.binds .any e=true→L.getD e.on false=true)→j<ops.size→i∈anc A j→L.getD i false=true:=by
 intro j
 induction j using Nat.strongRecOn with
 | _ j ih=>
  intro hj hlt hi
  obtain ⟨oj,hoj⟩:∃oj,ops[j]? = some oj:=⟨ops[j],by simp[hlt]⟩
  obtain ⟨e,he,hb,h1,h2⟩:=S.up j oj i hoj hi
  have hl:=hj oj hoj e he hb
  rcases h1 with rfl|h1
  ·exact hl
  ·refine ih e.on h2 (fun oe hoe=>D e.on oe hoe hl) (by omega) h1
def okL(P:Program)(ops:Array Oper)(A:List (List Nat))(L:Array Bool)(j:Nat)(oj:Oper)(s:St):Prop:=
 plainR (tOp P s oj.op)∧∀i oi,ops[i]? = some oi→L.getD i false=true→i∉anc A j→NoClash s oi.op (tOp P s oj.op)
def anyT(P:Program)(ops:Array Oper)(A:List (List Nat))(K:St→Prop):Nat→Array Bool→St→Prop
 | 0,L,s=>Region.ready .any ops L=[]∧K s
 | f+1,L,s=>(Region.ready .any ops L=[]→K s)∧∀j∈Region.ready .any ops L,∀oj,ops[j]? = some oj→
   okL P ops A L j oj s∧stepD P ops.toList oj s (anyT P ops A K f (L.setIfInBounds j true)) oj.guard
theorem dep_plain{op:Op}(hp:plainR (tOp P s op))(h:∀x∈op.operands,ev s x=ev z x)(hk:∀k∈addrL s op,lkH s.hp k=lkH z.hp k)(hM:Mem.le s.M z.M):tOp P s op=tOp P z op:=by
 rcases tOp_dep (P:=P) h hk hM with e|e
 ·rw[e]at hp;exact hp.elim
 ·exact e
theorem step_closed{o:Oper}(hK:Closed K)(e:Eqv s z)(hp:plainR (tOp P s o.op))(h:stepD P ops.toList o s K o.guard):stepD P ops.toList o z K o.guard:=by
 obtain ⟨E,hE,kE⟩:=step_eff h
 have h1:∀t∈o.looksAt ops,lk s.env t=lk z.env t:=fun t _=>e.env t
 refine eff_step (E:=E) ?_ (effK_eqv hK e kE)
 rw[←dep_plain hp (ev_same h1) (fun k _=>e.hp k) (by rw[e.M];exact Mem.le.refl _),←guard_same h1]
 exact hE
theorem step_mono{o:Oper}{K K':St→Prop}(hK:∀s':St,(∀t,o.dst≠some t→(lk s.env t).ment=[]→(lk s'.env t).ment=[])→K s'→K' s')(h:stepD P ops.toList o s K o.guard):stepD P ops.toList o s K' o.guard:=by
 obtain ⟨E,hE,kE⟩:=step_eff h
 exact eff_step hE (effK_mono hK kE)
theorem noClash_of{oi:Op}{r:Res}(h1:∀x∈oi.operands,ev s x=ev z x)(h2:∀k∈addrL s oi,lkH z.hp k=lkH s.hp k)(h3:touchR z r=touchR s r)(h:NoClash s oi r):NoClash z oi r:=by
 have ha:=addr_same h1
 refine ⟨fun k hk=>by rw[h3];exact h.1 k (by rw[ha];exact hk),fun k hk=>?_⟩
 obtain ⟨g1,g2⟩:=h.2 k hk
 exact ⟨fun x hx=>by rw[←h1 x hx];exact g1 x hx,fun j hj T cs hl=>by rw[←off_same h1];exact g2 j (by rw[ha];exact hj) T cs (by rw[←h2 j (by rw[ha];exact hj)];exact hl)⟩
theorem okL_eqv{L:Array Bool}{j:Nat}{oj:Oper}(e:Eqv s z)(h:okL P ops A L j oj s):okL P ops A L j oj z:=by
 have h1:∀(o:Oper),∀t∈o.looksAt ops,lk s.env t=lk z.env t:=fun o t _=>e.env t
 have h2:=dep_plain h.1 (ev_same (h1 oj)) (fun k _=>e.hp k) (by rw[e.M];exact Mem.le.refl _)
 refine ⟨by rw[←h2];exact h.1,fun i oi hi hl ha=>?_⟩
 rw[←h2]
 refine noClash_of (ev_same (h1 oi)) (fun k _=>(e.hp k).symm) ?_ (h.2 i oi hi hl ha)
 cases tOp P s oj.op with
 | call f args=>simp only[touchR];exact (reach_agree fun k _=>e.hp k).symm
 | _=>rfl
theorem anyT_closed(hK:Closed K):∀f L,Closed (anyT P ops A K f L)
 | 0,L=>fun s z e h=>⟨h.1,hK _ _ e h.2⟩
 | f+1,L=>fun s z e h=>⟨fun h0=>hK _ _ e (h.1 h0),fun j hj oj hoj=>
   ⟨okL_eqv e (h.2 j hj oj hoj).1,step_closed (anyT_closed hK f _) e (h.2 j hj oj hoj).1.1 (h.2 j hj oj hoj).2⟩⟩
def Fresh(ops:Array Oper)(A:List (List Nat))(L:Array Bool)(s:St):Prop:=∀j oj d,ops[j]? = some oj→L.getD j false=false→oj.dst=some d→Tot ops A j∨(lk s.env d).ment=[]
theorem getD_lt{L:Array Bool}{i:Nat}(h:i<L.size)(d e:Bool):L.getD i d=L.getD i e:=by simp[h]
theorem set_size(L:Array Bool)(i:Nat):(L.setIfInBounds i true).size=L.size:=by simp
theorem set_self{L:Array Bool}{i:Nat}(h:i<L.size):(L.setIfInBounds i true).getD i false=true:=by simp[h]
theorem dn_set{L:Array Bool}{j:Nat}(D:Dn ops L)(hL:L.size=ops.size)(hj:j∈Region.ready .any ops L):Dn ops (L.setIfInBounds j true):=by
 intro k ok hk hl e he hb
 refine getD_set_true ?_
 by_cases hkj:j=k
 ·subst hkj
  obtain ⟨_,o,ho,hall⟩:=mem_ready.1 hj
  rw[hk]at ho;cases ho
  exact hall e he hb
 ·rw[getD_set_ne false hkj]at hl
  exact D k ok hk hl e he hb
theorem anyT_first(S:SepA ops A)(hK:Closed K){i:Nat}{oi:Oper}(hi:ops[i]? = some oi) :
  ∀(f:Nat) (L:Array Bool) (s:St),L.size=ops.size→Dn ops L→Fresh ops A L s→
   (∀k ok,ops[k]? = some ok→k≠i→L.getD k false=false→i∉anc A k→softOp oi.op=true)→
   i∈Region.ready .any ops L→okL P ops A L i oi s→
   stepD P ops.toList oi s (anyT P ops A K f (L.setIfInBounds i true)) oi.guard→anyT P ops A K (f+1) L s:=by
 intro f
 induction f with
 | zero=>
  intro L s hL D F hsoft hr hok H
  refine ⟨fun h=>(by rw[h]at hr;cases hr),fun j hj oj hoj=>?_⟩
  by_cases hji:j=i
  ·subst hji;rw[hi]at hoj;cases hoj;exact ⟨hok,H⟩
  ·have hjlt:j<ops.size:=(Array.getElem?_eq_some_iff.1 hoj).1
   have hilt:i<ops.size:=(Array.getElem?_eq_some_iff.1 hi).1
   obtain ⟨hj0,oj',hoj',hall⟩:=mem_ready.1 hj
   rw[hoj]at hoj';cases hoj'
   have hi0:=(mem_ready.1 hr).1
   rw[getD_lt (by omega) true false]at hj0 hi0
   have hna:i∉anc A j:=fun ha=>by
    have:=dn_anc S hL D j (fun o ho e he hb=>by rw[hoj]at ho;cases ho;exact hall e he hb) hjlt ha
    rw[hi0]at this;cases this
   have hs:=hsoft j oj hoj hji hj0 hna
   obtain ⟨E,hE,kE⟩:=step_eff H
   have hno:¬(Region.ready .any ops (L.setIfInBounds i true)=[]):=fun h0=>by
    have:=ready_mono hj hji
    rw[h0]at this;cases this
   rcases soft_put hs hE with ⟨v,rfl⟩|⟨T,cs,rfl,_⟩
   ·exact absurd kE.1 hno
   ·obtain ⟨t,_,_,k1⟩:=newE_of kE;exact absurd k1.1 hno
 | succ f ih=>
  intro L s hL D F hsoft hr hok H
  refine ⟨fun h=>(by rw[h]at hr;cases hr),fun j hj oj hoj=>?_⟩
  by_cases hji:j=i
  ·subst hji;rw[hi]at hoj;cases hoj;exact ⟨hok,H⟩
  ·have hjlt:j<ops.size:=(Array.getElem?_eq_some_iff.1 hoj).1
   have hilt:i<ops.size:=(Array.getElem?_eq_some_iff.1 hi).1
   obtain ⟨hj0,oj',hoj',hall⟩:=mem_ready.1 hj
   rw[hoj]at hoj';cases hoj'
   obtain ⟨hi0,oi',hoi',halli⟩:=mem_ready.1 hr
   rw[hi]at hoi';cases hoi'
   rw[getD_lt (by omega) true false]at hj0 hi0
   have hna:i∉anc A j:=fun ha=>by
    have:=dn_anc S hL D j (fun o ho e he hb=>by rw[hoj]at ho;cases ho;exact hall e he hb) hjlt ha
    rw[hi0]at this;cases this
   have hnb:j∉anc A i:=fun ha=>by
    have:=dn_anc S hL D i (fun o ho e he hb=>by rw[hi]at ho;cases ho;exact halli e he hb) hilt ha
    rw[hj0]at this;cases this
   have hnt:¬Tot ops A i:=fun ht=>(ht j hjlt hji).elim hnb hna
   have hs:=hsoft j oj hoj hji hj0 hna
   have hset:(L.setIfInBounds i true).getD i false=true:=set_self (by omega)
   have H2:stepD P ops.toList oi s (fun s1=>(plainR (tOp P s1 oj.op)∧NoClash s1 oi.op (tOp P s1 oj.op))∧
     stepD P ops.toList oj s1 (anyT P ops A K f ((L.setIfInBounds i true).setIfInBounds j true)) oj.guard) oi.guard:=by
    refine step_mono (fun s1 _ hk=>?_) H
    obtain ⟨h5,h6⟩:=hk.2 j (ready_mono hj hji) oj hoj
    exact ⟨⟨h5.1,h5.2 i oi hi hset hna⟩,h6⟩
   have q1:∀d,oi.dst=some d→d∉oj.looksAt ops:=fun d hd hl=>(S.look i j oi oj d hi hoj hd hl).2.elim hna fun h=>hnb h.1
   have q2:∀d,oi.dst=some d→oj.dst≠some d:=fun d hd=>S.one i j oi oj d hi hoj hd (Ne.symm hji)
   have q3:∀d,oj.dst=some d→d∉oi.looksAt ops:=fun d hd hl=>(S.look j i oj oi d hoj hi hd hl).2.elim hnb fun h=>hna h.1
   have q4:∀d,oi.dst=some d→d∉oi.looksAt ops:=fun d hd hl=>(S.look i i oi oi d hi hi hd hl).1 rfl
   obtain ⟨H3,hplj⟩:=swap (anyT_closed hK f _) q1 q2 q3 q4 (fun d hd=>(F i oi d hi hi0 hd).resolve_left hnt) hs hok.1 H2
   have hokj:okL P ops A L j oj s:=by
    obtain ⟨E,hE,kE⟩:=step_eff (step_mono (fun s1 _ hk=>hk.2 j (ready_mono hj hji) oj hoj) H)
    have conc:∀s1,(∀t,oi.dst≠some t→lk s1.env t=lk s.env t)→(∀k,(∃x,k∈(ev s x).ment)→lkH s1.hp k=lkH s.hp k)→s.M=s1.M→touchR s (tOp P s oj.op)=touchR s1 (tOp P s oj.op)→
      okL P ops A (L.setIfInBounds i true) j oj s1→okL P ops A L j oj s:=fun s1 he hh hM ht h5=>by
     have hl:∀t∈oj.looksAt ops,lk s.env t=lk s1.env t:=fun t ht=>(he t fun e=>q1 t e ht).symm
     have e1:=dep_plain hplj (ev_same hl) (fun k hk=>(hh k (by obtain ⟨x,_,hx⟩:=addr_ment hk;exact ⟨x,hx⟩)).symm) (by rw[hM];exact Mem.le.refl _)
     refine ⟨hplj,fun i' oi' hi' hl' ha'=>?_⟩
     have hlt':i'<ops.size:=(Array.getElem?_eq_some_iff.1 hi').1
     by_cases hqt:Quiet ops oi'
     ·exact quiet_noClash hqt hoj
     have h6:=h5.2 i' oi' hi' (getD_set_true hl') ha'
     rw[←e1]at h6
     have hsame:∀x∈oi'.op.operands,ev s1 x=ev s x:=ev_same (ops:=ops) fun t ht=>by
      refine he t fun e=>?_
      have:=dn_anc S hL D i' (fun o ho e he hb=>D i' o ho hl' e he hb) hlt' ((S.look i i' oi oi' t hi hi' e ht).2.resolve_right fun h=>h.2.elim hnt hqt)
      rw[hi0]at this;cases this
     refine noClash_of hsame (fun k hk=>(hh k ?_).symm) ht h6
     rw[addr_same hsame]at hk
     obtain ⟨x,_,hx⟩:=addr_ment hk
     exact ⟨x,hx⟩
    rcases soft_put hs hE with ⟨v,rfl⟩|⟨T,cs,rfl,_⟩
    ·refine conc _ (fun t ht=>put_lk ht) (fun k _=>by rw[put_hp]) put_M.symm ?_ kE.1
     cases tOp P s oj.op<;>simp only[touchR,put_hp]
    ·obtain ⟨t,hd,⟨_,a1⟩,k1⟩:=newE_of kE
     refine conc (newSt s t (s.kb+t) T cs) (fun j hj=>?_) (fun k hk=>?_) rfl ?_ k1.1
     ·simp only[newSt,lk];rw[if_neg fun e=>hj (by rw[hd,e])]
     ·obtain ⟨x,hx⟩:=hk
      simp only[newSt,lkH];rw[if_neg fun e=>away_ev a1.env x (by rw[e];exact hx)]
     ·have hra:=tOp_away (P:=P) (a1.op oj.op)
      generalize tOp P s oj.op=r at hra
      cases r with
      | call f args=>
       have hra:s.kb+t∉mentL args:=hra
       simp only[touchR]
       refine reach_agree fun k hk=>?_
       simp only[newSt,lkH];rw[if_neg fun e=>hra (by rw[e];exact hk)]
      | _=>rfl
   refine ⟨hokj,step_mono (fun s2 he hk=>?_) H3⟩
   rw[Array.setIfInBounds_comm _ _ (Ne.symm hji)]at hk
   refine ih (L.setIfInBounds j true) s2 (by rw[set_size];exact hL) (dn_set D hL hj) (fun k ok d hk0 hl0 hd=>?_) (fun k ok hk0 hki hl0 ha=>?_) (ready_mono hr (Ne.symm hji)) ⟨hk.1,fun i' oi' _ _ _=>?_⟩ hk.2
   ·have hkj:j≠k:=fun e=>by subst e;rw[set_self (by omega)]at hl0;cases hl0
    rw[getD_set_ne false hkj]at hl0
    exact (F k ok d hk0 hl0 hd).imp id (he d (fun e=>S.one k j ok oj d hk0 hoj hd (Ne.symm hkj) e))
   ·have hkj:j≠k:=fun e=>by subst e;rw[set_self (by omega)]at hl0;cases hl0
    rw[getD_set_ne false hkj]at hl0
    exact hsoft k ok hk0 hki hl0 ha
   ·have:=soft_ra (P:=P) (s:=s2) hs
    generalize tOp P s2 oi.op=r at this
    cases r<;>first|exact this.elim|exact ⟨fun k _=>by simp[touchR],fun k hk=>by simp[killR]at hk⟩
def keysOf(ops:List Oper)(s:St):List Nat→List Nat
 | []=>[]
 | i :: r=>match opAt ops i with
  | some o=>addrL s o.op++keysOf ops s r
  | none=>keysOf ops s r
def mentD(n:Nat):Option (TypeId×List AV)→List Nat
 | some (_,cs)=>mentL (cs.drop n)
 | none=>[]
def cellsD(n:Nat)(hp:Hp):List Nat→List Nat
 | []=>[]
 | k :: r=>mentD n (lkH hp k)++cellsD n hp r
def looksK(s:St)(op:Op):List Nat:=mentL (op.operands.toList.map (ev s))++cellsD (offL s op) s.hp (addrL s op)
def looksL(ops:List Oper)(s:St):List Nat→List Nat
 | []=>[]
 | i :: r=>match opAt ops i with
  | some o=>looksK s o.op++looksL ops s r
  | none=>looksL ops s r
def disj:List Nat→List Nat→Bool
 | [],_=>true
 | k :: r,ms=>!hasK k ms&&disj r ms
def okR(ops:List Oper)(s:St)(chk:List Nat):Res→Prop
 | .ask=>False
 | .bad=>False
 | .sto _ k _=>disj (keysOf ops s chk) [k]=true
 | .call _ args=>disj (keysOf ops s chk) (reachK s.hp (mentL args))=true
 | .gen (.app _ (x :: _))=>disj x.ment (looksL ops s chk)=true
 | _=>True
def runD(P:Program)(ops:List Oper):List (Nat×List Nat)→(St→Prop)→St→Prop
 | [],K,s=>K s
 | (j,chk) :: r,K,s=>match opAt ops j with
  | none=>False
  | some o=>obl (okR ops s chk (tOp P s o.op)) (stepD P ops o s (runD P ops r K) o.guard)
theorem runD_congr(P:Program)(ops:List Oper)(plan:List (Nat×List Nat))(K:St→Prop)(s s':St)(h:hold s=s'):runD P ops plan K s=runD P ops plan K s':=by subst h;rfl
theorem okR_congr(ops:List Oper)(s s':St)(chk:List Nat)(r r':Res)(hs:hold s=s')(h:hold r=r'):okR ops s chk r=okR ops s' chk r':=by subst hs;subst h;rfl
def planB(ops:Array Oper)(A:List (List Nat)):List (Nat×List Nat)→Array Bool→Bool
 | [],L=>(List.range ops.size).all fun j=>L.getD j false
 | (j,chk) :: r,L=>match ops[j]? with
  | none=>false
  | some oj=>!(L.getD j false)&&(oj.after.all (fun e=>!(Region.binds .any e) || L.getD e.on false) &&
    (((List.range ops.size).all fun i => match ops[i]? with
      | some oi=>!(L.getD i false) || ((anc A j).contains i || (chk.contains i || (!(isAddr oi.op)&&!(isApp oi.op)&&!(isApp oj.op))))
      | none=>true) &&
    (((List.range ops.size).all fun k=>k==j || (L.getD k false || ((anc A k).contains j || softOp oj.op)))&&planB ops A r (L.setIfInBounds j true))))
def sepB(ops:Array Oper)(A:List (List Nat)):Bool:=
 (List.range ops.size).all fun j=>match ops[j]? with
  | none=>false
  | some oj=>((anc A j).all fun i=>oj.after.any fun e=>Region.binds .any e&&((e.on==i || (anc A e.on).contains i)&&decide (e.on<j))) &&
   (List.range ops.size).all fun i=>match ops[i]? with
    | none=>false
    | some oi=>match oi.dst with
     | none=>true
     | some d=>(i==j || oj.dst != some d)&&(!((oj.looksAt ops).contains d) || (i != j&&((anc A j).contains i || ((anc A i).contains j&&(totB ops A i || quietB ops oj)))))
theorem sep_of(h:sepB ops A=true):SepA ops A:=by
 simp only[sepB,List.all_eq_true,List.mem_range]at h
 refine ⟨fun j oj i hj hi=>?_,fun i j oi oj d hi hj hd hne=>?_,fun i j oi oj d hi hj hd hl=>?_⟩
 ·have h1:=h j (Array.getElem?_eq_some_iff.1 hj).1
  simp only[hj,Bool.and_eq_true,List.all_eq_true]at h1
  have h2:=h1.1 i hi
  obtain ⟨e,he,hb⟩:=Array.any_eq_true'.1 h2
  simp only[Bool.and_eq_true,Bool.or_eq_true,beq_iff_eq,decide_eq_true_eq,List.contains_iff_mem]at hb
  exact ⟨e,he,hb.1,hb.2.1,hb.2.2⟩
 all_goals
  have h1:=h j (Array.getElem?_eq_some_iff.1 hj).1
  simp only[hj,Bool.and_eq_true,List.all_eq_true,List.mem_range]at h1
  have h2:=h1.2 i (Array.getElem?_eq_some_iff.1 hi).1
  simp only[hi,hd,Bool.and_eq_true,Bool.or_eq_true,beq_iff_eq,bne_iff_ne,List.contains_iff_mem,Bool.not_eq_true']at h2
 ·exact h2.1.resolve_left hne
 ·rcases h2.2 with h3|h3
  ·have:(oj.looksAt ops).contains d=true:=by simpa using hl
   rw[this]at h3;cases h3
  ·exact ⟨h3.1,h3.2.imp id fun h=>⟨h.1,h.2.imp totB_ok quietB_ok⟩⟩
theorem disj_ok{k:Nat}:∀{ks ms:List Nat},disj ks ms=true→k∈ks→k∉ms
 | j :: r,ms,h,hk=>by
  simp only[disj,Bool.and_eq_true,Bool.not_eq_true']at h
  rcases List.mem_cons.1 hk with rfl|hk
  ·exact hasK_no.1 h.1
  ·exact disj_ok h.2 hk
theorem keys_mem{l:List Oper}{i:Nat}{o:Oper}{k:Nat}(hi:l[i]? = some o)(hk:k∈addrL s o.op):∀chk:List Nat,i∈chk→k∈keysOf l s chk
 | [],h=>by cases h
 | j :: r,h=>by
  simp only[keysOf,opAt_eq]
  rcases List.mem_cons.1 h with rfl|h
  ·rw[hi];exact List.mem_append_left _ hk
  ·have:=keys_mem hi hk r h
   split
   ·exact List.mem_append_right _ this
   ·exact this
theorem looks_mem{l:List Oper}{i:Nat}{o:Oper}{k:Nat}(hi:l[i]? = some o)(hk:k∈looksK s o.op):∀chk:List Nat,i∈chk→k∈looksL l s chk
 | [],h=>by cases h
 | j :: r,h=>by
  simp only[looksL,opAt_eq]
  rcases List.mem_cons.1 h with rfl|h
  ·rw[hi];exact List.mem_append_left _ hk
  ·have:=looks_mem hi hk r h
   split
   ·exact List.mem_append_right _ this
   ·exact this
theorem cellsD_of{hp:Hp}{k j n:Nat}{T:TypeId}{cs:List AV}(hj:lkH hp j=some (T,cs))(hk:k∈mentL (cs.drop n)):∀{ks:List Nat},j∈ks→k∈cellsD n hp ks
 | i :: r,h=>by
  simp only[cellsD]
  rcases List.mem_cons.1 h with rfl|h
  ·rw[hj];exact List.mem_append_left _ hk
  ·exact List.mem_append_right _ (cellsD_of hj hk h)
theorem awayOp_of{k:Nat}{op:Op}(h:k∉looksK s op):AwayOp k s op:=by
 unfold looksK at h
 simp only[List.mem_append,not_or]at h
 exact ⟨fun x hx hm=>h.1 (mentL_of (List.mem_map.2 ⟨x,by simpa using hx,rfl⟩) hm),fun j hj T cs hl hm=>h.2 (cellsD_of hl hm hj)⟩
theorem okR_plain{l:List Oper}{chk:List Nat}{r:Res}(h:okR l s chk r):plainR r:=by
 cases r with
 | ask=>exact h.elim
 | bad=>exact h.elim
 | _=>trivial
theorem runD_any(S:SepA ops A){K K':St→Prop}(hK:Closed K')(hKK:∀s,K s→K' s):∀(plan:List (Nat×List Nat)) (L:Array Bool) (s:St),L.size=ops.size→Dn ops L→Fresh ops A L s→
  planB ops A plan L=true→runD P ops.toList plan K s→anyT P ops A K' plan.length L s
 | [],L,s,hL,D,F,hp,h=>by
  refine ⟨?_,hKK _ h⟩
  refine List.eq_nil_iff_forall_not_mem.2 fun j hj=>?_
  obtain ⟨h0,oj,hoj,_⟩:=mem_ready.1 hj
  have hlt:j<ops.size:=(Array.getElem?_eq_some_iff.1 hoj).1
  simp only[planB,List.all_eq_true,List.mem_range]at hp
  have:=hp j hlt
  rw[getD_lt (by omega) false true,h0]at this
  cases this
 | (j,chk) :: r,L,s,hL,D,F,hp,h=>by
  simp only[planB]at hp
  simp only[runD,opAt_eq,Array.getElem?_toList]at h
  cases hoj:ops[j]? with
  | none=>rw[hoj]at hp;cases hp
  | some oj=>
   rw[hoj]at hp h
   simp only[Bool.and_eq_true,Bool.not_eq_true',List.all_eq_true,List.mem_range,Bool.or_eq_true,beq_iff_eq,List.contains_iff_mem]at hp
   obtain ⟨p0,p1,p2,p3,p4⟩:=hp
   have o1:=okR_plain h.1
   have hlt:j<ops.size:=(Array.getElem?_eq_some_iff.1 hoj).1
   have hready:j∈Region.ready .any ops L:=by
    refine mem_ready.2 ⟨by rw[getD_lt (by omega) true false];exact p0,oj,hoj,fun e he hb=>?_⟩
    have:=Array.all_eq_true_iff_forall_mem.1 p1 e he
    simpa [hb] using this
   have hokj:okL P ops A L j oj s:=by
    refine ⟨o1,fun i oi hi hl ha=>?_⟩
    have hilt:i<ops.size:=(Array.getElem?_eq_some_iff.1 hi).1
    have h3:=p2 i hilt
    simp only[hi,hl,Bool.or_eq_true,Bool.not_eq_true',List.contains_iff_mem,Bool.true_eq_false,false_or,ha,Bool.and_eq_true]at h3
    have hi':ops.toList[i]? = some oi:=by rw[Array.getElem?_toList];exact hi
    have hok:=h.1
    have hchk:∀k∈addrL s oi.op,i∈chk:=fun k hk=>by
     rcases h3 with h3|h3
     ·exact h3
     ·rcases addr_isAddr hk with h4|h4
      ·rw[h3.1.1]at h4;cases h4
      ·rw[h3.1.2]at h4;cases h4
    constructor
    ·intro k hk
     have h5:=keys_mem (s:=s) hi' hk chk (hchk k hk)
     generalize tOp P s oj.op=r at hok
     cases r with
     | sto ob j cs=>exact disj_ok hok h5
     | call f args=>exact disj_ok hok h5
     | _=>simp[touchR]
    ·intro k hk
     cases hr:tOp P s oj.op with
     | gen G=>
      obtain ⟨ts,args⟩:=G
      cases args with
      | nil=>rw[hr]at hk;simp[killR]at hk
      | cons x q=>
       rw[hr]at hk hok
       have hin:i∈chk:=by
        rcases h3 with h3|h3
        ·exact h3
        ·have:=app_isApp hr;rw[h3.2]at this;cases this
       exact awayOp_of fun hm=>disj_ok hok hk (looks_mem hi' hm chk hin)
     | _=>rw[hr]at hk;simp[killR]at hk
   refine anyT_first S hK hoj r.length L s hL D F (fun k ok hk hkj hl ha=>?_) hready hokj ?_
   ·have hklt:k<ops.size:=(Array.getElem?_eq_some_iff.1 hk).1
    have h4:=p3 k hklt
    rcases h4 with h4|h4|h4|h4
    ·exact absurd h4 hkj
    ·rw[hl]at h4;cases h4
    ·exact absurd h4 ha
    ·exact h4
   ·refine step_mono (fun s' he hk=>?_) h.2
    refine runD_any S hK hKK r (L.setIfInBounds j true) s' (by rw[set_size];exact hL) (dn_set D hL hready) (fun k ok d hk0 hl0 hd=>?_) p4 hk
    have hkj:j≠k:=fun e=>by subst e;rw[set_self (by omega)]at hl0;cases hl0
    rw[getD_set_ne false hkj]at hl0
    exact (F k ok d hk0 hl0 hd).imp id (he d (fun e=>S.one k j ok oj d hk0 hoj hd (Ne.symm hkj) e))
theorem anyT_ok{Q:Exit→Act→World→Prop}(hd:∀o∈ops.toList,dOK n o.dst)(hK:∀s a w,K s→Ga c n s a w→Q .normal a w) :
  ∀(f:Nat) (L:Array Bool) (s:St) (a:Act) (w:World),anyT P ops A K f L s→Ga c n s a w→wpAny P .any ops Q f L a w
 | 0,L,s,a,w,h,g=>⟨h.1,hK _ _ _ h.2 g⟩
 | f+1,L,s,a,w,h,⟨ρ,g⟩=>by
  refine ⟨fun h0=>hK _ _ _ (h.1 h0) ⟨ρ,g⟩,fun j hj=>?_⟩
  unfold wpOp
  cases hoj:ops[j]? with
  | none=>obtain ⟨_,o,ho,_⟩:=mem_ready.1 hj;rw[hoj]at ho;cases ho
  | some oj=>
   have h1:=step1_ok (ops:=ops) (Kc:=wpAny P .any ops Q f (L.setIfInBounds j true)) (Q:=Q) (hd oj (by simpa using Array.mem_of_getElem? hoj)) g
    (fun s' a' w' hk hg=>anyT_ok hd hK f _ s' a' w' hk hg) (stepD_step (h.2 j hj oj hoj).2)
   simp only[]
   split
   ·rename_i hw;rw[if_pos hw]at h1;exact .inl h1
   ·rename_i hw;rw[if_neg hw]at h1;exact h1
def forgetD:List Nat→Env→Env
 | [],e=>e
 | d :: r,e=>(d,.unk) :: forgetD r e
def dstsB(ds qs:List Nat)(A:List (List Nat))(ops:Array Oper):Bool:=(List.range ops.size).all fun j=>match ops[j]? with
 | some o=>(match o.dst with|some d=>hasK d ds || (totB ops A j || hasK d qs)|none=>true)
 | none=>true
theorem forgetD_lk:∀(l:List Nat) (e:Env) (t:Nat),lk (forgetD l e) t=.unk∨lk (forgetD l e) t=lk e t
 | [],e,t=>.inr rfl
 | d :: r,e,t=>by
  simp only[forgetD,lk]
  split
  ·exact .inl rfl
  ·exact forgetD_lk r e t
theorem forgetD_dst:∀(l:List Nat) (e:Env) (d:Nat),d∈l→lk (forgetD l e) d=.unk
 | x :: r,e,d,h=>by
  simp only[forgetD,lk]
  split
  ·rfl
  ·rename_i hne
   exact forgetD_dst r e d (by rcases List.mem_cons.1 h with h|h;exact absurd h.symm hne;exact h)
theorem dstsB_ok{ds qs:List Nat}(h:dstsB ds qs A ops=true){j:Nat}{o:Oper}{d:Nat}(ho:ops[j]? = some o)(hd:o.dst=some d):d∈ds∨(Tot ops A j∨d∈qs):=by
 simp only[dstsB,List.all_eq_true,List.mem_range]at h
 have:=h j (Array.getElem?_eq_some_iff.1 ho).1
 simp only[ho,hd,Bool.or_eq_true]at this
 exact this.imp hasK_iff.1 fun h=>h.imp totB_ok hasK_iff.1
def noMent(e:Env):List Nat→Prop
 | []=>True
 | d :: r=>(lk e d).ment=[]∧noMent e r
theorem noMent_at{e:Env}{d:Nat}:∀{l:List Nat},noMent e l→d∈l→(lk e d).ment=[]
 | x :: r,h,hd=>by
  rcases List.mem_cons.1 hd with rfl|hd
  ·exact h.1
  ·exact noMent_at h.2 hd
theorem draw_rule(plan:List (Nat×List Nat))(A:List (List Nat))(ds qs:List Nat)(h1:sepB ops A=true)(h2:planB ops A plan (Array.replicate ops.size false)=true)(h3:plan.length=ops.size)(h4:dstsB ds qs A ops=true)(h5:noMent s.env qs)
  (h:runD P ops.toList plan K {env:=forgetD ds s.env,hp:=s.hp,M:=s.M,kb:=s.kb,fx:=s.fx,fr:=s.fr}):DrawK P ops s K:=by
 intro c n a w Q hd ⟨ρ,g⟩ hQ
 have S:=sep_of h1
 have g':Gam c n {env:=forgetD ds s.env,hp:=s.hp,M:=s.M,kb:=s.kb,fx:=s.fx,fr:=s.fr} ρ a w:=by
  refine {g with env:=fun t=>?_}
  rcases forgetD_lk ds s.env t with e|e
  ·rw[e];exact trivial
  ·rw[e];exact g.env t
 have hget:∀(j:Nat),(Array.replicate ops.size false).getD j false=false:=fun j=>by
  by_cases hj:j<ops.size<;>simp[hj]
 have e:∀L,wpAny P .any ops Q plan.length L a w→wpAny P .any ops Q ops.size L a w:=fun L h=>by rw[←h3];exact h
 refine e _ (anyT_ok (A:=A) (K:=fun s=>∃z,Eqv z s∧K z) hd (fun s a w hk hg=>?_) plan.length _ _ a w ?_ ⟨ρ,g'⟩)
 ·obtain ⟨z,e,hz⟩:=hk
  obtain ⟨ρ,hg⟩:=hg
  exact hQ z a w hz ⟨ρ,hg.eqv e.symm⟩
 ·refine runD_any S (K:=K) (fun s z e hk=>?_) (fun s hs=>⟨s,.refl s,hs⟩) plan _ _ (by simp) (fun j oj _ hl=>?_) (fun j oj d hj _ hd=>?_) h2 h
  ·obtain ⟨y,e',hy⟩:=hk
   exact ⟨y,e'.trans e,hy⟩
  ·rw[hget]at hl;cases hl
  ·rcases dstsB_ok h4 hj hd with h6|h6|h6
   ·right
    rw[forgetD_dst _ _ d h6];rfl
   ·exact .inl h6
   ·right
    rcases forgetD_lk ds s.env d with e|e
    ·show (lk (forgetD ds s.env) d).ment=[]
     rw[e];rfl
    ·show (lk (forgetD ds s.env) d).ment=[]
     rw[e];exact noMent_at h5 h6
end
end Go.Proofs.Ytjapnklocibgaaa.Sx
