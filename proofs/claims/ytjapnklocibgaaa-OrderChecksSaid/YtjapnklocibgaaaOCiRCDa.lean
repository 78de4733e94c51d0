/- Part 10 of the texts of this claim: a symbolic executor and contracts of functions. -/
import Derived.Test.YtjapnklocibgaaaOCiRCFun
namespace Go.Proofs.Ytjapnklocibgaaa.Sx
open Go Go.RowKit
set_option linter.unusedVariables false
set_option linter.unusedSimpArgs false
structure Eqv (s z:St):Prop where
  env:∀t,lk s.env t=lk z.env t
  hp:∀k,lkH s.hp k=lkH z.hp k
  M:s.M=z.M
  kb:s.kb=z.kb
  fx:s.fx=z.fx
  fr:s.fr=z.fr
theorem Eqv.refl(s:St):Eqv s s:=⟨fun _=>rfl,fun _=>rfl,rfl,rfl,rfl,rfl⟩
theorem Eqv.symm{s z:St}(h:Eqv s z):Eqv z s:=⟨fun t=>(h.env t).symm,fun k=>(h.hp k).symm,h.M.symm,h.kb.symm,h.fx.symm,h.fr.symm⟩
theorem Eqv.trans{s z y:St}(h:Eqv s z)(k:Eqv z y):Eqv s y:=⟨fun t=>(h.env t).trans (k.env t),fun j=>(h.hp j).trans (k.hp j),h.M.trans k.M,h.kb.trans k.kb,h.fx.trans k.fx,h.fr.trans k.fr⟩
theorem Eqv.put{s z:St}(h:Eqv s z)(d:Option Nat)(v:AV):Eqv (s.put d v) (z.put d v):=by
  cases d with
  | none=>exact h
  | some d=>exact ⟨fun t=>by simp only[St.put,lk,h.env t],h.hp,h.M,h.kb,h.fx,h.fr⟩
def Closed(K:St→Prop):Prop:=∀s z,Eqv s z→K s→K z
section
variable {P:Program}{c:Cx}{n:Nat}{s z:St}{ρ:Rho}{a:Act}{w:World}
theorem Gam.eqv(h:Gam c n s ρ a w)(e:Eqv s z):Gam c n z ρ a w where
  df:=h.df
  sz:=h.sz
  env:=fun t=>by rw[←e.env t];exact h.env t
  hp:=fun k T cs b hk hb=>by rw[←e.M];exact h.hp k T cs b (by rw[e.hp k];exact hk) hb
  no:=fun k T cs hk hb=>h.no k T cs (by rw[e.hp k];exact hk) hb
  inj:=fun k k' b b' hk hk'=>h.inj k k' b b' (by rw[e.hp k];exact hk) (by rw[e.hp k'];exact hk')
  os:=h.os
  tape:=h.tape
  output:=h.output
  size:=h.size
  block:=h.block
  sub:=by rw[←e.M];exact h.sub
  le:=by rw[←e.M];exact h.le
  mf:=by rw[←e.M];exact h.mf
  fix:=fun k hk=>by rw[←e.hp];exact h.fix k hk
  fx:=fun k hk=>h.fx k (by rw[e.fx];exact hk)
  kl:=by rw[←e.kb];exact h.kl
  fr:=by rw[←e.fr];exact h.fr
def ptrK:Option (Bool×Nat×Nat)→List Nat
  | some (_,k,_)=>[k]
  | none=>[]
def sloK:AV→List Nat
  | .slo k _ _ _=>[k]
  | _=>[]
def ownK:AV→List Nat
  | .own k _=>[k]
  | _=>[]
def addrL(s:St):Op→List Nat
  | .load _ x=>ptrK (ev s x).ptr?
  | .store _ x _=>ptrK (ev s x).ptr?
  | .convert _ _ x=>sloK (ev s x)
  | .slice _ x _ _ _=>ownK (ev s x)
  | .call c=>match c.callee with
    | .builtin .append=>mentL (c.args.toList.map (ev s))
    | _=>[]
  | _=>[]
def offP:Option (Bool×Nat×Nat)→Nat
  | some (_,_,off)=>off
  | none=>0
def offL(s:St):Op→Nat
  | .load _ x=>offP (ev s x).ptr?
  | _=>0
def sameD(n:Nat)(a b:Option (TypeId×List AV)):Prop:=a=b∨∃T cs cs',a=some (T,cs)∧b=some (T,cs')∧cs.length=cs'.length∧cs.drop n=cs'.drop n
theorem sameD_zero{a b:Option (TypeId×List AV)}(h:sameD 0 a b):a=b:=by
  rcases h with h|⟨T,cs,cs',h1,h2,_,h3⟩
  · exact h
  · rw[h1,h2,show cs=cs' from h3]
theorem loadR_same{T:TypeId}{cs cs':List AV}{off:Nat}(hl:cs.length=cs'.length)(hd:cs.drop off=cs'.drop off):loadR P T cs off=loadR P T cs' off:=by
  have h0:cs[off]? = cs'[off]?:=by
    have h1:(cs.drop off)[0]? = (cs'.drop off)[0]?:=by rw[hd]
    rw[List.getElem?_drop,List.getElem?_drop,Nat.add_zero]at h1
    exact h1
  unfold loadR
  rw[hl,hd,h0]
theorem loadH_same{T:TypeId}{g:Bool}{off:Nat}{a b:Option (TypeId×List AV)}(h:sameD off a b):loadH P T g off a=loadH P T g off b:=by
  rcases h with h|⟨T0,cs,cs',h1,h2,h3,h4⟩
  · rw[h]
  · rw[h1,h2];simp only[loadH];rw[loadR_same h3 h4]
theorem map_ev{l:List Operand}(h:∀x∈l,ev s x=ev z x):l.map (ev s)=l.map (ev z):=List.map_congr_left h
theorem bndO_dep{d:Int}{x:Option Operand}(h:∀y,x=some y→ev s y=ev z y):bndO s d x=bndO z d x:=by
  cases x with
  | none=>rfl
  | some y=>simp only[bndO,h y rfl]
theorem loadV_dep{T:TypeId}{g:Bool}{u:Value}(hM:Mem.le s.M z.M):put1 (some (g,u)) (loadV P s T)=.bad∨put1 (some (g,u)) (loadV P s T)=put1 (some (g,u)) (loadV P z T):=by
  cases h:lookM P T s.M u with
  | none=>left;simp[put1,loadV,h]
  | some v=>right;simp[put1,loadV,h,lookM_le hM h]
theorem mapM_le{M M':Mem}(h:Mem.le M M'){b:Nat}{key v:Value}(hv:mapM M b key=some v):mapM M' b key=some v:=by
  unfold mapM at hv ⊢
  cases hb:M b with
  | none=>rw[hb]at hv;cases hv
  | some o=>rw[hb]at hv;rw[h b o hb];exact hv
theorem tOp_depD{op:Op}(h:∀x∈op.operands,ev s x=ev z x)(hk:∀k∈addrL s op,sameD (offL s op) (lkH s.hp k) (lkH z.hp k))(hM:Mem.le s.M z.M):tOp P s op=.bad∨tOp P s op=tOp P z op:=by
  cases op
  case load T x=>
    have hx:ev s x=ev z x:=h x (by simp[Op.operands])
    simp only[tOp,←hx]
    have hk':∀k∈ptrK (ev s x).ptr?,sameD (offP (ev s x).ptr?) (lkH s.hp k) (lkH z.hp k):=hk
    cases hp:ev s x with
    | own k off=>right;simp only[loadX];rw[hp]at hk';exact loadH_same (hk' k (by simp[AV.ptr?,ptrK]))
    | gown g k off=>right;simp only[loadX];rw[hp]at hk';exact loadH_same (hk' k (by simp[AV.ptr?,ptrK]))
    | ext u=>exact loadV_dep hM
    | gd g u=>cases g with
      | true=>exact loadV_dep hM
      | false=>exact .inr rfl
    | _=>exact .inr rfl
  case store T x y=>
    right
    have hx:ev s x=ev z x:=h x (by simp[Op.operands])
    have hy:ev s y=ev z y:=h y (by simp[Op.operands])
    simp only[tOp,←hx,←hy]
    have hk':∀k∈ptrK (ev s x).ptr?,lkH s.hp k=lkH z.hp k:=fun k hj=>sameD_zero (hk k hj)
    cases hp:(ev s x).ptr? with
    | none=>rfl
    | some r=>obtain ⟨g,k,off⟩:=r;simp only[storeX,hk' k (by simp[hp,ptrK])]
  case convert S T x=>
    right
    have hx:ev s x=ev z x:=h x (by simp[Op.operands])
    simp only[tOp,←hx]
    have hk':∀k∈sloK (ev s x),lkH s.hp k=lkH z.hp k:=fun k hj=>sameD_zero (hk k hj)
    cases hp:ev s x with
    | slo k off n z2=>simp only[convX];rw[hk' k (by rw[hp];simp[sloK])]
    | _=>rfl
  case makeFunc fn first captured=>
    right
    have h1:first.toList.map (ev s)=first.toList.map (ev z):=map_ev fun x hx=>h x (by simp[Op.operands]at hx ⊢;exact .inl hx)
    have h2:captured.toList.map (ev s)=captured.toList.map (ev z):=map_ev fun x hx=>h x (by simp[Op.operands]at hx ⊢;exact .inr hx)
    simp only[tOp,h1,h2]
  case call cl=>
    right
    have h1:cl.args.toList.map (ev s)=cl.args.toList.map (ev z):=map_ev fun x hx=>h x (by simp[Op.operands,Call.operands]at hx ⊢;exact .inr hx)
    have h2:evC s cl.callee=evC z cl.callee:=by
      cases hc:cl.callee with
      | value g=>simp only[evC,h g (by simp[Op.operands,Call.operands,hc])]
      | builtin b=>rfl
      | invoke r m=>rfl
    simp only[tOp,h1,h2]
  case lookup T m x co=>
    cases co with
    | true=>exact .inr rfl
    | false=>
      have hm:ev s m=ev z m:=h m (by simp[Op.operands])
      have hx:ev s x=ev z x:=h x (by simp[Op.operands])
      simp only[tOp,←hm,←hx]
      unfold lkuR
      split
      · rename_i g k g' key e1 e2
        cases intBool P T with
        | false=>exact .inr rfl
        | true=>
          cases hv:mapM s.M k key with
          | none=>exact .inl rfl
          | some v=>right;simp only[mapM_le hM hv]
      · exact .inr rfl
  case pick x y z'=>right;simp only[tOp,h x (by simp[Op.operands]),h y (by simp[Op.operands]),h z' (by simp[Op.operands])]
  case slice T x lo hi mx=>
    right
    cases mx with
    | some _=>rfl
    | none=>
      have hx:ev s x=ev z x:=h x (by simp[Op.operands])
      have h1:∀d,bndO s d lo=bndO z d lo:=fun d=>bndO_dep fun y hy=>h y (by subst hy;simp[Op.operands])
      have h2:∀d,bndO s d hi=bndO z d hi:=fun d=>bndO_dep fun y hy=>h y (by subst hy;simp[Op.operands])
      simp only[tOp,←hx]
      have hk':∀k∈ownK (ev s x),lkH s.hp k=lkH z.hp k:=fun k hj=>sameD_zero (hk k hj)
      cases hp:ev s x with
      | own k off=>simp only[slcG_own];rw[hk' k (by rw[hp];simp[ownK])];unfold slcO;simp only[h1,h2]
      | _=>simp only[slcG];unfold slcR;simp only[h1,h2]
  all_goals right
  all_goals first
    | rfl
    | (rename_i b T x y Ty;simp only[tOp];rw[h x (by simp[Op.operands]),h y (by simp[Op.operands])];done)
    | (rename_i T x y;simp only[tOp];rw[h x (by simp[Op.operands]),h y (by simp[Op.operands])];done)
    | (simp only[tOp];rw[h _ (by simp[Op.operands])];done)
    | (simp only [tOp]
       congr 1
       refine List.map_congr_left fun p hp=>?_
       rw[h p.2 (by simp only[Op.operands,List.mem_toArray];exact List.mem_map_of_mem (f:=fun x:Nat×Operand=>x.2) hp)])
theorem tOp_dep{op:Op}(h:∀x∈op.operands,ev s x=ev z x)(hk:∀k∈addrL s op,lkH s.hp k=lkH z.hp k)(hM:Mem.le s.M z.M):tOp P s op=.bad∨tOp P s op=tOp P z op:=
  tOp_depD h (fun k hj=>.inl (hk k hj)) hM
theorem guardB_dep{ops:List Oper}{gd:Option (Nat×Bool)}(h:∀j want t,gd=some (j,want)→gslot ops j=some t→lk s.env t=lk z.env t):guardB ops s gd=guardB ops z gd:=by
  cases gd with
  | none=>rfl
  | some jw=>
    obtain ⟨j,want⟩:=jw
    simp only[guardB]
    cases hs:gslot ops j with
    | none=>rfl
    | some t=>simp only[h j want t rfl hs]
structure AwayOp (k:Nat) (s:St) (op:Op):Prop where
  ops:∀x∈op.operands,k∉(ev s x).ment
  hp:∀j∈addrL s op,∀T cs,lkH s.hp j=some (T,cs)→k∉mentL (cs.drop (offL s op))
def RA(k:Nat)(s:St)(op:Op):Res→Prop
  | .put _ v=>k∉v.ment
  | .sto _ j cs=>j∈addrL s op∧(lkH s.hp j).isSome=true∧j≠k∧k∉mentL cs
  | .new D cs=>k∉mentL cs
  | .call f args=>k∉mentL args
  | .gen (.app ts args)=>k∉mentL args
  | _=>True
variable {k:Nat}{op:Op}
theorem ra_put1{x:Option (Bool×Value)}{f:Value→Option (Prop×Value)}:RA k s op (put1 x f):=by
  unfold put1;split
  · split
    · simp[RA,AV.ment]
    · trivial
  · trivial
theorem ra_putA{x:Option (Bool×Value)}{f:Value→Option (Prop×Value)}:RA k s op (putA x f):=by
  unfold putA;split
  · split
    · simp[RA,AV.ment]
    · trivial
  · trivial
theorem ra_put2{x y:Option (Bool×Value)}{f:Value→Value→Option (Prop×Value)}:RA k s op (put2 x y f):=by
  unfold put2;split
  · split
    · simp[RA,AV.ment]
    · trivial
  · trivial
theorem ra_addOb{g:Bool}{r:Res}(h:RA k s op r):RA k s op (addOb g r):=by
  cases r<;>first|trivial|exact h
theorem vals_ment:∀{l:List AV} {vs:List Value},vals l=some vs→mentL l=[]
  | [],_,_=>rfl
  | .ext v :: r,vs,h=>by
    simp only[vals,Option.map_eq_some_iff]at h
    obtain ⟨x,hx,_⟩:=h
    simp[mentL,AV.ment,vals_ment hx]
  | .gd _ _ :: r,vs,h=>by simp[vals]at h
  | .own _ _ :: r,vs,h=>by simp[vals]at h
  | .gown _ _ _ :: r,vs,h=>by simp[vals]at h
  | .fn _ _ :: r,vs,h=>by simp[vals]at h
  | .bm _ _ :: r,vs,h=>by simp[vals]at h
  | .slo _ _ _ _ :: r,vs,h=>by simp[vals]at h
  | .ag _ _ :: r,vs,h=>by simp[vals]at h
  | .unk :: r,vs,h=>by simp[vals]at h
theorem aggA_ment(l:List AV):(aggA l).ment=mentL l:=by
  unfold aggA;split
  · rename_i vs h;rw[vals_ment h];rfl
  · simp[AV.ment]
theorem ra_load{T:TypeId}{cs:List AV}{off:Nat}(h:k∉mentL (cs.drop off)):RA k s op (loadR P T cs off):=by
  unfold loadR;split
  · show k∉(aggA _).ment
    rw[aggA_ment]
    exact fun hm=>h (mentL_take hm)
  · split
    · rename_i v hv;exact fun hm=>h (mentL_get (i:=0) (by rw[List.getElem?_drop,Nat.add_zero];exact hv) hm)
    · trivial
  · trivial
theorem mentL_set{l:List AV}{i:Nat}{v:AV}(h:k∉mentL l)(hv:k∉v.ment):k∉mentL (l.set i v):=fun hm=>by
  obtain ⟨x,hx,hk⟩:=mentL_mem hm
  rcases List.mem_or_eq_of_mem_set hx with h1|rfl
  · exact h (mentL_of h1 hk)
  · exact hv hk
theorem ptr_ment{v:AV}{g:Bool}{j off:Nat}(h:v.ptr? = some (g,j,off)):v.ment=[j]:=by
  cases v<;>simp[AV.ptr?]at h
  · obtain ⟨_,rfl,rfl⟩:=h;rfl
  · obtain ⟨rfl,rfl,rfl⟩:=h;rfl
theorem tOp_away(h:AwayOp k s op):RA k s op (tOp P s op):=by
  cases op with
  | move x=>exact h.ops x (by simp[Op.operands])
  | assign x=>exact h.ops x (by simp[Op.operands])
  | pick x y w=>simp only[tOp];unfold pickV;split<;>simp[RA,AV.ment]
  | binOp b T x y Ty=>exact ra_put2
  | unOp b T x=>exact ra_put1
  | index T x y=>exact ra_put2
  | convert S T x=>
    simp only[tOp]
    cases ev s x with
    | slo k off n z=>simp only[convX];unfold strH;(repeat' split)<;>first|trivial|simp[RA,AV.ment]
    | _=>simp only[convX];exact ra_putA
  | extract x i=>
    simp only[tOp]
    have hx:=h.ops x (by simp[Op.operands])
    unfold extR
    split
    · split
      · simp[RA,AV.ment]
      · trivial
    · rename_i g l hl
      split
      · rename_i v hv
        have:=unG_ment hl
        intro hm
        rw[←this]at hx
        exact hx (by simp only[AV.ment];exact mentL_get hv hm)
      · trivial
    · trivial
  | nilCheck x=>
    simp only[tOp]
    have hx:=h.ops x (by simp[Op.operands])
    unfold nilA
    split
    · simp[RA,AV.ment]
    · simp[RA,AV.ment]
    · rename_i e;rw[e]at hx;exact hx
    · rename_i e;rw[e]at hx;exact hx
    · trivial
  | fieldAddr S x f=>
    simp only[tOp]
    have hown:RA k s (.fieldAddr S x f) (fieldR P (fOff P S f) (ev s x).ptr?):=by
      unfold fieldR
      split
      · rename_i hp
        have hx:=h.ops x (by simp[Op.operands])
        rw[ptr_ment hp]at hx
        exact hx
      · trivial
    unfold fldA
    split
    · unfold fldV;split<;>simp[RA,AV.ment]
    · unfold fldV;split<;>simp[RA,AV.ment]
    · exact hown
  | load T x=>
    simp only[tOp]
    have hx:=h.ops x (by simp[Op.operands])
    have hh:∀j∈ptrK (ev s x).ptr?,∀T cs,lkH s.hp j=some (T,cs)→k∉mentL (cs.drop (offP (ev s x).ptr?)):=h.hp
    have key:∀g j off,(ev s x).ptr? = some (g,j,off)→RA k s (.load T x) (loadH P T g off (lkH s.hp j)):=fun g j off hp=>by
      cases hk:lkH s.hp j with
      | none=>trivial
      | some r=>
        have h9:=hh j (by rw[hp];simp[ptrK]) r.1 r.2 hk
        rw[hp]at h9
        exact ra_addOb (ra_load h9)
    cases hp:ev s x with
    | own j off=>exact key true j off (by rw[hp];rfl)
    | gown g j off=>exact key g j off (by rw[hp];rfl)
    | ext u=>simp only[loadX];exact ra_put1
    | gd g u=>cases g with
      | true=>simp only[loadX];exact ra_put1
      | false=>simp only[loadX];unfold zeroR;split<;>simp[RA,AV.ment]
    | _=>trivial
  | store T x y=>
    simp only[tOp]
    have hx:=h.ops x (by simp[Op.operands])
    have hy:=h.ops y (by simp[Op.operands])
    have hh:∀j∈ptrK (ev s x).ptr?,∀T cs,lkH s.hp j=some (T,cs)→k∉mentL cs:=h.hp
    cases hp:(ev s x).ptr? with
    | none=>trivial
    | some r=>
      obtain ⟨g,j,off⟩:=r
      simp only[storeX]
      cases hk:lkH s.hp j with
      | none=>trivial
      | some r=>
        have hc:=hh j (by rw[hp];simp[ptrK]) r.1 r.2 hk
        have hjk:j≠k:=fun e=>hx (by rw[ptr_ment hp,e];simp)
        have hin:j∈addrL s (.store T x y):=by simp[addrL,hp,ptrK]
        refine ra_addOb ?_
        unfold storeR
        split
        · split
          · rename_i l hl
            refine ⟨hin,by rw[hk];rfl,hjk,?_⟩
            simp only[mentL_append,List.mem_append,not_or]
            exact ⟨fun hm=>hc (mentL_take hm),by rw[cellsG_ment hl];exact hy,fun hm=>hc (mentL_drop hm)⟩
          · trivial
        · exact ⟨hin,by rw[hk];rfl,hjk,mentL_set hc hy⟩
        · trivial
  | makeFunc fn first cs=>
    simp only[tOp]
    unfold mkF
    split
    · simp only[RA,AV.ment]
      intro hm
      obtain ⟨v,hv,hk⟩:=mentL_mem hm
      obtain ⟨x,hx,rfl⟩:=List.mem_map.1 hv
      exact h.ops x (by simp[Op.operands];exact .inr (by simpa using hx)) hk
    · rename_i f y r h1
      split
      · simp only[RA,AV.ment]
        rw[←h1]
        intro hm
        obtain ⟨v,hv,hk⟩:=mentL_mem hm
        obtain ⟨x,hx,rfl⟩:=List.mem_map.1 hv
        exact h.ops x (by simp[Op.operands];exact .inl (by simpa using hx)) hk
      · trivial
    · trivial
  | call cl=>
    simp only[tOp]
    have hargs:k∉mentL (cl.args.toList.map (ev s)):=fun hm=>by
      obtain ⟨v,hv,hk⟩:=mentL_mem hm
      obtain ⟨x,hx,rfl⟩:=List.mem_map.1 hv
      exact h.ops x (by simp[Op.operands,Call.operands];exact .inr (by simpa using hx)) hk
    unfold callR
    split
    · rename_i f cs hc
      simp only[RA,mentL_append,List.mem_append,not_or]
      refine ⟨hargs,fun hm=>?_⟩
      cases hcc:cl.callee with
      | value g=>
        rw[hcc]at hc
        simp only[evC,Cl.val.injEq]at hc
        have:=h.ops g (by simp[Op.operands,Call.operands,hcc])
        rw[hc]at this
        exact this (by simp only[AV.ment];exact hm)
      | builtin b=>rw[hcc]at hc;cases hc
      | invoke r m=>rw[hcc]at hc;cases hc
    · rename_i f cs hc
      simp only[RA,mentL_append,List.mem_append,not_or]
      refine ⟨fun hm=>?_,hargs⟩
      cases hcc:cl.callee with
      | value g=>
        rw[hcc]at hc
        simp only[evC,Cl.val.injEq]at hc
        have:=h.ops g (by simp[Op.operands,Call.operands,hcc])
        rw[hc]at this
        exact this (by simp only[AV.ment];exact hm)
      | builtin b=>rw[hcc]at hc;cases hc
      | invoke r m=>rw[hcc]at hc;cases hc
    · simp[RA,AV.ment]
    · unfold bltR
      split
      · unfold lenR;split
        · simp[RA,AV.ment]
        · split
          · trivial
          · exact ra_put1
        · trivial
      · split
        · exact ra_put2
        · trivial
      · split
        · exact ra_put2
        · trivial
      · show k∉mentL (normL _)
        rw[mentL_norm];exact hargs
      · trivial
    · trivial
  | alloc T=>
    simp only[tOp];split
    · simp[RA,mentL_ext]
    · trivial
  | box T x=>
    simp only[tOp];unfold boxR;split
    · rename_i l hl
      simp only[RA]
      rw[cellsA_ment hl];exact h.ops x (by simp[Op.operands])
    · trivial
  | buildSlice T m ps=>
    simp only[tOp]
    have hp:∀p∈ps.toList.map (fun p=>(p.1,ev s p.2)),k∉p.2.ment:=fun p hp=>by
      obtain ⟨q,hq,rfl⟩:=List.mem_map.1 hp
      exact h.ops q.2 (by simp only[Op.operands,List.mem_toArray];exact List.mem_map_of_mem (f:=fun x:Nat×Operand=>x.2) hq)
    unfold buildSR;split
    · split
      · split
        · rename_i hb;exact buildL_ment _ _ _ _ hb (by rw[mentL_ext];simp) hp
        · trivial
      · trivial
    · trivial
  | build T ps=>
    simp only[tOp]
    have hp:∀p∈ps.toList.map (fun p=>(p.1,ev s p.2)),k∉p.2.ment:=fun p hp=>by
      obtain ⟨q,hq,rfl⟩:=List.mem_map.1 hp
      exact h.ops q.2 (by simp only[Op.operands,List.mem_toArray];exact List.mem_map_of_mem (f:=fun x:Nat×Operand=>x.2) hq)
    unfold buildR;split
    · split
      · rename_i hb
        show k∉(aggA _).ment
        rw[aggA_ment]
        exact buildL_ment _ _ _ _ hb (by rw[mentL_ext];simp) hp
      · trivial
    · trivial
  | field S x f=>
    simp only[tOp]
    have hx:=h.ops x (by simp[Op.operands])
    cases hu:unG (ev s x) with
    | none=>trivial
    | some r=>
      obtain ⟨g,v⟩:=r
      refine ra_addOb ?_
      rw[←unG_ment hu]at hx
      unfold fieldX
      split
      · rename_i l off T hl _
        have hl':k∉mentL l:=by rw[cellsG_ment hl];exact hx
        split
        · show k∉(aggA _).ment
          rw[aggA_ment]
          exact fun hm=>hl' (mentL_drop (mentL_take hm))
        · split
          · rename_i hv;exact fun hm=>hl' (mentL_get hv hm)
          · trivial
        · trivial
      · trivial
  | makeSlice T x y=>
    simp only[tOp];unfold makeR;split
    · split
      · simp[RA,mentL_ext]
      · trivial
    · trivial
  | indexAddr T x y=>
    simp only[tOp]
    have hx:=h.ops x (by simp[Op.operands])
    unfold idxR
    split
    · refine ra_addOb ?_
      unfold idxA
      split
      · split
        · split
          · rename_i e;rw[e]at hx;simpa [RA,AV.ment] using hx
          · simp[RA,AV.ment]
          · simp[RA,AV.ment]
          · trivial
        · trivial
      · split
        · split
          · rename_i e;rw[e]at hx;simpa [RA,AV.ment] using hx
          · trivial
        · trivial
    · trivial
  | slice T x lo hi mx=>
    cases mx with
    | some _=>trivial
    | none=>
      simp only[tOp]
      have hx:=h.ops x (by simp[Op.operands])
      have key:∀v:AV,k∉v.ment→RA k s (.slice T x lo hi none) (slcR P s T v lo hi):=fun v hx=>by
        unfold slcR
        split
        · split
          · simpa [RA,AV.ment] using hx
          · trivial
        · split
          · simp[RA,AV.ment]
          · trivial
        · split
          · simp[RA,AV.ment]
          · trivial
        · trivial
      unfold slcG
      split
      · exact ra_addOb (key _ (by simp[AV.ment]))
      · rename_i e
        rw[e]at hx
        unfold slcO
        (repeat' split)<;>first|trivial|(simpa [RA,AV.ment] using hx)
      · exact key _ hx
  | lookup T m x co=>
    cases co with
    | true=>trivial
    | false=>
      simp only[tOp];unfold lkuR;split
      · split
        · split
          · simp[RA,AV.ment]
          · trivial
        · trivial
      · trivial
  | _=>trivial
end
end Go.Proofs.Ytjapnklocibgaaa.Sx
