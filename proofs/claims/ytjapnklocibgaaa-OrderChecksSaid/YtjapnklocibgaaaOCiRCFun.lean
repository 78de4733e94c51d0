/- Part 9 of the texts of this claim: a symbolic executor and contracts of functions. -/
import Derived.Test.YtjapnklocibgaaaOCiRCVc
namespace Go.Proofs.Ytjapnklocibgaaa.Sx
open Go Go.RowKit
set_option linter.unusedVariables false
set_option linter.unusedSimpArgs false
def retC(P:Program)(s:St)(T:TypeId)(K:AV→Prop):AV→Prop
 | .own k off=>match lkH s.hp k with
  | some (_,cs)=>match loadR P T cs off with
   | .put ob v=>obl ob (K v)
   | _=>False
  | none=>False
 | _=>False
def ret1(P:Program)(s:St)(K:AV→Prop):ResultVar→Prop
 | .tmp t=>K (lk s.env t)
 | .cell x T=>retC P s T K (lk s.env x)
def retK(P:Program)(s:St):List ResultVar→(List AV→Prop)→Prop
 | [],K=>K []
 | r :: l,K=>ret1 P s (fun v=>retK P s l fun vs=>K (v :: vs)) r
def tupR:List AV→AV
 | [v]=>v
 | l=>tupA l
def keysH:Hp→List Nat
 | []=>[]
 | (k,_) :: r=>k :: keysH r
def inB(ks:List Nat):List Nat→Bool
 | []=>true
 | k :: r=>hasK k ks&&inB ks r
def closeK(K:AV→Hp→Mem→Prop)(v:AV)(M:Mem)(H':Hp):Prop:=obl (inB (keysH H') (v.ment++mentH H')=true) (K v H' M)
def keepH(s:St)(H:Hp)(v:AV):Hp:=subH s.hp (reachK s.hp (reachK s.hp (v.ment++keysH H)))
def outV(s:St)(fx:List Nat)(H:Hp)(K:AV→Hp→Mem→Prop)(v:AV):Prop:=obl (inB s.fx fx=true) (closeK K v s.M (keepH s H v))
def RetV(P:Program)(rs:List ResultVar)(fx:List Nat)(H:Hp)(K:AV→Hp→Mem→Prop)(s:St):Prop:=
 retK P s rs fun vs=>outV s fx H K (normA (tupR vs))
theorem brv_mk{t:Bool}{A B:Prop}(h1:t=true→A)(h2:t=false→B):brv t A B:=⟨h1,h2⟩
theorem retC_congr(P:Program)(s s':St)(T:TypeId)(K:AV→Prop)(a a':AV)(hs:hold s=s')(h:hold a=a'):retC P s T K a=retC P s' T K a':=by subst h;subst hs;rfl
theorem ret1_congr(P:Program)(s s':St)(r:ResultVar)(K:AV→Prop)(hs:hold s=s'):ret1 P s K r=ret1 P s' K r:=by subst hs;rfl
theorem retK_congr(P:Program)(s s':St)(r:List ResultVar)(K:List AV→Prop)(hs:hold s=s'):retK P s r K=retK P s' r K:=by subst hs;rfl
theorem outV_congr(s s':St)(fx:List Nat)(H:Hp)(K:AV→Hp→Mem→Prop)(v v':AV)(hs:hold s=s')(h:hold v=v'):outV s fx H K v=outV s' fx H K v':=by subst h;subst hs;rfl
theorem closeK_congr(K:AV→Hp→Mem→Prop)(v:AV)(M:Mem)(H H':Hp)(h:hold H=H'):closeK K v M H=closeK K v M H':=by subst h;rfl
def argEnv:Nat→List AV→Env
 | _,[]=>[]
 | i,u :: r=>(i,u) :: argEnv (i+1) r
theorem lk_argEnv:∀(us:List AV) (i t:Nat),lk (argEnv i us) t=if i≤t∧t<i+us.length then us.getD (t-i) .unk else .unk
 | [],i,t=>by simp only[argEnv,lk,List.length_nil];rw[if_neg (by omega)]
 | u :: r,i,t=>by
  simp only[argEnv,lk,lk_argEnv r (i+1) t,List.length_cons]
  by_cases h:i=t
  ·subst h;simp
  ·rw[if_neg h]
   by_cases h2:i+1≤t∧t<i+1+r.length
   ·rw[if_pos h2,if_pos (by omega)]
    obtain ⟨j,rfl⟩:∃j,t=i+1+j:=⟨t-(i+1),by omega⟩
    rw[show i+1+j-(i+1)=j by omega,show i+1+j-i=j+1 by omega]
    simp
   ·rw[if_neg h2,if_neg (by omega)]
def resF(tmps:Array Value):ResultVar→Sem Value
 | .tmp t=>pure (tmps.getD t undef)
 | .cell x t=>do loadVar t (←asAddr (tmps.getD x undef))
theorem results_eq(fn:Func)(tmps:Array Value):results fn tmps=(do
  let vs ←fn.results.mapM (resF tmps)
  pure (if h:vs.size=1 then vs[0] else .tuple vs)):=by
 unfold results
 congr 1
theorem keysH_some:∀(H:Hp) (k:Nat),k∈keysH H↔(lkH H k).isSome=true
 | [],k=>by simp[keysH,lkH]
 | (j,x) :: r,k=>by
  simp only[keysH,List.mem_cons,lkH]
  by_cases e:j=k
  ·simp[e]
  ·rw[if_neg e,←keysH_some r k]
   constructor
   ·rintro (h|h)
    ·exact absurd h.symm e
    ·exact h
   ·exact .inr
theorem inB_mem{ks:List Nat}:∀{l:List Nat},inB ks l=true→∀k∈l,k∈ks
 | [],_,k,hk=>by cases hk
 | j :: r,h,k,hk=>by
  simp only[inB,Bool.and_eq_true]at h
  rcases List.mem_cons.1 hk with rfl|hk
  ·exact hasK_iff.1 h.1
  ·exact inB_mem h.2 k hk
theorem reachK_mem{hp:Hp}{ks:List Nat}{k:Nat}(h:k∈ks):k∈reachK hp ks:=by
 unfold reachK;exact List.mem_append_right _ h
section
variable {P:Program}{c:Cx}{n:Nat}{s:St}{ρ:Rho}{a:Act}{w:World}
theorem ret1_ok(h:Gam c n s ρ a w){r:ResultVar}{K:AV→Prop}(hr:ret1 P s K r) :
  ∃u v,Sem.run P (resF a.tmps r) w=.ok u w∧v.is ρ u∧K v:=by
 cases r with
 | tmp t=>exact ⟨_,_,rfl,h.env t,hr⟩
 | cell x T=>
  have hev:=h.env x
  simp only[ret1]at hr
  unfold retC at hr
  split at hr
  ·rename_i k off hx
   rw[hx]at hev
   obtain ⟨b,hb,e⟩:=hev
   split at hr
   ·rename_i T' cs hk
    obtain ⟨⟨arr,h1⟩,_⟩:=h.hp k T' cs b hk hb
    split at hr
    ·rename_i ob v hl
     obtain ⟨u,hu,hv⟩:=load_ok (P:=P) hl hr.1 h1
     refine ⟨u,v,?_,hv,hr.2⟩
     simp only[Instr.loadAt,ptr,Instr.sureAddr,Sem.run_bind,Sem.run_pure,Result.andThen_ok]at hu
     simp only[resF,e,ptr,asAddr,Sem.run_bind,Sem.run_pure,Result.andThen_ok,hu]
    ·exact hr.elim
   ·exact hr.elim
  ·exact hr.elim
theorem retK_ok(h:Gam c n s ρ a w):∀{rs:List ResultVar} {K:List AV→Prop},retK P s rs K→
  ∃us vs,Sem.run P (List.mapM (resF a.tmps) rs) w=.ok us w∧isL ρ vs us∧K vs
 | [],K,hr=>⟨[],[],rfl,rfl,hr⟩
 | r :: l,K,hr=>by
  obtain ⟨u,v,h1,h2,h3⟩:=ret1_ok h hr
  obtain ⟨us,vs,h4,h5,h6⟩:=retK_ok h h3
  refine ⟨u :: us,v :: vs,?_,⟨u,us,rfl,h2,h5⟩,h6⟩
  rw[List.mapM_cons,Sem.run_bind,h1,Result.andThen_ok,Sem.run_bind,h4,Result.andThen_ok,Sem.run_pure]
theorem results_ok(h:Gam c n s ρ a w){fn:Func}{K:AV→Prop}(hr:retK P s fn.results.toList fun vs=>K (normA (tupR vs))):∃u v,(results fn a.tmps).run P w=.ok u w∧v.is ρ u∧K v:=by
 obtain ⟨us,vs,h1,h2,h3⟩:=retK_ok h hr
 have h4:fn.results=fn.results.toList.toArray:=by simp
 have hrun:(results fn a.tmps).run P w=.ok (if h:us.toArray.size=1 then us.toArray[0] else .tuple us.toArray) w:=by
  rw[results_eq,h4,List.mapM_toArray,Sem.run_bind,Sem.run_map,h1]
  simp only[Result.andThen_ok,Sem.run_pure]
 have hl:=isL_length h2
 refine ⟨_,_,hrun,norm_is ?_,h3⟩
 match vs,us,h2,hl with
 | [],[],h2,_=>exact tupA_ok h2
 | [v],[u],h2,_=>obtain ⟨u',r,e,h5,_⟩:=h2;cases e;exact h5
 | v :: v2 :: r,u :: u2 :: q,h2,_=>exact tupA_ok h2
end
theorem callS_ok{P:Program}{f:FuncId}{fn:Func}{code:Code}(hmx:P.follows .mixedOrders=true)(hf:P.funcs[f]? = some fn)(hb:fn.body=some code)(hok:codeOK fn.ntmps code=true)
  (kb:Nat) {args:List AV} {H:Hp} {M:Mem} {K:AV→Hp→Mem→Prop} (mv fx cs:List Nat) (hl':Nat.ble args.length fn.ntmps=true) (hfx:∀k∈keysH H,k∈mv∨k∈fx) (hkl:∀k∈keysH H,k<kb)
  (h:vc P (RetV P fn.results.toList fx H K) [.code code,.marks cs] {env:=argEnv 0 args,hp:=H,M:=M,kb:=kb,fx:=fx}):CallS P f args H M mv K:=by
 intro ρ w us hh he
 have hl:args.length≤fn.ntmps:=Nat.le_of_ble_eq_true hl'
 have hlen:=isL_length he
 refine calls_of_wp hf hb ?_
 let c:Cx:={w0:=w,M0:=M,X:=(keysH H).filterMap fun k=>(ρ k).map (·.b),ρ0:=ρ,ks:=fun k=>(lkH H k).isSome}
 have hX:∀k b,(lkH H k).isSome=true→ρ k=some b→b.b∈c.X:=fun k b hk hb=>List.mem_filterMap.2 ⟨k,(keysH_some H k).2 hk,by simp[hb]⟩
 have hX2:∀x,x∈c.X→∃k b,(lkH H k).isSome=true∧ρ k=some b∧b.b=x:=fun x hx=>by
  obtain ⟨k,hk,hx⟩:=List.mem_filterMap.1 hx
  simp only[Option.map_eq_some_iff]at hx
  obtain ⟨b,hb,rfl⟩:=hx
  exact ⟨k,b,(keysH_some H k).1 hk,hb,rfl⟩
 have hg:Gam c fn.ntmps {env:=argEnv 0 args,hp:=H,M:=M,kb:=kb,fx:=fx} ρ {tmps:=us.toArray++Array.replicate (fn.ntmps-us.toArray.size) undef,defers:=[]} w:=by
  refine {df:=rfl,sz:=by simp;omega,env:=fun t=>?_,hp:=fun k T cs b hk hb=>?_,no:=hh.no,inj:=hh.inj,os:=rfl,tape:=rfl,output:=rfl,size:=Nat.le_refl _,block:=fun _ _ _=>rfl,sub:=hh.sub,le:=Mem.le.refl _,mf:=fun b hb=>.inl hb,fix:=fun k hk=>hk,fx:=fun k hk=>rfl,kl:=fun k hk=>hkl k ((keysH_some H k).2 hk),fr:=fun b hb=>(List.not_mem_nil hb).elim}
  ·simp only[lk_argEnv]
   split
   ·rename_i ht
    have ht2:t<args.length:=by omega
    have h2:t<us.length:=by omega
    have h4:(us.toArray++Array.replicate (fn.ntmps-us.toArray.size) undef).getD t undef=us.getD t undef:=by
     simp[Array.getD,Array.getElem?_append,h2]
     intro h3;omega
    rw[h4]
    refine isL_get he t _ ?_
    simp[ht2]
   ·trivial
  ·obtain ⟨h1,h2⟩:=hh.hp k T cs b hk hb
   exact ⟨h1,.inr (hX k b (by rw[hk];rfl) hb),h2⟩
 have h1:=vc_ok (P:=P) (c:=c) (n:=fn.ntmps) hmx ⟨hX2⟩ (F:=bodyPost P fn (fun e w'=>∃u v H' M' ρ',e=.returned u∧K v H' M'∧Left mv H M ρ ρ' w u v H' M' w') .ret) (fun s a w' hr hg=>by
  obtain ⟨ρ1,g⟩:=hg
  obtain ⟨u,v,h2,h3,hsfx,hcl,h4⟩:=results_ok g hr
  have hsub:∀k x,lkH (keepH s H v) k=some x→lkH s.hp k=some x:=fun k x hk=>by
   unfold keepH at hk
   rw[lkH_sub]at hk
   split at hk
   ·exact hk
   ·cases hk
  have hin:=inB_mem hcl
  have hkeep:∀k,(lkH H k).isSome=true→(lkH (keepH s H v) k).isSome=true:=fun k hk=>by
   unfold keepH
   rw[lkH_sub,if_pos (reachK_mem (reachK_mem (List.mem_append_right _ ((keysH_some H k).2 hk))))]
   exact g.fix k hk
  let ρ':Rho:=fun k=>if (lkH (keepH s H v) k).isSome=true then ρ1 k else ρ k
  have hρ':∀k,(lkH (keepH s H v) k).isSome=true→ρ' k=ρ1 k:=fun k hk=>by simp only[ρ',hk,if_true]
  have hag:∀k,k∈keysH (keepH s H v)→ρ1 k=ρ' k:=fun k hk=>(hρ' k ((keysH_some _ k).1 hk)).symm
  refine ⟨g.df,u,h2,u,v,keepH s H v,s.M,ρ',rfl,h4,?_⟩
  refine {is:=is_agree (fun k hk=>hag k (hin k (List.mem_append_left _ hk))) h3,heap:=⟨fun k T cs b hk hb=>?_,fun k T cs hk hb=>?_,fun k k' b b' hk hk' hb hb'=>?_,g.sub⟩,keep:=hkeep,same:=fun k hk hm=>?_,ment:=fun k hk=>⟨fun hm=>?_,fun j T cs hj hm=>?_⟩,fresh:=fun k b hk hb=>?_,os:=g.os,tape:=g.tape,output:=g.output,size:=g.size,block:=fun b hb hn=>?_,le:=g.le,mem:=g.mf}
  ·rw[hρ' k (by rw[hk];rfl)]at hb
   obtain ⟨⟨arr,f1⟩,_,f3⟩:=g.hp k T cs b (hsub k _ hk) hb
   exact ⟨⟨arr,f1.there,f1.size,f1.le,fun i v hv=>is_agree (fun j hj=>hag j (hin j (List.mem_append_right _ (mentH_lk hk (.inr (mentL_get hv hj)))))) (f1.is i v hv)⟩,f3⟩
  ·rw[hρ' k (by rw[hk];rfl)]at hb
   exact g.no k T cs (hsub k _ hk) hb
  ·obtain ⟨x,hx⟩:=Option.isSome_iff_exists.1 hk
   obtain ⟨x',hx'⟩:=Option.isSome_iff_exists.1 hk'
   rw[hρ' k hk]at hb
   rw[hρ' k' hk']at hb'
   exact g.inj k k' b b' (by rw[hsub k x hx];rfl) (by rw[hsub k' x' hx'];rfl) hb hb'
  ·by_cases hs:(lkH (keepH s H v) k).isSome=true
   ·rw[hρ' k hs]
    rcases hk with hk|hk
    ·rcases hfx k ((keysH_some H k).2 hk) with h5|h5
     ·exact absurd h5 hm
     ·exact g.fx k (inB_mem hsfx k h5)
    ·rw[hk]at hs;cases hs
   ·simp only[ρ',hs];rfl
  ·have:=(keysH_some _ k).1 (hin k (List.mem_append_left _ hm))
   rw[hk]at this;cases this
  ·have:=(keysH_some _ k).1 (hin k (List.mem_append_right _ (mentH_lk hj (.inr hm))))
   rw[hk]at this;cases this
  ·rw[hρ' k hk]at hb
   obtain ⟨x,hx⟩:=Option.isSome_iff_exists.1 hk
   rcases (g.hp k x.1 x.2 b (hsub k x hx) hb).2.1 with h5|h5
   ·exact .inl h5
   ·obtain ⟨j,y,h6,h7,h8⟩:=hX2 _ h5
    exact .inr ⟨j,y,h6,h7,h8⟩
  ·refine g.block b hb fun hm=>?_
   obtain ⟨k,y,h7,h8,h9⟩:=hX2 _ hm
   exact hn k y h7 h8 h9)
  _ [.code code,.marks cs] (Nat.le_refl _) _ _ w ⟨hok,trivial⟩ ⟨_,hg⟩ h
 refine wp_mono (of_semT h1) fun e a' w' he=>?_
 cases e with
 | normal=>unfold semQ at he;unfold semT at he;unfold semT at he;exact he
 | exit id=>have he:semT.semX P c fn.ntmps (bodyPost P fn (fun e w'=>∃u v H' M' ρ',e=.returned u∧K v H' M'∧Left mv H M ρ ρ' w u v H' M' w') .ret) id [.marks cs] a' w':=he;unfold semT.semX at he;unfold semT.semX at he;exact he.elim
 | ret=>exact he
 | goto l=>exact he.elim
 | panic ch=>exact he.elim
 | outgrown=>exact he.elim
theorem CallS.mono{P:Program}{f:FuncId}{args:List AV}{H:Hp}{M:Mem}{mv:List Nat}{K K':AV→Hp→Mem→Prop}(h:CallS P f args H M mv K)(hk:∀v H' M',K v H' M'→K' v H' M'):CallS P f args H M mv K':=
 fun ρ w us hh he=>(h ρ w us hh he).mono fun e w' ⟨u,v,H',M',ρ',e1,h1,h2⟩=>⟨u,v,H',M',ρ',e1,hk _ _ _ h1,h2⟩
theorem callK{P:Program}{f:FuncId}{args:List AV}{s:St}{d:Option Nat}{K:St→Prop}{H:Hp}(hH:subH s.hp (reachK s.hp (mentL args))=H)
  (h:CallS P f args H s.M [] fun v H' M'=>obl (newKeys s H H') (K ({env:=s.env,hp:=joinH s.hp H',M:=M',kb:=s.kb,fx:=s.fx,fr:=s.fr:St}.put d v))):CallK P f args s d K:=by
 subst hH
 exact ⟨[],fun k hk=>(by cases hk),h⟩
theorem callK0{P:Program}{f:FuncId}{args:List AV}{s:St}{d:Option Nat}{K:St→Prop}{H:Hp}(hH:subH s.hp (reachK s.hp (mentL args))=H)
  (h:CallS P f args H s.M [] fun v H' M'=>obl (newKeys s H H') (K ({env:=s.env,hp:=joinH s.hp H',M:=M',kb:=s.kb,fx:=s.fx,fr:=s.fr:St}.put d v))):CallK0 P f args s d K:=by
 subst hH;exact h
end Go.Proofs.Ytjapnklocibgaaa.Sx
