/- Part 12 of the texts of this claim: a symbolic executor and contracts of functions. -/
import Derived.Test.YtjapnklocibgaaaOCiRCDb
namespace Go.Proofs.Ytjapnklocibgaaa.Sx
open Go Go.RowKit
set_option linter.unusedVariables false
set_option linter.unusedSimpArgs false
section
variable {P:Program}{c:Cx}{n:Nat}{s z:St}{ρ:Rho}{a:Act}{w:World}
theorem ev_same{ops:Array Oper}{o:Oper}(h:∀t∈o.looksAt ops,lk s.env t=lk z.env t):∀x∈o.op.operands,ev s x=ev z x:=by
 intro x hx
 cases x with
 | tmp t=>exact h t (List.mem_append_left _ (List.mem_filterMap.2 ⟨.tmp t,by simpa using hx,rfl⟩))
 | const v=>rfl
 | global g=>rfl
 | func f=>rfl
theorem guard_same{ops:Array Oper}{o:Oper}(h:∀t∈o.looksAt ops,lk s.env t=lk z.env t):guardB ops.toList s o.guard=guardB ops.toList z o.guard:=by
 refine guardB_dep fun j want t hg hs=>h t (List.mem_append_right _ ?_)
 simp only[hg]
 simpa [gslot_eq] using hs
theorem ptrK_ment{v:AV}{k:Nat}(h:k∈ptrK v.ptr?):k∈v.ment:=by
 cases hp:v.ptr? with
 | none=>rw[hp]at h;cases h
 | some r=>obtain ⟨g,j,off⟩:=r;rw[ptr_ment hp];rw[hp]at h;exact h
theorem addr_ment{op:Op}{k:Nat}(h:k∈addrL s op):∃x∈op.operands,k∈(ev s x).ment:=by
 cases op with
 | load T x=>exact ⟨x,by simp[Op.operands],ptrK_ment h⟩
 | store T x y=>exact ⟨x,by simp[Op.operands],ptrK_ment h⟩
 | convert S T x=>
  have h:k∈sloK (ev s x):=h
  refine ⟨x,by simp[Op.operands],?_⟩
  cases hp:ev s x with
  | slo q off n z=>
   rw[hp]at h
   simp only[sloK,List.mem_singleton]at h
   rw[h];simp[AV.ment]
  | _=>rw[hp]at h;simp[sloK]at h
 | slice T x lo hi mx=>
  have h:k∈ownK (ev s x):=h
  refine ⟨x,by simp[Op.operands],?_⟩
  cases hp:ev s x with
  | own j off=>
   rw[hp]at h
   simp only[ownK,List.mem_singleton]at h
   simp[AV.ment,h]
  | _=>rw[hp]at h;simp[ownK]at h
 | call cl=>
  simp only[addrL]at h
  split at h
  ·obtain ⟨v,hv,hk⟩:=mentL_mem h
   obtain ⟨x,hx,rfl⟩:=List.mem_map.1 hv
   exact ⟨x,by simp[Op.operands,Call.operands];exact .inr (by simpa using hx),hk⟩
  ·cases h
 | _=>simp[addrL]at h
theorem addr_same{op:Op}(h:∀x∈op.operands,ev s x=ev z x):addrL s op=addrL z op:=by
 cases op with
 | load T x=>simp only[addrL];rw[h x (by simp[Op.operands])]
 | store T x y=>simp only[addrL];rw[h x (by simp[Op.operands])]
 | convert S T x=>simp only[addrL];rw[h x (by simp[Op.operands])]
 | slice T x lo hi mx=>simp only[addrL];rw[h x (by simp[Op.operands])]
 | call cl=>
  simp only[addrL]
  rw[map_ev (l:=cl.args.toList) fun x hx=>h x (by simp[Op.operands,Call.operands];exact .inr (by simpa using hx))]
 | _=>rfl
theorem AwayS.addr{k j:Nat}{op:Op}(h:AwayS k s)(hj:j∈addrL s op):j≠k:=fun e=>by
 obtain ⟨x,_,hx⟩:=addr_ment hj
 rw[e]at hx
 exact away_ev h.env x hx
def softOp:Op→Bool
 | .store _ _ _=>false
 | .call cl=>match cl.callee with
  | .builtin .append=>false
  | .builtin _=>true
  | _=>false
 | _=>true
def touchR(s:St):Res→List Nat
 | .sto _ k _=>[k]
 | .call _ args=>reachK s.hp (mentL args)
 | _=>[]
def killR:Res→List Nat
 | .gen (.app _ (x :: _))=>x.ment
 | _=>[]
def NoClash(s:St)(oi:Op)(r:Res):Prop:=(∀k∈addrL s oi,k∉touchR s r)∧∀k∈killR r,AwayOp k s oi
def SoftR:Res→Prop
 | .sto _ _ _=>False
 | .call _ _=>False
 | .gen _=>False
 | _=>True
theorem softR_putA{x:Option (Bool×Value)}{f:Value→Option (Prop×Value)}:SoftR (putA x f):=by unfold putA;(repeat' split)<;>trivial
theorem softR_put1{x:Option (Bool×Value)}{f:Value→Option (Prop×Value)}:SoftR (put1 x f):=by unfold put1;(repeat' split)<;>trivial
theorem softR_put2{x y:Option (Bool×Value)}{f:Value→Value→Option (Prop×Value)}:SoftR (put2 x y f):=by unfold put2;(repeat' split)<;>trivial
theorem softR_addOb{g:Bool}{r:Res}(h:SoftR r):SoftR (addOb g r):=by cases r<;>first|trivial|exact h
theorem soft_ra{op:Op}(h:softOp op=true):SoftR (tOp P s op):=by
 cases op with
 | store T x y=>cases h
 | call cl=>
  simp only[softOp]at h
  split at h
  ·cases h
  ·rename_i b hb hne
   simp only[tOp,hne,evC,callR]
   cases b<;>simp only[bltR]<;>first|trivial|exact absurd rfl hb|skip
   ·unfold lenR;split
    ·trivial
    ·split
     ·trivial
     ·exact softR_put1
    ·trivial
   ·split
    ·exact softR_put2
    ·trivial
   ·split
    ·exact softR_put2
    ·trivial
  ·cases h
 | load T x=>
  simp only[tOp]
  have key:∀g off r,SoftR (loadH P T g off r):=fun g off r=>by
   cases r with
   | none=>trivial
   | some r=>simp only[loadH];refine softR_addOb ?_;unfold loadR;(repeat' split)<;>trivial
  cases ev s x with
  | gd g u=>cases g with
   | true=>simp only[loadX];exact softR_put1
   | false=>simp only[loadX];unfold zeroR;split<;>trivial
  | _=>simp only[loadX]<;>first|exact softR_put1|exact key _ _ _|trivial
 | pick x y w=>simp only[tOp];unfold pickV;split<;>trivial
 | binOp b T x y Ty=>exact softR_put2
 | unOp b T x=>exact softR_put1
 | index T x y=>exact softR_put2
 | lookup T m x co=>
  cases co with
  | true=>trivial
  | false=>simp only[tOp];unfold lkuR;(repeat' split)<;>trivial
 | convert S T x=>
  simp only[tOp]
  cases ev s x with
  | slo k off n z=>simp only[convX];unfold strH;(repeat' split)<;>trivial
  | _=>simp only[convX];exact softR_putA
 | extract x i=>simp only[tOp];unfold extR;(repeat' split)<;>trivial
 | nilCheck x=>simp only[tOp];unfold nilA;split<;>trivial
 | fieldAddr S x f=>simp only[tOp];unfold fldA fldV fieldR;(repeat' split)<;>trivial
 | makeFunc fn first cs=>simp only[tOp];unfold mkF;(repeat' split)<;>trivial
 | alloc T=>simp only[tOp];split<;>trivial
 | box T x=>simp only[tOp];unfold boxR;split<;>trivial
 | buildSlice T m ps=>simp only[tOp];unfold buildSR;(repeat' split)<;>trivial
 | build T ps=>simp only[tOp];unfold buildR;(repeat' split)<;>trivial
 | makeSlice T x y=>simp only[tOp];unfold makeR;(repeat' split)<;>trivial
 | field S x f=>
  simp only[tOp]
  cases unG (ev s x) with
  | none=>trivial
  | some r=>obtain ⟨g,v⟩:=r;simp only[fieldO];refine softR_addOb ?_;unfold fieldX;(repeat' split)<;>trivial
 | indexAddr T x y=>
  simp only[tOp];unfold idxR;split
  ·refine softR_addOb ?_;unfold idxA;(repeat' split)<;>trivial
  ·trivial
 | slice T x lo hi mx=>
  cases mx with
  | some _=>trivial
  | none=>
   simp only[tOp];unfold slcG;split
   ·refine softR_addOb ?_;unfold slcR;(repeat' split)<;>trivial
   ·unfold slcO;(repeat' split)<;>trivial
   ·unfold slcR;(repeat' split)<;>trivial
 | _=>trivial
theorem soft_put{ops:List Oper}{o:Oper}(hs:softOp o.op=true){E:Eff}(hE:effOK P (tOp P s o.op) o.guard (guardB ops s o.guard) E):(∃v,E=.put v)∨∃D cs,E=.new D cs∧tOp P s o.op=.new D cs:=by
 have h:=soft_ra (P:=P) (s:=s) hs
 cases E with
 | put v=>exact .inl ⟨v,rfl⟩
 | new D cs=>exact .inr ⟨D,cs,rfl,hE.1⟩
 | sto k cs=>obtain ⟨ob,hr,_⟩:=hE;rw[hr]at h;exact h.elim
 | call f args=>rw[hE.1]at h;exact h.elim
 | app ts args=>rw[hE.1]at h;exact h.elim
theorem cellsK_mem{hp:Hp}{k:Nat}:∀{ks:List Nat},k∈cellsK hp ks→∃j∈ks,∃T cs,lkH hp j=some (T,cs)∧k∈mentL cs
 | j :: r,h=>by
  simp only[cellsK]at h
  rcases List.mem_append.1 h with h|h
  ·cases hj:lkH hp j with
   | none=>rw[hj]at h;cases h
   | some x=>rw[hj]at h;exact ⟨j,by simp,x.1,x.2,hj,h⟩
  ·obtain ⟨i,hi,h2⟩:=cellsK_mem h;exact ⟨i,by simp[hi],h2⟩
theorem kill_id{k:Nat}{v:AV}(h:k∉v.ment):v.kill k=v:=by
 refine (AV.rec (motive_1:=fun v=>k∉v.ment→v.kill k=v) (motive_2:=fun l=>k∉mentL l→killL k l=l) ?_ ?_ ?_ ?_ ?_ ?_ ?_ ?_ ?_ ?_ ?_ v) h
 ·intros;rfl
 ·intros;rfl
 ·intro j o h;simp only[AV.ment,List.mem_singleton]at h;simp only[AV.kill];rw[if_neg fun e=>h e.symm]
 ·intro g j o h;simp only[AV.ment,List.mem_singleton]at h;simp only[AV.kill];rw[if_neg fun e=>h e.symm]
 ·intro j o m q h;simp only[AV.ment,List.mem_singleton]at h;simp only[AV.kill];rw[if_neg fun e=>h e.symm]
 ·intro f l ih h;simp only[AV.ment]at h;simp only[AV.kill,ih h]
 ·intro f l ih h;simp only[AV.ment]at h;simp only[AV.kill,ih h]
 ·intro t l ih h;simp only[AV.ment]at h;simp only[AV.kill,ih h]
 ·intros;rfl
 ·intros;rfl
 ·intro v r ih1 ih2 h
  simp only[mentL,List.mem_append,not_or]at h
  simp only[killL,ih1 h.1,ih2 h.2]
theorem killL_id{k:Nat}:∀{l:List AV},k∉mentL l→killL k l=l
 | [],_=>rfl
 | v :: r,h=>by
  simp only[mentL,List.mem_append,not_or]at h
  simp only[killL,kill_id h.1,killL_id h.2]
theorem app_put{d:Option Nat}{v:AV}{d' k q zz:Nat}{T:TypeId}{cs:List AV}(hd:d≠some d')(hv:k∉v.ment):Eqv (appSt (s.put d v) d' k q zz T cs) ((appSt s d' k q zz T cs).put d v):=by
 refine ⟨fun j=>?_,fun j=>?_,by simp[appSt,put_M],by simp[appSt,put_kb],by simp[appSt,put_fx],by simp[appSt,put_fr]⟩
 ·cases d with
  | none=>rfl
  | some d=>
   have hdt:¬d'=d:=fun x=>hd (by rw[x])
   simp only[St.put,appSt,lk,killE]
   by_cases h1:d'=j
   ·subst h1;simp[Ne.symm hdt]
   ·by_cases h2:d=j
    ·subst h2;simp[h1,kill_id hv]
    ·simp[h1,h2]
 ·simp[appSt,put_hp]
theorem app_new{d' k q zz t kk:Nat}{T:TypeId}{cs cs':List AV}{D:NewD}(hd:d'≠t)(hk:k≠kk)(hc:k∉mentL cs'):Eqv (appSt (newSt s t kk D cs') d' k q zz T cs) (newSt (appSt s d' k q zz T cs) t kk D cs'):=by
 refine ⟨fun j=>?_,fun j=>?_,rfl,rfl,rfl,rfl⟩
 ·simp only[newSt,appSt,lk,killE]
  have:(D.av kk).kill k=D.av kk:=kill_id (by rw[av_ment];simpa using hk)
  by_cases h1:d'=j
  ·subst h1;simp[Ne.symm hd]
  ·simp[h1,this]
 ·simp only[newSt,appSt,lkH,killH]
  rw[if_neg (Ne.symm hk),killL_id hc]
  by_cases h1:k=j
  ·subst h1;simp[Ne.symm hk,lkH]
  ·simp[h1,lkH]
theorem off_same{op:Op}(h:∀x∈op.operands,ev s x=ev z x):offL s op=offL z op:=by
 cases op with
 | load T x=>simp only[offL];rw[h x (by simp[Op.operands])]
 | _=>rfl
theorem killL_len(k:Nat):∀l:List AV,(killL k l).length=l.length
 | []=>rfl
 | v :: r=>by simp only[killL,List.length_cons,killL_len k r]
theorem killL_drop(k:Nat):∀(l:List AV) (n:Nat),(killL k l).drop n=killL k (l.drop n)
 | [],n=>by simp[killL]
 | v :: r,0=>rfl
 | v :: r,n+1=>by simp only[killL,List.drop_succ_cons];exact killL_drop k r n
theorem app_hp{d' k q zz:Nat}{T:TypeId}{cs:List AV}{op:Op}(ha:AwayOp k s op){j:Nat}(hj:j∈addrL s op):sameD (offL s op) (lkH s.hp j) (lkH (appSt s d' k q zz T cs).hp j):=by
 have hne:k≠j:=fun e=>by
  obtain ⟨x,hx,hk⟩:=addr_ment hj
  exact ha.ops x hx (by rw[e];exact hk)
 simp only[appSt,lkH,lkH_killH]
 rw[if_neg hne,if_neg (Ne.symm hne)]
 cases hl:lkH s.hp j with
 | none=>exact .inl rfl
 | some x=>
  simp only[Option.map_some]
  exact .inr ⟨x.1,x.2,killL k x.2,rfl,rfl,(killL_len k _).symm,by rw[killL_drop,killL_id (ha.hp j hj x.1 x.2 hl)]⟩
theorem awayS_app{kk d' k q zz:Nat}{T:TypeId}{cs:List AV}(h:AwayS kk s)(hk:k≠kk)(hc:kk∉mentL cs):AwayS kk (appSt s d' k q zz T cs):=by
 refine ⟨fun t=>?_,fun j T' ds hj=>?_,h.fx⟩
 ·simp only[appSt,lk]
  split
  ·simpa [AV.ment] using fun e=>hk e.symm
  ·rw[lk_killE];exact fun hm=>h.env t (kill_ment hm).2
 ·simp only[appSt,lkH,lkH_killH]at hj
  split at hj
  ·rename_i e
   cases hj
   exact ⟨fun e2=>hk (by rw[e,e2]),hc⟩
  ·split at hj
   ·cases hj
   ·simp only[Option.map_eq_some_iff,Prod.mk.injEq]at hj
    obtain ⟨⟨T1,cs1⟩,h1,rfl,rfl⟩:=hj
    obtain ⟨h2,h3⟩:=h.hp j _ _ h1
    exact ⟨h2,fun hm=>h3 (killL_ment hm).2⟩
theorem looks_cases{ops:Array Oper}{o:Oper}{t:Nat}(h:t∈o.looksAt ops):.tmp t∈o.op.operands∨∃j want,o.guard=some (j,want)∧gslot ops.toList j=some t:=by
 unfold Oper.looksAt at h
 rcases List.mem_append.1 h with h|h
 ·obtain ⟨x,hx,hx2⟩:=List.mem_filterMap.1 h
  left
  cases x<;>simp at hx2
  subst hx2
  simpa using hx
 ·right
  cases hg:o.guard with
  | none=>rw[hg]at h;simp at h
  | some jw=>
   obtain ⟨j,want⟩:=jw
   rw[hg]at h
   refine ⟨j,want,rfl,?_⟩
   simpa [gslot_eq] using h
theorem looks_ment{ops:Array Oper}{o:Oper}{E:Eff}{k t:Nat}(hE:effOK P (tOp P s o.op) o.guard (guardB ops.toList s o.guard) E)(ha:AwayOp k s o.op)(h:t∈o.looksAt ops):k∉(lk s.env t).ment:=by
 rcases looks_cases h with h|⟨j,want,hg,hs⟩
 ·exact ha.ops _ h
 ·have hsome:∃g,guardB ops.toList s o.guard=some g:=by
   cases E with
   | put v=>
    rw[hg]at hE
    obtain ⟨g,h1,_⟩:=hE
    rw[hg];exact ⟨g,h1⟩
   | new D cs=>exact ⟨_,hE.2⟩
   | sto k cs=>obtain ⟨_,_,_,h1⟩:=hE;exact ⟨_,h1⟩
   | call f args=>exact ⟨_,hE.2.2⟩
   | app ts args=>exact ⟨_,hE.2⟩
  obtain ⟨g,hgb⟩:=hsome
  rw[hg]at hgb
  simp only[guardB,hs]at hgb
  cases hl:lk s.env t<;>rw[hl]at hgb<;>simp[AV.val]at hgb<;>simp[AV.ment]
theorem swap{ops:Array Oper}{oi oj:Oper}{K:St→Prop}(hK:Closed K)
  (h1:∀d,oi.dst=some d→d∉oj.looksAt ops) (h2:∀d,oi.dst=some d→oj.dst≠some d) (h3:∀d,oj.dst=some d→d∉oi.looksAt ops) (h4:∀d,oi.dst=some d→d∉oi.looksAt ops)
  (hf:∀d,oi.dst=some d→(lk s.env d).ment=[]) (hs:softOp oi.op=true) (hp:plainR (tOp P s oi.op))
  (h:stepD P ops.toList oi s (fun s1=>(plainR (tOp P s1 oj.op)∧NoClash s1 oi.op (tOp P s1 oj.op))∧stepD P ops.toList oj s1 K oj.guard) oi.guard) :
  stepD P ops.toList oj s (fun s2=>plainR (tOp P s2 oi.op)∧stepD P ops.toList oi s2 K oi.guard) oj.guard∧plainR (tOp P s oj.op):=by
 refine ⟨?_,?_⟩
 all_goals
  obtain ⟨Ei,hEi,kEi⟩:=step_eff h
  have backD:∀s2,(∀t∈oi.looksAt ops,lk s.env t=lk s2.env t)→(∀k∈addrL s oi.op,sameD (offL s oi.op) (lkH s.hp k) (lkH s2.hp k))→Mem.le s.M s2.M→effK P oi.dst s2 K Ei→
    plainR (tOp P s2 oi.op)∧stepD P ops.toList oi s2 K oi.guard:=fun s2 hl hh hM hk=>by
   have e2:=guard_same hl
   rcases tOp_depD (P:=P) (ev_same hl) hh hM with e1|e1
   ·rw[e1]at hp;exact hp.elim
   ·exact ⟨by rw[←e1];exact hp,eff_step (E:=Ei) (by rw[←e1,←e2];exact hEi) hk⟩
  have back:∀s2,(∀t∈oi.looksAt ops,lk s.env t=lk s2.env t)→(∀k∈addrL s oi.op,lkH s.hp k=lkH s2.hp k)→Mem.le s.M s2.M→effK P oi.dst s2 K Ei→
    plainR (tOp P s2 oi.op)∧stepD P ops.toList oi s2 K oi.guard:=fun s2 hl hh hM hk=>backD s2 hl (fun k hj=>.inl (hh k hj)) hM hk
  have fwd:∀s1,plainR (tOp P s1 oj.op)→(∀t,oi.dst≠some t→lk s1.env t=lk s.env t)→(∀k,(∃x,k∈(ev s x).ment)→lkH s1.hp k=lkH s.hp k)→s1.M=s.M→
    tOp P s1 oj.op=tOp P s oj.op∧guardB ops.toList s oj.guard=guardB ops.toList s1 oj.guard∧addrL s1 oi.op=addrL s oi.op:=fun s1 hpl he hh hM=>by
   have hl:∀t∈oj.looksAt ops,lk s1.env t=lk s.env t:=fun t ht=>he t fun e=>h1 t e ht
   have hl':∀t∈oi.looksAt ops,lk s1.env t=lk s.env t:=fun t ht=>he t fun e=>h4 t e ht
   refine ⟨?_,(guard_same hl).symm,addr_same (ev_same hl')⟩
   have ha:=addr_same (ev_same hl)
   rcases tOp_dep (P:=P) (ev_same hl) (fun k hk=>hh k (by obtain ⟨x,_,hx⟩:=addr_ment (by rw[←ha];exact hk);exact ⟨x,hx⟩)) (by rw[hM];exact Mem.le.refl _) with e|e
   ·rw[e]at hpl;exact hpl.elim
   ·exact e
  have hevi:∀s1:St,(∀t,oi.dst≠some t→lk s1.env t=lk s.env t)→∀x∈oi.op.operands,ev s1 x=ev s x:=fun s1 he=>ev_same (ops:=ops) fun t ht=>he t fun e=>h4 t e ht
  rcases soft_put hs hEi with ⟨v,rfl⟩|⟨D,cs,rfl,hnew⟩
 ·-- oi puts a value
  have hs1:∀t,oi.dst≠some t→lk (s.put oi.dst v).env t=lk s.env t:=fun t ht=>put_lk ht
  obtain ⟨⟨pj,hc⟩,hj⟩:=kEi
  obtain ⟨e1,e2,e3⟩:=fwd (s.put oi.dst v) pj hs1 (fun k _=>by rw[put_hp]) put_M
  have hopi:=hevi _ hs1
  obtain ⟨hc1,hc2⟩:=hc
  rw[e3]at hc1
  obtain ⟨Ej,hEj,kEj⟩:=step_eff hj
  rw[e1]at hEj hc1 hc2 pj
  rw[←e2]at hEj
  have haw0:∀k,AwayS k (s.put oi.dst v)→AwayS k s:=fun k ha=>by
   refine ⟨fun j=>?_,fun j T cs hj=>ha.hp j T cs (by rw[put_hp];exact hj),by have:=ha.fx;rw[put_fx]at this;exact this⟩
   by_cases e:oi.dst=some j
   ·rw[hf j e];simp[AV.ment]
   ·rw[←hs1 j e];exact ha.env j
  have hlook:∀s2:St,(∀t,oj.dst≠some t→lk s2.env t=lk s.env t)→∀t∈oi.looksAt ops,lk s.env t=lk s2.env t:=fun s2 he t ht=>(he t fun e=>h3 t e ht).symm
  refine eff_step (E:=Ej) hEj ?_
  cases Ej with
  | put u=>
   refine back _ (hlook _ fun t ht=>put_lk ht) (fun k _=>by rw[put_hp]) (by rw[put_M];exact Mem.le.refl _) ?_
   exact hK _ _ (put_comm h2) kEj
  | new T cs=>
   obtain ⟨t,ht,⟨o1,a1⟩,k1⟩:=newE_of kEj
   rw[put_kb]at a1 k1
   have a0:=haw0 _ a1
   have hit:oi.dst≠some t:=fun e=>h2 t e ht
   rw[ht]
   refine newE_to o1 a0 (back _ (hlook _ fun j hj=>?_) (fun k hk=>?_) (Mem.le.refl _) ?_)
   ·simp only[newSt,lk];rw[if_neg fun e=>hj (by rw[ht,e])]
   ·simp only[newSt,lkH];rw[if_neg fun e=>a0.addr hk e.symm]
   ·exact hK _ _ (new_put hit).symm k1
  | sto k cs=>
   obtain ⟨ob,hjr,_⟩:=hEj
   refine back _ (hlook _ fun t ht=>put_lk (s:={s with hp:=upH s.hp k cs}) ht) (fun k' hk'=>?_) (by rw[put_M];exact Mem.le.refl _) ?_
   ·rw[put_hp]
    simp only[lkH_upH]
    have:=hc1 k' hk'
    rw[hjr]at this
    rw[if_neg fun e=>this (by simp[touchR,e])]
   ·refine hK _ _ ?_ kEj
    refine Eqv.trans (Eqv.put ?_ oj.dst AV.unk) (put_comm (s:={s with hp:=upH s.hp k cs}) (d:=oi.dst) (v:=v) h2)
    refine ⟨fun t=>?_,fun j=>?_,?_,?_,?_,?_⟩
    ·cases oi.dst<;>rfl
    ·simp only[put_hp]
    ·simp only[put_M]
    ·simp only[put_kb]
    ·simp only[put_fx]
    ·simp only[put_fr]
  | call f args=>
   have hcall:=hEj.1
   simp only[effK,CallK0,put_hp,put_M,put_kb,put_fx,put_fr]at kEj ⊢
   refine CallS_mono (fun u H' M' _ _ _ _ _ hl hk=>?_) kEj
   obtain ⟨hnk,hk⟩:=hk
   have hnk0:=newKeys_ok hnk
   refine ⟨newKeys_of fun k hk'=>(hnk0 k hk').imp id fun ha=>(haw0 k (AwayS.of ha)).to,?_⟩
   refine back _ (hlook _ fun t ht=>by rw[put_lk ht]) (fun k hk'=>?_) (by rw[put_M];exact hl.le) ?_
   ·rw[put_hp]
    simp only[lkH_join]
    cases h7:lkH H' k with
    | none=>rfl
    | some x=>
     exfalso
     rcases hnk0 k (by rw[h7];rfl) with h8|h8
     ·rw[lkH_sub]at h8
      split at h8
      ·rename_i hm
       have h5:=hc1 k hk'
       rw[hcall]at h5
       simp only[touchR]at h5
       rw[mentL_norm]at hm
       rw[put_hp]at h5
       exact h5 hm
      ·cases h8
     ·exact (haw0 k (AwayS.of h8)).addr hk' rfl
   ·refine hK _ _ ?_ hk
    refine Eqv.trans (Eqv.put ?_ oj.dst u) (put_comm (s:=({env:=s.env,hp:=joinH s.hp H',M:=M',kb:=s.kb,fx:=s.fx,fr:=s.fr}:St)) (d:=oi.dst) (v:=v) h2)
    refine ⟨fun t=>?_,fun j=>?_,?_,?_,?_,?_⟩
    ·cases oi.dst<;>rfl
    ·simp only[put_hp]
    ·simp only[put_M]
    ·simp only[put_kb]
    ·simp only[put_fx]
    ·simp only[put_fr]
  | app ts args=>
   have happ:=hEj.1
   have hv:∀k∈killR (tOp P s oj.op),k∉v.ment:=fun k hk=>by
    have ha:=hc2 k hk
    refine putE_away (P:=P) (s:=s) (op:=oi.op) (gd:=oi.guard) ⟨fun x hx=>by rw[←hopi x hx];exact ha.ops x hx,fun j hj T cs hl=>by rw[←off_same hopi];exact ha.hp j (by rw[addr_same hopi];exact hj) T cs (by rw[put_hp];exact hl)⟩ hEi
   simp only[effK]at kEj ⊢
   refine appR_map (z:=s) kEj put_M put_kb put_fx (fun k _=>by rw[put_hp]) (fun d' _ ha=>(haw0 _ (AwayS.of ha)).to) (fun k off q z' d' m e zz cs new y hargs hd _ hk=>?_) (fun d' m e zz new hd ha _ _ hk=>?_)
   ·have hkk:k∈killR (tOp P s oj.op):=by rw[happ,hargs];simp[killR,AV.ment]
    have ha:=hc2 k hkk
    have hdd:oi.dst≠some d':=fun e=>h2 d' e hd
    have ha0:AwayOp k s oi.op:=⟨fun x hx=>by rw[←hopi x hx];exact ha.ops x hx,fun j hj T cs hl=>by rw[←off_same hopi];exact ha.hp j (by rw[addr_same hopi];exact hj) T cs (by rw[put_hp];exact hl)⟩
    refine backD _ (fun t ht=>?_) (fun j hj=>?_) (Mem.le.refl _) (hK _ _ (app_put hdd (hv k hkk)) hk)
    ·simp only[appSt,lk]
     rw[if_neg fun e=>h3 t (by rw[hd,e]) ht,lk_killE,kill_id (looks_ment hEi ha0 ht)]
    ·exact app_hp ha0 hj
   ·have a0:=haw0 _ (AwayS.of ha)
    have hit:oi.dst≠some d':=fun e=>h2 d' e hd
    refine back _ (hlook _ fun j hj=>?_) (fun k hk=>?_) (Mem.le.refl _) ?_
    ·simp only[newSt,lk];rw[if_neg fun e=>hj (by rw[hd,e])]
    ·simp only[newSt,lkH];rw[if_neg fun e=>a0.addr hk e.symm]
    ·exact hK _ _ (new_put hit).symm hk
 ·-- oi makes a block
  obtain ⟨t,hdi,⟨oi1,a1⟩,k1⟩:=newE_of kEi
  have hs1:∀j,oi.dst≠some j→lk (newSt s t (s.kb+t) D cs).env j=lk s.env j:=fun j hj=>by
   simp only[newSt,lk];rw[if_neg fun e=>hj (by rw[hdi,e])]
  obtain ⟨⟨pj,hc⟩,hj⟩:=k1
  have hne:∀k,(∃x,k∈(ev s x).ment)→s.kb+t≠k:=fun k ⟨x,hx⟩ e=>away_ev a1.env x (by rw[e];exact hx)
  obtain ⟨e1,e2,e3⟩:=fwd _ pj hs1 (fun k hk=>by simp only[newSt,lkH];rw[if_neg (hne k hk)]) rfl
  have hopi:=hevi _ hs1
  obtain ⟨hc1,hc2⟩:=hc
  rw[e3]at hc1
  obtain ⟨Ej,hEj,kEj⟩:=step_eff hj
  rw[e1]at hEj hc1 hc2 pj
  rw[←e2]at hEj
  refine eff_step (E:=Ej) hEj ?_
  have hjt:oj.dst≠some t:=h2 t hdi
  have hcs:∀k,AwayOp k s oi.op→k∉mentL cs:=fun k ha=>by have:=tOp_away (P:=P) ha;rw[hnew]at this;exact this
  have hraj:RA (s.kb+t) s oj.op (tOp P s oj.op):=tOp_away (a1.op oj.op)
  have hlook:∀s2:St,(∀t,oj.dst≠some t→lk s2.env t=lk s.env t)→∀t∈oi.looksAt ops,lk s.env t=lk s2.env t:=fun s2 he t ht=>(he t fun e=>h3 t e ht).symm
  rw[hdi]at back backD
  cases Ej with
  | put u=>
   have hu:s.kb+t∉u.ment:=putE_away (a1.op _) hEj
   refine back _ (hlook _ fun j hj=>put_lk hj) (fun k _=>by rw[put_hp]) (by rw[put_M];exact Mem.le.refl _) (newE_to oi1 (by rw[put_kb];exact a1.put _ hu) ?_)
   rw[put_kb]
   exact hK _ _ (new_put hjt) kEj
  | new T' cs'=>
   obtain ⟨t',ht',⟨o2,a2⟩,k2⟩:=newE_of kEj
   have htt:t≠t':=fun e=>hjt (by rw[ht',e])
   have a0:AwayS (s.kb+t') s:=by
    refine ⟨fun j=>?_,fun j T0 cs0 hj0=>?_,a2.fx⟩
    ·by_cases e:t=j
     ·rw[←e,hf t hdi];simp[AV.ment]
     ·have:=a2.env j;simp only[newSt,lk,if_neg e]at this;exact this
    ·by_cases e:s.kb+t=j
     ·exact absurd e.symm ((a1.hp _ _ _ hj0).1)
     ·have:=a2.hp j T0 cs0;simp only[newSt,lkH,if_neg e]at this;exact this hj0
   have hcs':s.kb+t∉mentL cs':=by rw[hEj.1]at hraj;exact hraj
   have hkk:s.kb+t≠s.kb+t':=by omega
   rw[ht']
   refine newE_to o2 a0 (back _ (hlook _ fun j hj=>?_) (fun k hk=>?_) (Mem.le.refl _) (newE_to oi1 ?_ ?_))
   ·simp only[newSt,lk];rw[if_neg fun e=>hj (by rw[ht',e])]
   ·simp only[newSt,lkH];rw[if_neg fun e=>a0.addr hk e.symm]
   ·refine ⟨fun j=>?_,fun j T0 cs0 hj0=>?_,a1.fx⟩
    ·simp only[newSt,lk]
     split
     ·rw[av_ment];simpa using by omega
     ·exact a1.env j
    ·simp only[newSt,lkH]at hj0
     split at hj0
     ·rename_i e
      cases hj0
      subst e
      exact ⟨fun e=>hkk e.symm,hcs'⟩
     ·exact a1.hp j T0 cs0 hj0
   ·exact hK _ _ (new_new htt hkk) k2
  | sto k cs'=>
   obtain ⟨ob,hjr,_⟩:=hEj
   rw[hjr]at hraj
   obtain ⟨b4,b3,b1,b2⟩:=hraj
   refine back _ (hlook _ fun t ht=>put_lk (s:={s with hp:=upH s.hp k cs'}) ht) (fun k' hk'=>?_) (by rw[put_M];exact Mem.le.refl _) (newE_to oi1 ?_ ?_)
   ·rw[put_hp]
    simp only[lkH_upH]
    have:=hc1 k' hk'
    rw[hjr]at this
    rw[if_neg fun e=>this (by simp[touchR,e])]
   ·rw[put_kb]
    refine AwayS.put (s:={s with hp:=upH s.hp k cs'}) ⟨a1.env,fun j T0 cs0 hj0=>?_,a1.fx⟩ _ (by simp[AV.ment])
    simp only[lkH_upH]at hj0
    split at hj0
    ·rename_i e
     subst e
     simp only[Option.map_eq_some_iff]at hj0
     obtain ⟨⟨T1,cs1⟩,h8,h9⟩:=hj0
     cases h9
     exact ⟨b1,b2⟩
    ·exact a1.hp j T0 cs0 hj0
   ·rw[put_kb]
    refine hK _ _ ?_ kEj
    refine Eqv.trans (Eqv.put (new_upH b1) oj.dst AV.unk) (new_put hjt)
  | call f args=>
   have hcall:=hEj.1
   rw[hcall]at hraj
   have hm:s.kb+t∉mentL (normL args):=by rw[mentL_norm];exact hraj
   simp only[effK,CallK0]at kEj ⊢
   have hreach:reachK (newSt s t (s.kb+t) D cs).hp (mentL (normL args))=reachK s.hp (mentL (normL args)):=reach_agree fun k hk=>by
    simp only[newSt,lkH];rw[if_neg fun e=>hm (by rw[e];exact hk)]
   have hmr:s.kb+t∉reachK s.hp (mentL (normL args)):=fun hx=>by
    unfold reachK at hx
    rcases List.mem_append.1 hx with hx|hx
    ·obtain ⟨j,hj,T0,cs0,h8,h9⟩:=cellsK_mem hx
     exact (a1.hp j T0 cs0 h8).2 h9
    ·exact hm hx
   have hsub:∀k,lkH (subH (newSt s t (s.kb+t) D cs).hp (reachK (newSt s t (s.kb+t) D cs).hp (mentL (normL args)))) k=lkH (subH s.hp (reachK s.hp (mentL (normL args)))) k:=fun k=>by
    rw[hreach]
    simp only[lkH_sub]
    split
    ·rename_i hk;simp only[newSt,lkH];rw[if_neg fun e=>hmr (by rw[e];exact hk)]
    ·rfl
   refine CallS_mono (fun u H' M' _ _ _ _ _ hl hk=>?_) (CallS_eqv hsub kEj)
   obtain ⟨hnk,hk⟩:=hk
   have hnk0:∀k,(lkH H' k).isSome=true→(lkH (subH s.hp (reachK s.hp (mentL (normL args)))) k).isSome=true∨(AwayS k s∧k≠s.kb+t):=fun k hk=>by
    rcases newKeys_ok hnk k hk with h8|h8
    ·left;rw[←hsub];exact h8
    ·right
     have a2:=AwayS.of h8
     have hkt:k≠s.kb+t:=fun e=>(a2.hp (s.kb+t) D.T cs (by simp[newSt,lkH])).1 e.symm
     refine ⟨⟨fun j=>?_,fun j T0 cs0 hj0=>?_,a2.fx⟩,hkt⟩
     ·by_cases e:t=j
      ·rw[←e,hf t hdi];simp[AV.ment]
      ·have:=a2.env j;simp only[newSt,lk,if_neg e]at this;exact this
     ·by_cases e:s.kb+t=j
      ·exact absurd e.symm ((a1.hp _ _ _ hj0).1)
      ·have:=a2.hp j T0 cs0;simp only[newSt,lkH,if_neg e]at this;exact this hj0
   have hH':lkH H' (s.kb+t)=none:=by
    cases h7:lkH H' (s.kb+t) with
    | none=>rfl
    | some x=>
     rcases hnk0 _ (by rw[h7];rfl) with h8|⟨_,h8⟩
     ·rw[lkH_sub,if_neg hmr]at h8;cases h8
     ·exact absurd rfl h8
   obtain ⟨m1,m2⟩:=hl.ment _ hH'
   refine ⟨newKeys_of fun k hk'=>(hnk0 k hk').imp id fun ha=>ha.1.to,?_⟩
   refine back _ (hlook _ fun t ht=>by rw[put_lk ht]) (fun k hk'=>?_) (by rw[put_M];exact hl.le) (newE_to oi1 ?_ ?_)
   ·rw[put_hp]
    simp only[lkH_join]
    cases h7:lkH H' k with
    | none=>rfl
    | some x=>
     exfalso
     rcases hnk0 k (by rw[h7];rfl) with h8|⟨h8,_⟩
     ·rw[lkH_sub]at h8
      split at h8
      ·rename_i hm2
       have h5:=hc1 k hk'
       rw[hcall]at h5
       simp only[touchR]at h5
       rw[←mentL_norm,hreach]at h5
       exact h5 hm2
      ·cases h8
     ·exact h8.addr hk' rfl
   ·rw[put_kb]
    refine AwayS.put (s:=({env:=s.env,hp:=joinH s.hp H',M:=M',kb:=s.kb,fx:=s.fx,fr:=s.fr}:St)) ⟨a1.env,fun j T0 cs0 hj0=>?_,a1.fx⟩ _ m1
    simp only[lkH_join]at hj0
    cases h7:lkH H' j with
    | none=>rw[h7]at hj0;exact a1.hp j T0 cs0 hj0
    | some x=>
     rw[h7]at hj0
     have hx:x=(T0,cs0):=by simpa using hj0
     subst hx
     refine ⟨fun e=>?_,m2 _ _ _ h7⟩
     rw[e,hH']at h7
     cases h7
   ·rw[put_kb]
    refine hK _ _ ?_ hk
    refine Eqv.trans (Eqv.put (s:=({env:=(newSt s t (s.kb+t) D cs).env,hp:=joinH (newSt s t (s.kb+t) D cs).hp H',M:=M',kb:=(newSt s t (s.kb+t) D cs).kb,fx:=(newSt s t (s.kb+t) D cs).fx,fr:=(newSt s t (s.kb+t) D cs).fr}:St)) (z:=newSt ({env:=s.env,hp:=joinH s.hp H',M:=M',kb:=s.kb,fx:=s.fx,fr:=s.fr}:St) t (s.kb+t) D cs) ⟨fun _=>rfl,fun j=>?_,rfl,rfl,rfl,rfl⟩ oj.dst u) (new_put hjt)
    simp only[newSt,lkH_join,lkH]
    by_cases e:s.kb+t=j
    ·subst e;simp[hH']
    ·simp[e]
  | app ts args=>
   have happ:=hEj.1
   rw[happ]at hraj
   have hraj:s.kb+t∉mentL args:=hraj
   have haw0:∀k,AwayS k (newSt s t (s.kb+t) D cs)→AwayS k s:=fun k a2=>by
    refine ⟨fun j=>?_,fun j T0 cs0 hj0=>?_,a2.fx⟩
    ·by_cases e:t=j
     ·rw[←e,hf t hdi];simp[AV.ment]
     ·have:=a2.env j;simp only[newSt,lk,if_neg e]at this;exact this
    ·by_cases e:s.kb+t=j
     ·exact absurd e.symm ((a1.hp _ _ _ hj0).1)
     ·have:=a2.hp j T0 cs0;simp only[newSt,lkH,if_neg e]at this;exact this hj0
   simp only[effK]at kEj ⊢
   refine appR_map (z:=s) (s:=newSt s t (s.kb+t) D cs) kEj rfl rfl rfl (fun k hk=>by simp only[newSt,lkH];rw[if_neg fun e=>hraj (by rw[e];exact hk)]) (fun d' _ ha=>(haw0 _ (AwayS.of ha)).to) (fun k off q z' d' m e zz cs0 new y hargs hd hmm hk=>?_) (fun d' m e zz new hd ha hkn hnm hk=>?_)
   ·have hkk:k∈killR (tOp P s oj.op):=by rw[happ,hargs];simp[killR,AV.ment]
    have ha:=hc2 k hkk
    have hkne:k≠s.kb+t:=fun e=>hraj (by rw[hargs,←e];simp[mentL,AV.ment])
    have ha0:AwayOp k s oi.op:=⟨fun x hx=>by rw[←hopi x hx];exact ha.ops x hx,fun j hj T cs hl=>by rw[←off_same hopi];exact ha.hp j (by rw[addr_same hopi];exact hj) T cs (by
     simp only[newSt,lkH]
     obtain ⟨x,_,hx⟩:=addr_ment hj
     rw[if_neg (hne j ⟨x,hx⟩)];exact hl)⟩
    have htd:d'≠t:=fun e=>hjt (by rw[hd,e])
    have hcc:s.kb+t∉mentL (cs0++new):=fun hx=>by
     obtain ⟨i,hi,T1,cs1,h8,h9⟩:=hmm _ hx
     simp only[newSt,lkH]at h8
     rw[if_neg fun e=>hraj (by rw[e];exact hi)]at h8
     exact (a1.hp i T1 cs1 h8).2 h9
    refine backD _ (fun t' ht=>?_) (fun j hj=>?_) (Mem.le.refl _) (newE_to oi1 (awayS_app a1 hkne hcc) (hK _ _ (app_new htd hkne (hcs k ha0)) hk))
    ·simp only[appSt,lk]
     rw[if_neg fun e=>h3 t' (by rw[hd,e]) ht,lk_killE,kill_id (looks_ment hEi ha0 ht)]
    ·exact app_hp ha0 hj
   ·have a2:=AwayS.of ha
    have a0:=haw0 _ a2
    have hkk:s.kb+t≠s.kb+d':=fun e=>(a2.hp (s.kb+t) D.T cs (by simp[newSt,lkH])).1 e
    have htt:t≠d':=fun e=>hkk (by rw[e])
    refine back _ (hlook _ fun j hj=>?_) (fun k hk=>?_) (Mem.le.refl _) (newE_to oi1 ⟨fun j=>?_,fun j T0 cs0 hj0=>?_,a1.fx⟩ (hK _ _ (new_new htt hkk) hk))
    ·simp only[newSt,lk];rw[if_neg fun e=>hj (by rw[hd,e])]
    ·simp only[newSt,lkH];rw[if_neg fun e=>a0.addr hk e.symm]
    ·simp only[newSt,lk]
     split
     ·rw[av_ment];simpa using hkk
     ·exact a1.env j
    ·simp only[newSt,lkH]at hj0
     split at hj0
     ·rename_i e
      cases hj0
      subst e
      refine ⟨fun e=>hkk e.symm,fun hm=>?_⟩
      obtain ⟨j,hj,T1,cs1,h8,h9⟩:=hnm _ hm
      simp only[newSt,lkH]at h8
      rw[if_neg fun e=>hraj (by rw[e];exact hj)]at h8
      exact (a1.hp j T1 cs1 h8).2 h9
     ·exact a1.hp j T0 cs0 hj0
 ·obtain ⟨⟨pj,hc⟩,hj⟩:=kEi
  obtain ⟨e1,_,_⟩:=fwd (s.put oi.dst v) pj (fun t ht=>put_lk ht) (fun k _=>by rw[put_hp]) put_M
  rw[←e1];exact pj
 ·obtain ⟨t,hdi,⟨oi1,a1⟩,k1⟩:=newE_of kEi
  obtain ⟨⟨pj,hc⟩,hj⟩:=k1
  obtain ⟨e1,_,_⟩:=fwd (newSt s t (s.kb+t) D cs) pj (fun j hj=>by simp only[newSt,lk];rw[if_neg fun e=>hj (by rw[hdi,e])])
   (fun k ⟨x,hx⟩=>by simp only[newSt,lkH];rw[if_neg fun e=>away_ev a1.env x (by rw[e];exact hx)]) rfl
  rw[←e1];exact pj
end
end Go.Proofs.Ytjapnklocibgaaa.Sx
