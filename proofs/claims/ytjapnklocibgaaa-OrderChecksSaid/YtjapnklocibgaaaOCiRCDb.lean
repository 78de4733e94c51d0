/- Part 11 of the texts of this claim: a symbolic executor and contracts of functions. -/
import Derived.Test.YtjapnklocibgaaaOCiRCDa
namespace Go.Proofs.Ytjapnklocibgaaa.Sx
open Go Go.RowKit
set_option linter.unusedVariables false
set_option linter.unusedSimpArgs false
section
variable {P:Program}{c:Cx}{n:Nat}{s z:St}{ρ:Rho}{a:Act}{w:World}
inductive Eff where
 | put (v:AV)
 | new (T:NewD) (cs:List AV)
 | sto (k:Nat) (cs:List AV)
 | call (f:FuncId) (args:List AV)
 | app (ts:List TypeId) (args:List AV)
def PutG(r:Res)(g:Bool)(v:AV):Prop:=
 match r with
 | .put ob (.ext x)=>(g=true→ob)∧v=.gd g x
 | .put ob (.gd g' x)=>(g=true→g'=true∧ob)∧v=.gd g x
 | .put ob (.own k off)=>(g=true→ob)∧v=.gown g k off
 | .put ob u=>(g=true∧ob∧v=u)∨(g=false∧v=.ext undef)
 | _=>g=false∧v=.ext undef
def PutE(r:Res)(gd:Option (Nat×Bool))(gb:Option Bool)(v:AV):Prop:=
 match gd with
 | none=>∃ob,r=.put ob v∧ob
 | some _=>∃g,gb=some g∧PutG r g v
def effOK(P:Program)(r:Res)(gd:Option (Nat×Bool))(gb:Option Bool):Eff→Prop
 | .put v=>PutE r gd gb v
 | .new T cs=>r=.new T cs∧gb=some true
 | .sto k cs=>∃ob,r=.sto ob k cs∧ob∧gb=some true
 | .call f args=>r=.call f args∧callsB P f=true∧gb=some true
 | .app ts args=>r=.gen (.app ts args)∧gb=some true
def effK(P:Program)(d:Option Nat)(s:St)(K:St→Prop):Eff→Prop
 | .put v=>K (s.put d v)
 | .new T cs=>newK s d T cs K
 | .sto k cs=>K ({s with hp:=upH s.hp k cs}.put d .unk)
 | .call f args=>CallK0 P f (normL args) s d K
 | .app ts args=>appR P s ts args d K
def plainR:Res→Prop
 | .ask=>False
 | .bad=>False
 | _=>True
theorem fin_eff{o:Oper}{K:St→Prop}{r:Res}{gd:Option (Nat×Bool)}(h:finD P o s K r)(hg:gd=none∨∃x,gd=some x∧∀ob v,r≠.put ob v) :
  ∃E,effOK P r gd (some true) E∧effK P o.dst s K E:=by
 cases r with
 | bad=>exact h.elim
 | put ob v=>
  rcases hg with rfl|⟨x,_,hn⟩
  ·exact ⟨.put v,⟨ob,rfl,h.1⟩,h.2⟩
  ·exact absurd rfl (hn ob v)
 | sto ob k cs=>exact ⟨.sto k cs,⟨ob,rfl,h.1,rfl⟩,h.2⟩
 | new T cs=>exact ⟨.new T cs,⟨rfl,rfl⟩,h⟩
 | call f args=>exact ⟨.call f args,⟨rfl,h.1,rfl⟩,h.2⟩
 | gen G=>cases G;exact ⟨.app _ _,⟨rfl,rfl⟩,h⟩
 | ask=>exact h.elim
theorem step_eff{ops:List Oper}{o:Oper}{K:St→Prop}(h:stepD P ops o s K o.guard) :
  ∃E,effOK P (tOp P s o.op) o.guard (guardB ops s o.guard) E∧effK P o.dst s K E:=by
 cases hgd:o.guard with
 | none=>
  rw[hgd]at h
  exact fin_eff h (.inl rfl)
 | some jw=>
  rw[hgd]at h
  simp only[stepD]at h
  cases hg:guardB ops s (some jw) with
  | none=>rw[hg]at h;exact h.elim
  | some g=>
   rw[hg]at h
   simp only[stepGD]at h
   generalize tOp P s o.op=r at h ⊢
   cases r with
   | put ob v=>
    have gen:(∀g,PutG (.put ob v) g=fun u=>(g=true∧ob∧u=v)∨(g=false∧u=.ext undef))→brv g (finD P o s K (.put ob v)) (K (s.put o.dst (.ext undef)))→
      ∃E,effOK P (.put ob v) (some jw) (some g) E∧effK P o.dst s K E:=fun hp hb=>by
     cases g
     ·exact ⟨.put (.ext undef),⟨false,rfl,by rw[hp];exact .inr ⟨rfl,rfl⟩⟩,hb.2 rfl⟩
     ·have:=hb.1 rfl
      exact ⟨.put v,⟨true,rfl,by rw[hp];exact .inl ⟨rfl,this.1,rfl⟩⟩,this.2⟩
    cases v with
    | ext x=>exact ⟨.put (.gd g x),⟨g,rfl,h.1,rfl⟩,h.2⟩
    | gd g' x=>exact ⟨.put (.gd g x),⟨g,rfl,h.1,rfl⟩,h.2⟩
    | own k off=>exact ⟨.put (.gown g k off),⟨g,rfl,h.1,rfl⟩,h.2⟩
    | _=>exact gen (fun _=>rfl) h
   | _=>
    cases g
    ·exact ⟨.put (.ext undef),⟨false,rfl,rfl,rfl⟩,h.2 rfl⟩
    ·exact fin_eff (h.1 rfl) (.inr ⟨jw,rfl,fun ob v e=>by cases e⟩)
theorem eff_step{ops:List Oper}{o:Oper}{K:St→Prop}{E:Eff}(hE:effOK P (tOp P s o.op) o.guard (guardB ops s o.guard) E)(h:effK P o.dst s K E):stepD P ops o s K o.guard:=by
 cases hgd:o.guard with
 | none=>
  rw[hgd]at hE
  simp only[stepD]
  cases E with
  | put v=>obtain ⟨ob,hr,ho⟩:=hE;rw[hr];exact ⟨ho,h⟩
  | new T cs=>rw[hE.1];exact h
  | sto k cs=>obtain ⟨ob,hr,ho,_⟩:=hE;rw[hr];exact ⟨ho,h⟩
  | call f args=>rw[hE.1];exact ⟨hE.2.1,h⟩
  | app ts args=>rw[hE.1];exact h
 | some jw=>
  rw[hgd]at hE
  simp only[stepD]
  cases E with
  | put v=>
   obtain ⟨g,hg,hp⟩:=hE
   rw[hg]
   simp only[stepGD]
   generalize tOp P s o.op=r at hp ⊢
   cases r with
   | put ob u=>
    cases u with
    | ext x=>obtain ⟨h1,rfl⟩:=hp;exact ⟨h1,h⟩
    | gd g' x=>obtain ⟨h1,rfl⟩:=hp;exact ⟨h1,h⟩
    | own k off=>obtain ⟨h1,rfl⟩:=hp;exact ⟨h1,h⟩
    | _=>
     rcases hp with ⟨rfl,h1,rfl⟩|⟨rfl,rfl⟩
     ·exact ⟨fun _=>⟨h1,h⟩,fun e=>by cases e⟩
     ·exact ⟨fun e=>(by cases e),fun _=>h⟩
   | _=>obtain ⟨rfl,rfl⟩:=hp;exact ⟨fun e=>(by cases e),fun _=>h⟩
  | new T cs=>obtain ⟨hr,hg⟩:=hE;rw[hg];simp only[stepGD];rw[hr];exact ⟨fun _=>h,fun e=>by cases e⟩
  | sto k cs=>obtain ⟨ob,hr,ho,hg⟩:=hE;rw[hg];simp only[stepGD];rw[hr];exact ⟨fun _=>⟨ho,h⟩,fun e=>by cases e⟩
  | call f args=>obtain ⟨hr,hb,hg⟩:=hE;rw[hg];simp only[stepGD];rw[hr];exact ⟨fun _=>⟨hb,h⟩,fun e=>by cases e⟩
  | app ts args=>obtain ⟨hr,hg⟩:=hE;rw[hg];simp only[stepGD];rw[hr];exact ⟨fun _=>h,fun e=>by cases e⟩
theorem AwayS.of{k:Nat}(h:awayP k s):AwayS k s:=awayP_S h
theorem AwayS.to{k:Nat}(h:AwayS k s):awayP k s:=.inr h
theorem AwayS.op{k:Nat}(h:AwayS k s)(op:Op):AwayOp k s op:=⟨fun x _=>away_ev h.env x,fun j _ T cs hj hm=>(h.hp j T cs hj).2 (mentL_drop hm)⟩
theorem AwayS.put{k:Nat}(h:AwayS k s)(d:Option Nat){v:AV}(hv:k∉v.ment):AwayS k (s.put d v):=by
 cases d with
 | none=>exact h
 | some d=>
  refine ⟨fun t=>?_,h.hp,h.fx⟩
  simp only[St.put,lk]
  by_cases e:d=t
  ·simp only[e,if_true];exact hv
  ·simp only[e,if_false];exact h.env t
theorem putE_away{k:Nat}{op:Op}{gd:Option (Nat×Bool)}{gb:Option Bool}{v:AV}(h:AwayOp k s op)(he:PutE (tOp P s op) gd gb v):k∉v.ment:=by
 have ha:=tOp_away (P:=P) h
 cases gd with
 | none=>obtain ⟨ob,hr,_⟩:=he;rw[hr]at ha;exact ha
 | some x=>
  obtain ⟨g,_,hp⟩:=he
  generalize hr:tOp P s op=r at hp ha
  cases r with
  | put ob u=>
   cases u with
   | ext x=>rw[hp.2];simp[AV.ment]
   | gd g' x=>rw[hp.2];simp[AV.ment]
   | own j off=>rw[hp.2];exact ha
   | _=>
    rcases hp with ⟨_,_,rfl⟩|⟨_,rfl⟩
    ·exact ha
    ·simp[AV.ment]
  | _=>rw[hp.2];simp[AV.ment]
theorem CallS_mono{f:FuncId}{args:List AV}{H:Hp}{M:Mem}{mv:List Nat}{K K':AV→Hp→Mem→Prop}
  (hK:∀v H' M' ρ ρ' w u w',Left mv H M ρ ρ' w u v H' M' w'→K v H' M'→K' v H' M') (h:CallS P f args H M mv K):CallS P f args H M mv K':=
 fun ρ w us hh he=>Calls.mono (h ρ w us hh he) fun e w' ⟨u,v,H',M',ρ',e1,k,l⟩=>⟨u,v,H',M',ρ',e1,hK _ _ _ _ _ _ _ _ l k,l⟩
theorem HeapIs.eqv{H H2:Hp}{M:Mem}(e:∀k,lkH H k=lkH H2 k)(h:HeapIs ρ H M w):HeapIs ρ H2 M w:=
 ⟨fun k T cs b hk=>h.hp k T cs b (by rw[e];exact hk),fun k T cs hk=>h.no k T cs (by rw[e];exact hk),fun k k' b b' hk hk'=>h.inj k k' b b' (by rw[e];exact hk) (by rw[e];exact hk'),h.sub⟩
theorem Left.eqv{mv:List Nat}{H H2 H':Hp}{M M':Mem}{ρ':Rho}{u:Value}{v:AV}{w':World}(e:∀k,lkH H k=lkH H2 k)(h:Left mv H M ρ ρ' w u v H' M' w'):Left mv H2 M ρ ρ' w u v H' M' w':=by
 refine {h with keep:=fun k hk=>h.keep k (by rw[e];exact hk),same:=fun k hk=>h.same k (by rw[e];exact hk),fresh:=fun k b h1 h2=>?_,block:=fun b hb hh=>h.block b hb fun k x hk=>hh k x (by rw[←e];exact hk)}
 rcases h.fresh k b h1 h2 with h3|⟨j,x,h4,h5⟩
 ·exact .inl h3
 ·exact .inr ⟨j,x,by rw[←e];exact h4,h5⟩
theorem CallS_eqv{f:FuncId}{args:List AV}{H H2:Hp}{M:Mem}{mv:List Nat}{K:AV→Hp→Mem→Prop}(e:∀k,lkH H k=lkH H2 k)(h:CallS P f args H M mv K):CallS P f args H2 M mv K:=
 fun ρ w us hh he=>Calls.mono (h ρ w us (hh.eqv fun k=>(e k).symm) he) fun x w' ⟨u,v,H',M',ρ',e1,k,l⟩=>⟨u,v,H',M',ρ',e1,k,l.eqv e⟩
theorem newKeys_of{H:Hp}:∀{H':Hp},(∀k,(lkH H' k).isSome=true→(lkH H k).isSome=true∨awayP k s)→newKeys s H H'
 | [],_=>trivial
 | (j,x) :: r,h=>⟨h j (by simp[lkH]),newKeys_of fun k hk=>h k (by
   simp only[lkH];split
   ·rfl
   ·exact hk)⟩
theorem reach_agree{hp hp':Hp}{ks:List Nat}(h:∀k∈ks,lkH hp k=lkH hp' k):reachK hp ks=reachK hp' ks:=by
 have one:∀{ks:List Nat},(∀k∈ks,lkH hp k=lkH hp' k)→cellsK hp ks=cellsK hp' ks:=by
  intro ks
  induction ks with
  | nil=>intro _;rfl
  | cons k r ih=>intro h;simp only[cellsK,h k (by simp),ih fun j hj=>h j (by simp[hj])]
 unfold reachK;rw[one h]
def newSt(s:St)(t k:Nat)(T:NewD)(cs:List AV):St:={env:=(t,T.av k) :: s.env,hp:=(k,T.T,cs) :: s.hp,M:=s.M,kb:=s.kb,fx:=s.fx,fr:=s.fr}
theorem av_ment{D:NewD}{j:Nat}:(D.av j).ment=[j]:=by
 unfold NewD.av
 split<;>rfl
theorem newE_of{d:Option Nat}{T:NewD}{cs:List AV}{K:St→Prop}(h:effK P d s K (.new T cs)):∃t,d=some t∧(T.ob∧AwayS (s.kb+t) s)∧K (newSt s t (s.kb+t) T cs):=by
 cases d with
 | none=>exact h.elim
 | some t=>exact ⟨t,rfl,⟨h.1.1,AwayS.of h.1.2⟩,h.2⟩
theorem newE_to{t:Nat}{T:NewD}{cs:List AV}{K:St→Prop}(ho:T.ob)(h:AwayS (s.kb+t) s)(hk:K (newSt s t (s.kb+t) T cs)):effK P (some t) s K (.new T cs):=⟨⟨ho,h.to⟩,hk⟩
theorem put_lk{d:Option Nat}{v:AV}{t:Nat}(h:d≠some t):lk (s.put d v).env t=lk s.env t:=by
 cases d with
 | none=>rfl
 | some d=>simp only[St.put,lk];rw[if_neg fun e=>h (by rw[e])]
theorem put_hp{d:Option Nat}{v:AV}:(s.put d v).hp=s.hp:=by cases d<;>rfl
theorem put_M{d:Option Nat}{v:AV}:(s.put d v).M=s.M:=by cases d<;>rfl
theorem put_kb{d:Option Nat}{v:AV}:(s.put d v).kb=s.kb:=by cases d<;>rfl
theorem put_fx{d:Option Nat}{v:AV}:(s.put d v).fx=s.fx:=by cases d<;>rfl
theorem put_fr{d:Option Nat}{v:AV}:(s.put d v).fr=s.fr:=by cases d<;>rfl
theorem put_comm{d e:Option Nat}{v u:AV}(h:∀t,d=some t→e≠some t):Eqv ((s.put d v).put e u) ((s.put e u).put d v):=by
 cases d with
 | none=>exact .refl _
 | some d=>cases e with
  | none=>exact .refl _
  | some e=>
   refine ⟨fun t=>?_,fun _=>rfl,rfl,rfl,rfl,rfl⟩
   have hde:¬e=d:=fun x=>h d rfl (by rw[x])
   simp only[St.put,lk]
   by_cases h1:d=t
   ·subst h1;simp[hde]
   ·simp[h1]
theorem new_put{d:Option Nat}{v:AV}{t k:Nat}{T:NewD}{cs:List AV}(h:d≠some t):Eqv ((newSt s t k T cs).put d v) (newSt (s.put d v) t k T cs):=by
 refine ⟨fun j=>?_,fun j=>?_,?_,?_,?_,?_⟩
 ·cases d with
  | none=>rfl
  | some d=>
   have hdt:¬d=t:=fun x=>h (by rw[x])
   simp only[St.put,newSt,lk]
   by_cases h1:t=j
   ·subst h1;simp[hdt]
   ·simp[h1]
 ·simp[newSt,put_hp]
 ·simp[newSt,put_M]
 ·simp[newSt,put_kb]
 ·simp[newSt,put_fx]
 ·simp[newSt,put_fr]
theorem new_new{t t' k k':Nat}{T T':NewD}{cs cs':List AV}(h:t≠t')(hk:k≠k'):Eqv (newSt (newSt s t k T cs) t' k' T' cs') (newSt (newSt s t' k' T' cs') t k T cs):=by
 refine ⟨fun j=>?_,fun j=>?_,rfl,rfl,rfl,rfl⟩
 ·simp only[newSt,lk];by_cases h1:t'=j
  ·subst h1;simp[h]
  ·simp[h1]
 ·simp only[newSt,lkH];by_cases h1:k'=j
  ·subst h1;simp[hk]
  ·simp[h1]
theorem new_upH{t k j:Nat}{T:NewD}{cs cs':List AV}(h:j≠k) :
  Eqv {newSt s t k T cs with hp:=upH (newSt s t k T cs).hp j cs'} (newSt {s with hp:=upH s.hp j cs'} t k T cs):=by
 refine ⟨fun _=>rfl,fun i=>?_,rfl,rfl,rfl,rfl⟩
 simp only[newSt,upH,if_neg (Ne.symm h)]
theorem eqv_upH(e:Eqv s z)(k:Nat)(cs:List AV):Eqv {s with hp:=upH s.hp k cs} {z with hp:=upH z.hp k cs}:=by
 refine ⟨e.env,fun j=>?_,e.M,e.kb,e.fx,e.fr⟩
 simp only[lkH_upH,e.hp]
theorem eqv_new(e:Eqv s z)(t k:Nat)(T:NewD)(cs:List AV):Eqv (newSt s t k T cs) (newSt z t k T cs):=by
 refine ⟨fun j=>?_,fun j=>?_,e.M,e.kb,e.fx,e.fr⟩
 ·simp only[newSt,lk,e.env]
 ·simp only[newSt,lkH,e.hp]
theorem AwayS.eqv{k:Nat}(h:AwayS k s)(e:Eqv s z):AwayS k z:=⟨fun t=>by rw[←e.env];exact h.env t,fun j T cs hj=>h.hp j T cs (by rw[e.hp];exact hj),by rw[←e.fx];exact h.fx⟩
def appSt(s:St)(d k q z:Nat)(e:TypeId)(cs:List AV):St:={env:=(d,.slo k 0 q z) :: killE k s.env,hp:=(k,e,cs) :: killH k s.hp,M:=s.M,kb:=s.kb,fx:=s.fx,fr:=s.fr}
theorem mentL_cut{b:Bool}{n:Nat}{cs:List AV}{k:Nat}(h:k∈mentL (cutC b n cs)):k∈mentL cs:=by
 cases b with
 | true=>exact mentL_take h
 | false=>exact h
theorem appR_map{s z:St}{ts:List TypeId}{args:List AV}{d:Option Nat}{K K':St→Prop}(h:appR P s ts args d K)
  (hM:s.M=z.M) (hkb:s.kb=z.kb) (hfx:s.fx=z.fx) (hhp:∀k∈mentL args,lkH s.hp k=lkH z.hp k)
  (haw:∀d',d=some d'→awayP (s.kb+d') s→awayP (s.kb+d') z)
  (hA:∀k off q z' d' m e zz cs new y,args=[.slo k off q z',y]→d=some d'→(∀j∈mentL (cs++new),∃i∈mentL args,∃T cs1,lkH s.hp i=some (T,cs1)∧j∈mentL cs1)→K (appSt s d' k (q+m) zz e (cs++new))→K' (appSt z d' k (q+m) zz e (cs++new)))
  (hB:∀d' m e zz new,d=some d'→awayP (s.kb+d') s→hasK (s.kb+d') (mentL new)=false→(∀k∈mentL new,∃j∈mentL args,∃T cs,lkH s.hp j=some (T,cs)∧k∈mentL cs)→K (newSt s d' (s.kb+d') ⟨True,e,some (m,zz)⟩ new)→K' (newSt z d' (s.kb+d') ⟨True,e,some (m,zz)⟩ new)):appR P z ts args d K':=by
 have hsrc:∀zz t y,y∈args→srcA P s zz t y=srcA P z zz t y:=fun zz t y hy=>by
  have hl:∀k∈y.ment,lkH s.hp k=lkH z.hp k:=fun k hk=>hhp k (mentL_of hy hk)
  unfold srcA
  cases y with
  | slo k off q z'=>simp only[hl k (by simp[AV.ment])]
  | ext v=>simp only[hM]
  | _=>rfl
 have hnew:∀{zz t y ob m new},srcA P s zz t y=some (ob,m,new)→∀k∈mentL new,∃j∈y.ment,∃T cs,lkH s.hp j=some (T,cs)∧k∈mentL cs:=fun {zz t y ob m new} hs k hk=>by
  unfold srcA at hs
  split at hs
  ·split at hs
   ·rename_i hj
    cases hs
    exact ⟨_,by simp[AV.ment],_,_,hj,mentL_drop (mentL_take hk)⟩
   ·cases hs
  ·split at hs
   ·split at hs
    ·cases hs
     rw[show (List.map (fun b:UInt8=>AV.ext (.int .u8 b.toNat)) _)=_ from rfl,mentL_extf]at hk;cases hk
    ·cases hs
   ·split at hs
    ·cases hs;rw[mentL_ext]at hk;cases hk
    ·cases hs
  ·cases hs
 unfold appR at h ⊢
 split at h
 case h_2=>exact h.elim
 rename_i t t' x y
 split at h
 case h_2=>exact h.elim
 split at h
 case h_2=>exact h.elim
 rename_i e he _ _ _ zz by_ zs hz hby hzc
 split at h
 case h_2=>exact h.elim
 rename_i ob m new d' hs
 rw[hsrc _ _ y (by simp)]at hs
 simp only[he,hz,hby,hzc,hs]
 rw[←hsrc _ _ y (by simp)]at hs
 split at h
 ·rename_i k q z'
  rw[←hhp k (by simp[mentL,AV.ment])]
  split at h
  case h_2=>exact h.elim
  rename_i T cs hk
  obtain ⟨h1,h2⟩:=h
  refine ⟨by rw[←hfx,←hkb];exact h1,?_⟩
  have hA2:=hA k 0 q z' d' m e zz (cutC (cutB s.kb) (q*zz) cs) new y rfl rfl (fun j hj=>?_) h2
  ·rw[hkb]at hA2
   exact hA2
  rw[mentL_append,List.mem_append]at hj
  rcases hj with hj|hj
  ·exact ⟨k,by simp[mentL,AV.ment],_,_,hk,mentL_cut hj⟩
  ·obtain ⟨i,hi,T1,cs1,h10,h11⟩:=hnew hs j hj
   exact ⟨i,mentL_of (by simp) hi,T1,cs1,h10,h11⟩
 ·obtain ⟨⟨h1,h2,h3,h4,h5,h6,h7,h8⟩,h9⟩:=h
  refine ⟨⟨h1,h2,h3,h4,h5,by rw[←hkb];exact haw d' rfl h6,by rw[←hkb];exact h7,h8⟩,?_⟩
  have:=hB d' m e zz new rfl h6 h7 (fun k hk=>by
   obtain ⟨j,hj,T,cs,h10,h11⟩:=hnew hs k hk
   exact ⟨j,mentL_of (by simp) hj,T,cs,h10,h11⟩) h9
  rw[hkb]at this
  exact this
 ·exact h.elim
theorem eqv_app(e:Eqv s z)(d k q zz:Nat)(T:TypeId)(cs:List AV):Eqv (appSt s d k q zz T cs) (appSt z d k q zz T cs):=by
 refine ⟨fun j=>?_,fun j=>?_,e.M,e.kb,e.fx,e.fr⟩
 ·simp only[appSt,lk,lk_killE,e.env]
 ·simp only[appSt,lkH,lkH_killH,e.hp]
theorem effK_eqv{d:Option Nat}{K:St→Prop}{E:Eff}(hK:Closed K)(e:Eqv s z)(h:effK P d s K E):effK P d z K E:=by
 have haw:∀k,awayP k s→awayP k z:=fun k h=>((AwayS.of h).eqv e).to
 cases E with
 | put v=>exact hK _ _ (e.put d v) h
 | new T cs=>
  obtain ⟨t,rfl,⟨h0,h1⟩,h2⟩:=newE_of h
  exact newE_to h0 (by rw[←e.kb];exact h1.eqv e) (hK _ _ (by rw[←e.kb];exact eqv_new e ..) h2)
 | sto k cs=>exact hK _ _ ((eqv_upH e k cs).put d _) h
 | call f args=>
  have hr:reachK s.hp (mentL (normL args))=reachK z.hp (mentL (normL args)):=reach_agree fun k _=>e.hp k
  have hs:∀k,lkH (subH s.hp (reachK s.hp (mentL (normL args)))) k=lkH (subH z.hp (reachK z.hp (mentL (normL args)))) k:=fun k=>by simp only[lkH_sub,e.hp,hr]
  have h':=CallS_eqv hs h
  rw[e.M]at h'
  refine CallS_mono (fun v H' M' _ _ _ _ _ _ hk=>⟨newKeys_of fun k hk'=>?_,hK _ _ (Eqv.put (s:=({env:=s.env,hp:=joinH s.hp H',M:=M',kb:=s.kb,fx:=s.fx,fr:=s.fr}:St)) (z:=({env:=z.env,hp:=joinH z.hp H',M:=M',kb:=z.kb,fx:=z.fx,fr:=z.fr}:St)) ⟨e.env,fun k=>?_,rfl,e.kb,e.fx,e.fr⟩ d v) hk.2⟩) h'
  ·rcases newKeys_ok hk.1 k hk' with h1|h1
   ·exact .inl (by rw[←hs];exact h1)
   ·exact .inr (haw k h1)
  ·simp only[lkH_join,e.hp]
 | app ts args=>
  refine appR_map h e.M e.kb e.fx (fun k _=>e.hp k) (fun d' _ h=>haw _ h) (fun k off q z' d' m e' zz cs new y _ _ _ hk=>?_) (fun d' m e' zz new _ _ _ _ hk=>?_)
  ·exact hK _ _ (eqv_app e ..) hk
  ·exact hK _ _ (eqv_new e ..) hk
theorem effK_mono{d:Option Nat}{K K':St→Prop}{E:Eff}(hK:∀s':St,(∀t,d≠some t→(lk s.env t).ment=[]→(lk s'.env t).ment=[])→K s'→K' s')(h:effK P d s K E):effK P d s K' E:=by
 cases E with
 | put v=>exact hK _ (fun t ht hu=>by rw[put_lk ht];exact hu) h
 | new T cs=>
  obtain ⟨t,rfl,⟨h0,h1⟩,h2⟩:=newE_of h
  refine newE_to h0 h1 (hK _ (fun j hj hu=>?_) h2)
  simp only[newSt,lk]
  rw[if_neg fun x=>hj (by rw[x])];exact hu
 | sto k cs=>exact hK _ (fun t ht hu=>by rw[put_lk ht];exact hu) h
 | call f args=>exact CallS_mono (fun v H' M' _ _ _ _ _ _ hk=>⟨hk.1,hK _ (fun t ht hu=>by rw[put_lk ht];exact hu) hk.2⟩) h
 | app ts args=>
  refine appR_map h rfl rfl rfl (fun k _=>rfl) (fun d' _ h=>h) (fun k off q z' d' m e' zz cs new y _ hd _ hk=>hK _ (fun t ht hu=>?_) hk) (fun d' m e' zz new hd _ _ _ hk=>hK _ (fun t ht hu=>?_) hk)
  ·simp only[appSt,lk]
   rw[if_neg fun x=>ht (by rw[hd,x]),lk_killE]
   exact List.eq_nil_iff_forall_not_mem.2 fun x hx=>by
    have:=(kill_ment hx).2
    rw[hu]at this;cases this
  ·simp only[newSt,lk];rw[if_neg fun x=>ht (by rw[hd,x])];exact hu
end
end Go.Proofs.Ytjapnklocibgaaa.Sx
