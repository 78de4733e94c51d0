/- Part 14 of the texts of this claim: a symbolic executor and contracts of functions. -/
import Derived.Test.YtjapnklocibgaaaOCiRCDd
namespace Go.Proofs.Ytjapnklocibgaaa.Sx
open Go Go.RowKit
set_option linter.unusedVariables false
set_option linter.unusedSimpArgs false
structure Go1 (p:Prop):Prop where
 intro ::
 get:p
theorem Go1.mk{p:Prop}(h:Go1 p):p:=h.get
theorem Go1.go{p:Prop}(h:p):Go1 p:=⟨h⟩
def vcX(P:Program)(R:St→Prop)(id:Nat)(k:List Item)(s:St):Prop:=obl (hasBlk id k=true) (vc P R (popTo id k) s)
theorem vc_exit(P:Program)(R:St→Prop)(id:Nat)(k:List Item)(s:St):vc P R (.code (.exit id) :: k) s=vcX P R id k s:=by rw[vc.eq_6,vcX]
theorem vcX_blk(P:Program)(R:St→Prop)(id i:Nat)(k:List Item)(s:St):vcX P R id (.blk i :: k) s=if i=id then vc P R k s else vcX P R id k s:=by
 unfold vcX;simp only[hasBlk,popTo]
 by_cases e:i=id<;>simp[e,obl]
theorem vcX_code(P:Program)(R:St→Prop)(id:Nat)(c:Code)(k:List Item)(s:St):vcX P R id (.code c :: k) s=vcX P R id k s:=rfl
theorem vcX_stop(P:Program)(R:St→Prop)(id:Nat)(J:St→Prop)(k:List Item)(s:St):vcX P R id (.stop J :: k) s=vcX P R id k s:=rfl
theorem vcX_marks(P:Program)(R:St→Prop)(id:Nat)(l:List Nat)(k:List Item)(s:St):vcX P R id (.marks l :: k) s=vcX P R id k s:=rfl
theorem vcX_congr(P:Program)(R:St→Prop)(id:Nat)(k:List Item)(s s':St)(h:hold s=s'):vcX P R id k s=vcX P R id k s':=by subst h;rfl
theorem aggA_nil:aggA []=.ext (.agg #[]):=rfl
theorem aggA_cons(v:AV)(r:List AV):aggA (v :: r)=match vals (v :: r) with|some vs=>.ext (.agg vs.toArray)|none=>.ag false (v :: r):=rfl
theorem isSl_s(a:Option Addr)(n c:Nat):isSl (.slice a n c)=true:=rfl
theorem slen_s(a:Option Addr)(n c:Nat):slen (.slice a n c)=n:=rfl
theorem scap_s(a:Option Addr)(n c:Nat):scap (.slice a n c)=c:=rfl
theorem nilS_s(a:Option Addr)(n c:Nat):nilS (.slice a n c)=a.isNone:=rfl
theorem one_bool(b:Bool):(Value.bool b).oneCell'=true:=rfl
theorem one_int(k:IntKind)(n:Int):(Value.int k n).oneCell'=true:=rfl
theorem one_str(s:ByteArray):(Value.string s).oneCell'=true:=rfl
theorem one_ptr(a:Option Addr):(Value.pointer a).oneCell'=true:=rfl
theorem one_sli(a:Option Addr)(n c:Nat):(Value.slice a n c).oneCell'=true:=rfl
theorem one_map(r:Option Nat):(Value.map r).oneCell'=true:=rfl
theorem one_fun(f:Fn)(x y:Array Value):(Value.func f x y).oneCell'=true:=rfl
theorem one_nf:Value.nilFunc.oneCell'=true:=rfl
theorem one_ni:Value.nilIface.oneCell'=true:=rfl
theorem one_if(t:TypeId)(v:Value):(Value.iface t v).oneCell'=true:=rfl
theorem one_agg(c:Array Value):(Value.agg c).oneCell'=false:=rfl
theorem one_tup(c:Array Value):(Value.tuple c).oneCell'=false:=rfl
theorem one_sl{u:Value}(h:isSl u=true):u.oneCell'=true:=by cases u<;>first|rfl|cases h
theorem lookM_tup(P:Program)(T:TypeId)(M:Mem)(a:Array Value):lookM P T M (.tuple a)=none:=rfl
theorem isPt_p(a:Addr):isPt (.pointer (some a))=true:=rfl
theorem addP_p(a:Addr)(k:Nat):addP (.pointer (some a)) k=.pointer (some (a.add k)):=rfl
theorem gsplitD{P:Program}{ops:List Oper}{s s':St}{chk:List Nat}{T:TypeId}{g:Bool}{u:Value}{B:Prop}(h1:g=true→okR ops s chk (loadX P s' T (.gd g u))∧B)(h2:g=false→okR ops s chk (loadX P s' T (.gd g u))∧B):okR ops s chk (loadX P s' T (.gd g u))∧B:=by
 cases g with
 | true=>exact h1 rfl
 | false=>exact h2 rfl
theorem gsplitG{P:Program}{o:Oper}{s s':St}{K:St→Prop}{T:TypeId}{g g':Bool}{u:Value}(h1:g=true→finG P o s K g' (loadX P s' T (.gd g u)))(h2:g=false→finG P o s K g' (loadX P s' T (.gd g u))):finG P o s K g' (loadX P s' T (.gd g u)):=by
 cases g with
 | true=>exact h1 rfl
 | false=>exact h2 rfl
theorem Le.trans{s z y:St}(h:Le s z)(k:Le z y):Le s y:=fun c n ρ a w g=>by
 obtain ⟨ρ',g'⟩:=h c n ρ a w g
 exact k c n ρ' a w g'
def subE:Env→Env→Prop
 | [],_=>True
 | (t,v) :: r,e=>lk e t=v∧subE r e
def subHp:Hp→Hp→Prop
 | [],_=>True
 | (k,x) :: r,h=>lkH h k=some x∧subHp r h
def keepLt(kb:Nat)(z:Hp):Hp→Prop
 | []=>True
 | (k,_) :: r=>(kb≤k∨(lkH z k).isSome=true)∧keepLt kb z r
theorem subE_lk:∀{z e:Env},subE z e→∀t,lk z t=.unk∨lk z t=lk e t
 | [],_,_,t=>.inl rfl
 | (d,v) :: r,e,h,t=>by
  simp only[lk]
  split
  ·rename_i hd;subst hd;exact .inr h.1.symm
  ·exact subE_lk h.2 t
theorem subHp_lk:∀{z h:Hp},subHp z h→∀k x,lkH z k=some x→lkH h k=some x
 | [],_,_,k,x,hx=>by simp[lkH]at hx
 | (j,y) :: r,h,hs,k,x,hx=>by
  simp only[lkH]at hx
  split at hx
  ·rename_i e;subst e;cases hx;exact hs.1
  ·exact subHp_lk hs.2 k x hx
theorem keepLt_ok{kb:Nat}{z:Hp}:∀{h:Hp},keepLt kb z h→∀k,k<kb→(lkH h k).isSome=true→(lkH z k).isSome=true
 | [],_,k,_,hk=>by simp[lkH]at hk
 | (j,y) :: r,hs,k,hlt,hk=>by
  simp only[lkH]at hk
  split at hk
  ·rename_i e;subst e;exact hs.1.resolve_left (by omega)
  ·exact keepLt_ok hs.2 k hlt hk
theorem le_sub{s z:St}(h1:subE z.env s.env)(h2:subHp z.hp s.hp)(h3:z.M=s.M)(h4:z.kb=s.kb)(h5:z.fx=s.fx)(h6:keepLt s.kb z.hp s.hp)(h7:∀b,b∈z.fr→b∈s.fr:=by first|exact fun _ h=>h|exact fun _ h=>(List.not_mem_nil h).elim):Le s z:=fun c n ρ a w g=>by
 have hS:∀k,(lkH z.hp k).isSome=true→(lkH s.hp k).isSome=true:=fun k hk=>by
  obtain ⟨x,hx⟩:=Option.isSome_iff_exists.1 hk
  rw[subHp_lk h2 k x hx];rfl
 refine ⟨ρ,{df:=g.df,sz:=g.sz,env:=fun t=>?_,hp:=fun k T cs b hk hb=>?_,no:=fun k T cs hk hb=>g.no k T cs (subHp_lk h2 k _ hk) hb,inj:=fun k k' b b' hk hk'=>g.inj k k' b b' (hS k hk) (hS k' hk'),os:=g.os,tape:=g.tape,output:=g.output,size:=g.size,block:=g.block,sub:=by rw[h3];exact g.sub,le:=by rw[h3];exact g.le,mf:=by rw[h3];exact g.mf,fix:=fun k hk=>keepLt_ok h6 k (g.kl k hk) (g.fix k hk),fx:=by rw[h5];exact g.fx,kl:=by rw[h4];exact g.kl,fr:=fun b hb=>g.fr b (h7 b hb)}⟩
 ·rcases subE_lk h1 t with e|e
  ·rw[e];trivial
  ·rw[e];exact g.env t
 ·rw[h3];exact g.hp k T cs b (subHp_lk h2 k _ hk) hb
theorem le_nil{s:St}(t k:Nat)(T:TypeId)(zz:Nat)(h1:lk s.env t=.ext (.slice none 0 0))(h2:awayP k s):Le s {env:=(t,.slo k 0 0 zz) :: s.env,hp:=(k,T,[]) :: s.hp,M:=s.M,kb:=s.kb,fx:=s.fx,fr:=s.fr}:=fun c n ρ av w g=>by
 have hlk:∀j x,lkH ((k,T,[]) :: s.hp) j=some x→(j=k∧x=(T,[]))∨(j≠k∧lkH s.hp j=some x):=fun j x hj=>by
  by_cases e:k=j
  ·subst e;simp[lkH]at hj;exact .inl ⟨rfl,hj.symm⟩
  ·simp[lkH,e]at hj;exact .inr ⟨fun e2=>e e2.symm,hj⟩
 refine ⟨upd ρ k none,{df:=g.df,sz:=g.sz,env:=fun t'=>?_,hp:=fun j T' cs b hj hb=>?_,no:=fun j T' cs hj hb=>?_,inj:=fun j j' b b' hj hj' hb hb' e=>?_,os:=g.os,tape:=g.tape,output:=g.output,size:=g.size,block:=g.block,sub:=g.sub,le:=g.le,mf:=g.mf,fix:=fun j hj=>?_,fx:=fun j hj=>?_,kl:=g.kl,fr:=g.fr}⟩
 ·simp only[lk]
  split
  ·rename_i e
   subst e
   have:=g.env t
   rw[h1]at this
   exact .inr ⟨rfl,none,(fun x e=>by cases e),this⟩
  ·exact is_upd (awayP_env h2 t') (g.env t')
 ·rcases hlk j _ hj with ⟨rfl,hx⟩|⟨hne,hx⟩
  ·rw[upd_self]at hb;cases hb
  ·rw[upd_ne _ _ hne]at hb
   obtain ⟨⟨arr,f1⟩,f2⟩:=g.hp j T' cs b hx hb
   exact ⟨⟨arr,f1.there,f1.size,f1.le,fun i v hv=>is_upd (fun hm=>(awayP_hp h2 j T' cs hx).2 (mentL_get hv hm)) (f1.is i v hv)⟩,f2⟩
 ·rcases hlk j _ hj with ⟨rfl,hx⟩|⟨hne,hx⟩
  ·cases hx;rfl
  ·rw[upd_ne _ _ hne]at hb;exact g.no j T' cs hx hb
 ·obtain ⟨x,hx⟩:=Option.isSome_iff_exists.1 hj
  obtain ⟨x',hx'⟩:=Option.isSome_iff_exists.1 hj'
  rcases hlk j x hx with ⟨rfl,_⟩|⟨hne,hx1⟩
  ·rw[upd_self]at hb;cases hb
  ·rcases hlk j' x' hx' with ⟨rfl,_⟩|⟨hne',hx2⟩
   ·rw[upd_self]at hb';cases hb'
   ·rw[upd_ne _ _ hne]at hb
    rw[upd_ne _ _ hne']at hb'
    exact g.inj j j' b b' (by rw[hx1];rfl) (by rw[hx2];rfl) hb hb' e
 ·simp only[lkH]
  split
  ·rfl
  ·exact g.fix j hj
 ·rw[upd_ne _ _ fun e=>awayP_fx h2 (by rw[←e];exact hj)];exact g.fx j hj
structure SlM (M:Mem) (z:Nat) (u:Value) (n:Nat) (cs:List Value):Prop where
 sl:isSl u=true
 len:slen u=n
 cap:n≤scap u
 size:cs.length=n*z
 row:rowS M z u=some cs
theorem rowS_le{M M':Mem}(h:Mem.le M M'){z:Nat}{u:Value}{l:List Value}(hr:rowS M z u=some l):rowS M' z u=some l:=by
 unfold rowS at hr ⊢
 split at hr
 ·exact hr
 ·exact rowM_le h hr
 ·exact hr
 ·cases hr
theorem SlM.le{M M':Mem}{z n:Nat}{u:Value}{cs:List Value}(h:SlM M z u n cs)(hM:Mem.le M M'):SlM M' z u n cs:=⟨h.sl,h.len,h.cap,h.size,rowS_le hM h.row⟩
theorem SlM.cases{M:Mem}{z n:Nat}{u:Value}{cs:List Value}(h:SlM M z u n cs):(n=0∧cs=[]∧∃a c,u=.slice a 0 c)∨∃b off c,u=.slice (some ⟨b,off,none⟩) n c∧n≤c∧rowM M b off (n*z)=some cs:=by
 obtain ⟨h1,h2,h3,h4,h5⟩:=h
 unfold rowS at h5
 split at h5
 ·left;simp only[slen]at h2;cases h5;exact ⟨h2.symm,rfl,_,_,rfl⟩
 ·right;simp only[slen]at h2;subst h2;exact ⟨_,_,_,rfl,h3,h5⟩
 ·left;simp only[slen]at h2;cases h5;exact ⟨h2.symm,rfl,_,_,rfl⟩
 ·cases h5
theorem SlM.nn{M:Mem}{z n:Nat}{u:Value}{cs:List Value}(h:SlM M z u n cs)(h0:0<n):nilS u=false:=by
 rcases h.cases with ⟨h1,_⟩|⟨b,off,c,rfl,_⟩
 ·omega
 ·rfl
theorem rowM_get{M:Mem}{b:Nat}:∀{m off:Nat} {l:List Value},rowM M b off m=some l→l.length=m∧∀i v,l[i]? = some v→cellM M b (off+i)=some v
 | 0,off,l,h=>by simp only[rowM,Option.some.injEq]at h;subst h;simp
 | m+1,off,l,h=>by
  simp only[rowM]at h
  split at h
  ·rename_i v r h1 h2
   simp only[Option.some.injEq]at h
   subst h
   obtain ⟨h3,h4⟩:=rowM_get h2
   refine ⟨by simp[h3],fun i u hi=>?_⟩
   cases i with
   | zero=>simp at hi;subst hi;exact h1
   | succ i=>have:=h4 i u (by simpa using hi);rw[show off+(i+1)=off+1+i by omega];exact this
  ·cases h
theorem rowM_of{M:Mem}{b:Nat}:∀{m off:Nat} {l:List Value},l.length=m→(∀i v,l[i]? = some v→cellM M b (off+i)=some v)→rowM M b off m=some l
 | 0,off,l,h,_=>by have:l=[]:=List.eq_nil_of_length_eq_zero h;subst this;rfl
 | m+1,off,[],h,_=>by simp at h
 | m+1,off,v :: l,h,hc=>by
  simp only[rowM]
  rw[show cellM M b off=some v from hc 0 v rfl,rowM_of (l:=l) (by simpa using h) fun i u hi=>by have:=hc (i+1) u (by simpa using hi);rw[show off+(i+1)=off+1+i by omega]at this;exact this]
theorem SlM.at1{P:Program}{T:TypeId}{M:Mem}{n:Nat}{u:Value}{cs:List Value}(h:SlM M 1 u n cs)(hk:kindT P T=some false)(hz:szO P T=some 1){i:Nat}{v:Value}(hi:cs[i]? = some v):lookM P T M (elemP u 1 i)=some v:=by
 rcases h.cases with ⟨_,rfl,_⟩|⟨b,off,c,rfl,_,hr⟩
 ·simp at hi
 ·obtain ⟨_,h2⟩:=rowM_get hr
  simp only[elemP,addr_add,lookM,hk,hz,Nat.mul_one]
  exact h2 i v hi
theorem SlM.atS{P:Program}{T:TypeId}{M:Mem}{n z:Nat}{u:Value}{cs:List Value}(h:SlM M z u n cs)(hk:kindT P T=some true)(hz:szO P T=some z){i:Nat}(hi:i<n):lookM P T M (elemP u z i)=some (.agg ((cs.drop (i*z)).take z).toArray):=by
 rcases h.cases with ⟨h0,_⟩|⟨b,off,c,rfl,_,hr⟩
 ·omega
 ·obtain ⟨h1,h2⟩:=rowM_get hr
  have hle:(i+1)*z≤n*z:=Nat.mul_le_mul_right z hi
  rw[Nat.succ_mul]at hle
  simp only[elemP,addr_add,lookM,hk,hz]
  rw[rowM_of (l:=(cs.drop (i*z)).take z) (by simp;omega) fun j v hj=>?_]
  ·rfl
  ·have hjl:j<z:=by have:=(List.getElem?_eq_some_iff.1 hj).1;simp at this;omega
   rw[List.getElem?_take_of_lt hjl,List.getElem?_drop]at hj
   have:=h2 _ v hj
   rw[Nat.add_assoc];exact this
theorem SlM.pt{M:Mem}{z n:Nat}{u:Value}{cs:List Value}(h:SlM M z u n cs){i:Nat}(hi:i<n):isPt (elemP u z i)=true:=by
 rcases h.cases with ⟨h0,_⟩|⟨b,off,c,rfl,_,hr⟩
 ·omega
 ·rfl
theorem SlM.atF{P:Program}{T:TypeId}{M:Mem}{n z:Nat}{u:Value}{cs:List Value}(h:SlM M z u n cs)(hk:kindT P T=some false){zz:Nat}(hz:szO P T=some zz){i o:Nat}{v:Value}(hi:cs[i*z+o]? = some v)(hin:i<n):lookM P T M (addP (elemP u z i) o)=some v:=by
 rcases h.cases with ⟨h0,_⟩|⟨b,off,c,rfl,_,hr⟩
 ·omega
 ·obtain ⟨_,h2⟩:=rowM_get hr
  simp only[elemP,addP,addr_add,lookM,hk,hz]
  rw[Nat.add_assoc]
  exact h2 _ v hi
theorem SlM.atFS{P:Program}{T:TypeId}{M:Mem}{n z:Nat}{u:Value}{cs:List Value}(h:SlM M z u n cs)(hk:kindT P T=some true){zz:Nat}(hz:szO P T=some zz){i o:Nat}(hin:i<n)(ho:o+zz≤z):lookM P T M (addP (elemP u z i) o)=some (.agg ((cs.drop (i*z+o)).take zz).toArray):=by
 rcases h.cases with ⟨h0,_⟩|⟨b,off,c,rfl,_,hr⟩
 ·omega
 ·obtain ⟨h1,h2⟩:=rowM_get hr
  simp only[elemP,addP,addr_add,lookM,hk,hz]
  have hle:i*z+z≤n*z:=by
   have:=Nat.mul_le_mul_right z (show i+1≤n by omega)
   rw[Nat.succ_mul]at this
   exact this
  rw[Nat.add_assoc,rowM_of (l:=(cs.drop (i*z+o)).take zz) (by rw[List.length_take,List.length_drop];omega) fun j v hj=>?_]
  ·rfl
  ·have hj2:j<zz:=by
    have:=(List.getElem?_eq_some_iff.1 hj).1
    rw[List.length_take]at this;omega
   rw[List.getElem?_take_of_lt hj2,List.getElem?_drop]at hj
   have:=h2 _ v hj
   rw[←this];congr 1;omega
def IsL{α:Type}(M:Mem)(g:α→Value)(u:Value)(l:List α):Prop:=SlM M 1 u l.length (l.map g)
section
variable {α:Type}{M M':Mem}{g:α→Value}{u:Value}{l:List α}
theorem IsL.le(h:IsL M g u l)(hM:Mem.le M M'):IsL M' g u l:=SlM.le h hM
theorem IsL.sl(h:IsL M g u l):isSl u=true:=SlM.sl h
theorem IsL.one(h:IsL M g u l):u.oneCell'=true:=one_sl (SlM.sl h)
theorem IsL.len(h:IsL M g u l):slen u=l.length:=SlM.len h
theorem IsL.cap(h:IsL M g u l):l.length≤scap u:=SlM.cap h
theorem IsL.nn(h:IsL M g u l){i:Nat}(hi:i<l.length):nilS u=false:=SlM.nn h (by omega)
theorem IsL.at{P:Program}{T:TypeId}(h:IsL M g u l)(hk:kindT P T=some false)(hz:szO P T=some 1){i:Nat}(hi:i<l.length):lookM P T M (elemP u 1 i)=some (g l[i]):=SlM.at1 h hk hz (by simp[hi])
theorem IsL.row(h:IsL M g u l):rowS M 1 u=some (l.map g):=SlM.row h
end
def IsR{α:Type}(M:Mem)(z:Nat)(f:α→List Value)(u:Value)(l:List α):Prop:=SlM M z u l.length (l.flatMap f)
theorem flat_part{α:Type}{z:Nat}{f:α→List Value}(hf:∀x,(f x).length=z):∀(l:List α) (i:Nat) (h:i<l.length),((l.flatMap f).drop (i*z)).take z=f l[i]
 | [],i,h=>by simp at h
 | x :: l,0,h=>by simp[List.flatMap_cons,←hf x]
 | x :: l,i+1,h=>by
  have h1:(f x++l.flatMap f).drop ((i+1)*z)=(l.flatMap f).drop (i*z):=by
   rw[Nat.succ_mul,List.drop_append,hf x,Nat.add_sub_cancel,List.drop_eq_nil_of_le (by rw[hf x];omega),List.nil_append]
  rw[List.flatMap_cons,h1]
  simpa using flat_part hf l i (by simpa using h)
theorem flat_len{α:Type}{z:Nat}{f:α→List Value}(hf:∀x,(f x).length=z):∀(l:List α),(l.flatMap f).length=l.length*z
 | []=>by simp
 | x :: l=>by rw[List.flatMap_cons,List.length_append,hf,flat_len hf l,List.length_cons,Nat.succ_mul,Nat.add_comm]
section
variable {α:Type}{M M':Mem}{z:Nat}{f:α→List Value}{u:Value}{l:List α}
theorem IsR.le(h:IsR M z f u l)(hM:Mem.le M M'):IsR M' z f u l:=SlM.le h hM
theorem IsR.sl(h:IsR M z f u l):isSl u=true:=SlM.sl h
theorem IsR.one(h:IsR M z f u l):u.oneCell'=true:=one_sl (SlM.sl h)
theorem IsR.len(h:IsR M z f u l):slen u=l.length:=SlM.len h
theorem IsR.cap(h:IsR M z f u l):l.length≤scap u:=SlM.cap h
theorem IsR.nn(h:IsR M z f u l){i:Nat}(hi:i<l.length):nilS u=false:=SlM.nn h (by omega)
theorem IsR.at{P:Program}{T:TypeId}(h:IsR M z f u l)(hf:∀x,(f x).length=z)(hk:kindT P T=some true)(hz:szO P T=some z){i:Nat}(hi:i<l.length):lookM P T M (elemP u z i)=some (.agg (f l[i]).toArray):=by
 rw[SlM.atS h hk hz hi,flat_part hf l i hi]
theorem IsR.pt(h:IsR M z f u l){i:Nat}(hi:i<l.length):isPt (elemP u z i)=true:=SlM.pt h hi
theorem flat_at{α:Type}{z:Nat}{f:α→List Value}(hf:∀x,(f x).length=z){l:List α}{i o:Nat}(hi:i<l.length)(ho:o<z):(l.flatMap f)[i*z+o]? = (f l[i])[o]?:=by
 rw[←flat_part hf l i hi,List.getElem?_take_of_lt ho,List.getElem?_drop]
theorem IsR.atF{P:Program}{T:TypeId}(h:IsR M z f u l)(hf:∀x,(f x).length=z)(hk:kindT P T=some false){zz:Nat}(hz:szO P T=some zz){i:Nat}(hi:i<l.length){o:Nat}{v:Value}(hv:(f l[i])[o]? = some v):lookM P T M (addP (elemP u z i) o)=some v:=
 SlM.atF h hk hz (by rw[flat_at hf hi (by rw[←hf l[i]];exact (List.getElem?_eq_some_iff.1 hv).1)];exact hv) hi
theorem IsR.row(h:IsR M z f u l):rowS M z u=some (l.flatMap f):=SlM.row h
end
theorem slM_empty(M:Mem)(z:Nat)(a:Option Addr)(c:Nat):SlM M z (.slice a 0 c) 0 []:=⟨rfl,rfl,Nat.zero_le _,by simp,by
 cases a with
 | none=>rfl
 | some a=>
  obtain ⟨b,off,sp⟩:=a
  cases sp with
  | none=>simp[rowS,rowM]
  | some x=>rfl⟩
theorem slM_nil(M:Mem)(z c:Nat):SlM M z (.slice none 0 c) 0 []:=⟨rfl,rfl,Nat.zero_le _,by simp,rfl⟩
theorem isL_nil{α:Type}(M:Mem)(g:α→Value)(c:Nat):IsL M g (.slice none 0 c) []:=slM_nil M 1 c
def Mem.set(M:Mem)(b:Nat)(o:Obj):Mem:=fun x=>if x=b then some o else M x
theorem slo_SlM{ρ:Rho}{M:Mem}{w:World}{k n z:Nat}{u:Value}{T:TypeId}{cs:List Value}(hu:(AV.slo k 0 n z).is ρ u)(hl:cs.length=n*z)(hr:∀b,ρ k=some b→∃arr,M b.b=some (.cells arr T (0,0))∧Row ρ w T (cs.map .ext) b arr):SlM M z u n cs:=by
 rcases hu with ⟨b,cap,hb,rfl,h1,h2⟩|⟨rfl,a,ha,rfl⟩
 ·obtain ⟨arr,h3,h4⟩:=hr b hb
  refine ⟨rfl,rfl,h1,hl,?_⟩
  simp only[rowS]
  refine rowM_of hl fun i v hi=>?_
  have h5:=h4.is i (.ext v) (by simp[hi])
  have h5:arr.getD i undef=v:=h5
  have h6:i<arr.size:=by
   have:=(List.getElem?_eq_some_iff.1 hi).1
   have:=h4.le
   have:=h4.size
   simp at *;omega
  simp only[cellM,h3,Nat.zero_add]
  simp[Array.getD,h6]at h5
  simp[h6,h5]
 ·have:cs=[]:=List.eq_nil_of_length_eq_zero (by simpa using hl)
  subst this
  refine ⟨rfl,rfl,Nat.zero_le _,hl,?_⟩
  cases a with
  | none=>rfl
  | some a=>
   obtain ⟨b,off,sp⟩:=a
   cases sp with
   | none=>simp[rowS,rowM]
   | some x=>cases ha _ rfl
theorem isL_mid{ρ:Rho}:∀{l1 l2:List AV} {v:AV} {us:List Value},isL ρ (l1++v :: l2) us→∃u1 u u2,us=u1++u :: u2∧isL ρ l1 u1∧v.is ρ u∧isL ρ l2 u2
 | [],l2,v,us,h=>by obtain ⟨u,r,rfl,h1,h2⟩:=h;exact ⟨[],u,r,rfl,rfl,h1,h2⟩
 | x :: l1,l2,v,us,h=>by
  obtain ⟨u,r,rfl,h1,h2⟩:=h
  obtain ⟨u1,u',u2,rfl,h3,h4,h5⟩:=isL_mid h2
  exact ⟨u :: u1,u',u2,rfl,⟨u,u1,rfl,h1,h3⟩,h4,h5⟩
theorem Mem.le_set{M:Mem}{b:Nat}{o:Obj}(h:M b=none):Mem.le M (Mem.set M b o):=fun x p hx=>by
 unfold Mem.set;split
 ·rename_i e;rw[e,h]at hx;cases hx
 ·exact hx
theorem HeapIs.frz{ρ:Rho}{k:Nat}{T:TypeId}{cs:List Value}{H:Hp}{M:Mem}{w:World}(h:HeapIs ρ ((k,T,cs.map .ext) :: H) M w)(hk:lkH H k=none) :
  ∃M',Mem.le M M'∧(∀b,M' b≠none→M b≠none∨∃x,ρ k=some x∧x.b=b)∧HeapIs ρ H M' w∧∀b,ρ k=some b→∃arr,M' b.b=some (.cells arr T (0,0))∧Row ρ w T (cs.map .ext) b arr:=by
 have hlk:∀j x,lkH H j=some x→j≠k∧lkH ((k,T,cs.map .ext) :: H) j=some x:=fun j x hj=>by
  have hne:j≠k:=fun e=>by rw[e,hk]at hj;cases hj
  exact ⟨hne,by simp only[lkH];rw[if_neg (Ne.symm hne)];exact hj⟩
 have hself:lkH ((k,T,cs.map .ext) :: H) k=some (T,cs.map .ext):=by simp[lkH]
 have inj:∀j j' b b',(lkH H j).isSome=true→(lkH H j').isSome=true→ρ j=some b→ρ j'=some b'→b.b=b'.b→j=j':=fun j j' b b' hj hj'=>by
  obtain ⟨x,hx⟩:=Option.isSome_iff_exists.1 hj
  obtain ⟨x',hx'⟩:=Option.isSome_iff_exists.1 hj'
  exact h.inj j j' b b' (by rw[(hlk j x hx).2];rfl) (by rw[(hlk j' x' hx').2];rfl)
 cases hb:ρ k with
 | none=>
  refine ⟨M,Mem.le.refl _,fun b hb=>.inl hb,⟨fun j T' ds b hj=>h.hp j T' ds b (hlk j _ hj).2,fun j T' ds hj=>h.no j T' ds (hlk j _ hj).2,inj,h.sub⟩,fun b hb'=>by cases hb'⟩
 | some b=>
  obtain ⟨⟨arr,h1⟩,h2⟩:=h.hp k T _ b hself hb
  refine ⟨Mem.set M b.b (.cells arr T (0,0)),Mem.le_set h2,fun x hx=>?_,⟨fun j T' ds b' hj hb'=>?_,fun j T' ds hj=>h.no j T' ds (hlk j _ hj).2,inj,fun x o hx=>?_⟩,fun b' hb'=>?_⟩
  ·unfold Mem.set at hx
   split at hx
   ·rename_i e;exact .inr ⟨b,rfl,e.symm⟩
   ·exact .inl hx
  ·obtain ⟨hne,hj2⟩:=hlk j _ hj
   obtain ⟨g1,g2⟩:=h.hp j T' ds b' hj2 hb'
   refine ⟨g1,?_⟩
   unfold Mem.set
   rw[if_neg fun e=>hne (h.inj j k b' b (by rw[hj2];rfl) (by rw[hself];rfl) hb' hb e)]
   exact g2
  ·unfold Mem.set at hx
   split at hx
   ·rename_i e;cases hx;rw[e];exact h1.there
   ·exact h.sub x o hx
  ·injection hb' with hb'
   subst hb'
   exact ⟨arr,by simp[Mem.set],h1⟩
def putMid(t:Option Bool)(l1:List AV)(v:AV)(l2:List AV):AV:=
 match t with
 | none=>v
 | some t=>.ag t (l1++v :: l2)
def putMidV(t:Option Bool)(l1:List AV)(v:AV)(l2:List AV):AV:=
 match t with
 | none=>v
 | some true=>tupA (l1++v :: l2)
 | some false=>aggA (l1++v :: l2)
theorem putMid_ok{ρ:Rho}{t:Option Bool}{l1 l2:List AV}{v:AV}{x:Value}(h:(putMid t l1 v l2).is ρ x):∃u,v.is ρ u∧(putMidV t l1 (.ext u) l2).is ρ x:=by
 cases t with
 | none=>exact ⟨x,h,rfl⟩
 | some t=>
  obtain ⟨us,h1,rfl⟩:=h
  obtain ⟨u1,u,u2,rfl,h2,h3,h4⟩:=isL_mid h1
  have h5:isL ρ (l1++.ext u :: l2) (u1++u :: u2):=isL_append h2 ⟨u,u2,rfl,rfl,h4⟩
  refine ⟨u,h3,?_⟩
  cases t
  ·exact aggA_ok h5
  ·exact tupA_ok h5
theorem tupA_ment(l:List AV):(tupA l).ment=mentL l:=by
 unfold tupA;split
 ·rename_i vs h;rw[vals_ment h];rfl
 ·simp[AV.ment]
theorem putMidV_ment{t:Option Bool}{l1 l2:List AV}{u:Value}{j:Nat}(h:j∈(putMidV t l1 (.ext u) l2).ment):∀v,j∈(putMid t l1 v l2).ment:=fun v=>by
 have e:mentL (l1++AV.ext u :: l2)=mentL l1++mentL l2:=by rw[mentL_append];simp[mentL,AV.ment]
 cases t with
 | none=>simp[putMidV,AV.ment]at h
 | some t=>
  have h2:j∈mentL l1++mentL l2:=by
   cases t<;>simp only[putMidV]at h
   ·rw[aggA_ment,e]at h;exact h
   ·rw[tupA_ment,e]at h;exact h
  simp only[putMid,AV.ment,mentL_append,mentL,List.mem_append]at h2 ⊢
  rcases h2 with h2|h2
  ·exact .inl h2
  ·exact .inr (.inr h2)
def FrzK(K:AV→Hp→Mem→Prop)(H:Hp)(v:AV)(H':Hp)(M':Mem):Prop:=K v H' M'∨∃t l1 l2 k n z T cs H2,v=putMid t l1 (.slo k 0 n z) l2∧H'=(k,T,cs.map .ext) :: H2∧lkH H2 k=none∧lkH H k=none∧cs.length=n*z∧
   hasK k (mentL l1++(mentL l2++mentH H2))=false∧∀u M'',Mem.le M' M''→SlM M'' z u n cs→K (putMidV t l1 (.ext u) l2) H2 M''
theorem FrzK.one{K:AV→Hp→Mem→Prop}{H:Hp}{M':Mem}{k n z:Nat}{T:TypeId}(cs:List Value)(h1:lkH H k=none)(h2:cs.length=n*z)(h:∀u M'',Mem.le M' M''→SlM M'' z u n cs→K (.ext u) [] M''):FrzK K H (.slo k 0 n z) [(k,T,cs.map .ext)] M':=
 .inr ⟨none,[],[],k,n,z,T,cs,[],rfl,rfl,rfl,h1,h2,rfl,h⟩
theorem FrzK.tup{K:AV→Hp→Mem→Prop}{H:Hp}{M':Mem}{k n z:Nat}{T:TypeId}(vs1 vs2:List Value)(cs:List Value)(h1:lkH H k=none)(h2:cs.length=n*z)(h:∀u M'',Mem.le M' M''→SlM M'' z u n cs→K (.ext (.tuple (vs1++u :: vs2).toArray)) [] M''):FrzK K H (.ag true (vs1.map .ext++.slo k 0 n z :: vs2.map .ext)) [(k,T,cs.map .ext)] M':=by
 have hv:∀l:List Value,vals (l.map .ext)=some l:=fun l=>by
  induction l with
  | nil=>rfl
  | cons x r ih=>simp[vals,ih]
 refine .inr ⟨some true,vs1.map .ext,vs2.map .ext,k,n,z,T,cs,[],rfl,rfl,rfl,h1,h2,by simp[mentL_ext,mentH,hasK],fun u M'' hM hs=>?_⟩
 have:putMidV (some true) (vs1.map .ext) (.ext u) (vs2.map .ext)=.ext (.tuple (vs1++u :: vs2).toArray):=by
  have e:(vs1.map AV.ext)++AV.ext u :: vs2.map .ext=(vs1++u :: vs2).map .ext:=by simp
  simp only[putMidV,tupA,e,hv]
 rw[this];exact h u M'' hM hs
theorem CallS.frz{P:Program}{f:FuncId}{args:List AV}{H:Hp}{M:Mem}{K:AV→Hp→Mem→Prop}(h:CallS P f args H M [] (FrzK K H)):CallS P f args H M [] K:=by
 intro ρ w us hh he
 refine (h ρ w us hh he).mono fun e w' hall=>?_
 obtain ⟨x,v,H',M',ρ',e1,hor,hl⟩:=hall
 rcases hor with hor|⟨t,l1,l2,k,n,z,T,cs,H2,rfl,rfl,g1,g2,g3,g4,g5⟩
 ·exact ⟨x,v,H',M',ρ',e1,hor,hl⟩
 obtain ⟨u,hu,hx⟩:=putMid_ok hl.is
 obtain ⟨M'',h1,h2,h3,h4⟩:=hl.heap.frz g1
 have hsl:=slo_SlM hu g3 h4
 have hK:=g5 u M'' h1 hsl
 have hoff:=hasK_no.1 g4
 simp only[List.mem_append,not_or]at hoff
 have hlk:∀j,lkH H2 j=none→j≠k→lkH ((k,T,cs.map .ext) :: H2) j=none:=fun j hj hne=>by simp only[lkH];rw[if_neg (Ne.symm hne)];exact hj
 have hlk2:∀j x,lkH H2 j=some x→lkH ((k,T,cs.map .ext) :: H2) j=some x:=fun j x hj=>by
  simp only[lkH];rw[if_neg fun e=>by rw[←e,g1]at hj;cases hj];exact hj
 let ρ2:Rho:=fun j=>if j=k then ρ k else ρ' j
 have hρ2:∀j,j≠k→ρ' j=ρ2 j:=fun j hj=>by simp only[ρ2,if_neg hj]
 have hkv:k∉(putMidV t l1 (.ext u) l2).ment:=fun hm=>by
  have:=putMidV_ment hm .unk
  cases t with
  | none=>simp[putMid,AV.ment]at this
  | some t=>
   simp only[putMid,AV.ment,mentL_append,mentL,List.mem_append,List.not_mem_nil,false_or]at this
   rcases this with h|h
   ·exact hoff.1 h
   ·exact hoff.2.1 h
 have hkH:∀j T' ds,lkH H2 j=some (T',ds)→j≠k∧k∉mentL ds:=fun j T' ds hj=>⟨(fun e=>by rw[e,g1]at hj;cases hj),fun hm=>hoff.2.2 (mentH_lk hj (.inr hm))⟩
 refine ⟨x,_,H2,M'',ρ2,e1,hK,?_⟩
 refine {is:=is_agree (fun j hj=>hρ2 j fun e=>hkv (e▸hj)) hx,heap:=⟨fun j T' ds b hj hb=>?_,fun j T' ds hj hb=>?_,fun j j' b b' hj hj' hb hb'=>?_,h3.sub⟩,keep:=fun j hj=>?_,same:=fun j hj hm=>?_,ment:=fun j hj=>?_,fresh:=fun j b hj hb=>?_,os:=hl.os,tape:=hl.tape,output:=hl.output,size:=hl.size,block:=hl.block,le:=hl.le.trans h1,mem:=fun b hb=>?_}
 ·obtain ⟨hne,hmm⟩:=hkH j T' ds hj
  rw[←hρ2 j hne]at hb
  obtain ⟨⟨arr,f1⟩,f2⟩:=h3.hp j T' ds b hj hb
  exact ⟨⟨arr,f1.there,f1.size,f1.le,fun i v hv=>is_agree (fun q hq=>hρ2 q fun e=>hmm (mentL_get hv (e▸hq))) (f1.is i v hv)⟩,f2⟩
 ·rw[←hρ2 j (hkH j T' ds hj).1]at hb;exact h3.no j T' ds hj hb
 ·obtain ⟨y,hy⟩:=Option.isSome_iff_exists.1 hj
  obtain ⟨y',hy'⟩:=Option.isSome_iff_exists.1 hj'
  rw[←hρ2 j (hkH j _ _ hy).1]at hb
  rw[←hρ2 j' (hkH j' _ _ hy').1]at hb'
  exact h3.inj j j' b b' hj hj' hb hb'
 ·have:=hl.keep j hj
  simp only[lkH]at this
  split at this
  ·rename_i e;rw[e]at g2;rw[g2]at hj;cases hj
  ·exact this
 ·by_cases e:j=k
  ·show (if j=k then ρ k else ρ' j)=ρ j
   rw[if_pos e,e]
  ·rw[←hρ2 j e]
   refine hl.same j ?_ hm
   rcases hj with hj|hj
   ·exact .inl hj
   ·exact .inr (hlk j hj e)
 ·by_cases e:j=k
  ·rw[e];exact ⟨hkv,fun i T' ds hi=>(hkH i T' ds hi).2⟩
  ·obtain ⟨m1,m2⟩:=hl.ment j (hlk j hj e)
   exact ⟨fun hm=>m1 (putMidV_ment hm _),fun i T' ds hi=>m2 i T' ds (hlk2 i _ hi)⟩
 ·obtain ⟨y,hy⟩:=Option.isSome_iff_exists.1 hj
  rw[←hρ2 j (hkH j _ _ hy).1]at hb
  exact hl.fresh j b (by rw[hlk2 j y hy];rfl) hb
 ·rcases h2 b hb with h5|⟨y,h5,rfl⟩
  ·exact hl.mem b h5
  ·rcases hl.fresh k y (by simp[lkH]) h5 with h6|⟨j,q,h6,h7,h8⟩
   ·exact .inr h6
   ·exfalso
    have hj:=hl.keep j h6
    have hj2:ρ' j=some q:=by rw[hl.same j (.inl h6) (by simp)];exact h7
    have:=hl.heap.inj j k q y hj (by simp[lkH]) hj2 h5 h8
    subst this
    rw[g2]at h6;cases h6
theorem isCall{P:Program}{f:FuncId}{args:List AV}{s:St}{d:Option Nat}{K:St→Prop}(h:CallK P f args s d K):CallK P f args s d K:=h
theorem isCallS{P:Program}{f:FuncId}{args:List AV}{H:Hp}{M:Mem}{mv:List Nat}{K:AV→Hp→Mem→Prop}(h:CallS P f args H M mv K):CallS P f args H M mv K:=h
theorem isCall0{P:Program}{f:FuncId}{args:List AV}{s:St}{d:Option Nat}{K:St→Prop}(h:CallK0 P f args s d K):CallK0 P f args s d K:=h
def sigB:List Oper→List (Option Nat)→Bool
 | [],[]=>true
 | o :: r,d :: q=>(match o.dst,d with|some a,some b=>Nat.beq a b|none,none=>true|_,_=>false)&&sigB r q
 | _,_=>false
theorem isDraw{P:Program}{ops:Array Oper}{s:St}{K:St→Prop}(ds:List (Option Nat))(_:sigB ops.toList ds=true)(h:DrawK P ops s K):DrawK P ops s K:=h
theorem CallS_congr(P:Program)(f:FuncId)(args args':List AV)(H H':Hp)(M:Mem)(mv:List Nat)(K:AV→Hp→Mem→Prop)(h:hold args=args')(hH:hold H=H'):CallS P f args H M mv K=CallS P f args' H' M mv K:=by subst h;subst hH;rfl
def ltB(kb:Nat):List Nat→Bool
 | []=>true
 | k :: r=>Nat.blt k kb&&ltB kb r
theorem ltB_mem{kb:Nat}:∀{l:List Nat},ltB kb l=true→∀k∈l,k<kb
 | [],_,k,hk=>by cases hk
 | j :: r,h,k,hk=>by
  simp only[ltB,Bool.and_eq_true]at h
  rcases List.mem_cons.1 hk with rfl|hk
  ·simpa using h.1
  ·exact ltB_mem h.2 k hk
section
variable {P:Program}{f:FuncId}{fn:Func}{code:Code}{args:List AV}{s:St}{d:Option Nat}{K:St→Prop}{KS:AV→Hp→Mem→Prop}{M:Mem}{H:Hp}
theorem inlS{cs:List Nat}(hmx:P.follows .mixedOrders=true)(hf:P.funcs[f]? = some fn)(hb:fn.body=some code)(hok:codeOK fn.ntmps code=true)(kb:Nat)(hl':Nat.ble args.length fn.ntmps=true)(hlt:ltB kb (keysH H)=true)
  (h:vc P (RetV P fn.results.toList (keysH H) H KS) [.code code,.marks cs] {env:=argEnv 0 args,hp:=H,M:=M,kb:=kb,fx:=keysH H}):CallS P f args H M [] KS:=
 callS_ok hmx hf hb hok kb [] (keysH H) cs hl' (fun k hk=>.inr hk) (ltB_mem hlt) h
def afterK(s:St)(d:Option Nat)(H:Hp)(K:St→Prop)(v:AV)(H':Hp)(M':Mem):Prop:=obl (newKeys s H H') (K ({env:=s.env,hp:=joinH s.hp H',M:=M',kb:=s.kb,fx:=s.fx,fr:=s.fr:St}.put d v))
theorem callA(h:CallS P f args (subH s.hp (reachK s.hp (mentL args))) s.M [] (afterK s d (subH s.hp (reachK s.hp (mentL args))) K)):CallK P f args s d K:=callK rfl h
theorem callA0(h:CallS P f args (subH s.hp (reachK s.hp (mentL args))) s.M [] (afterK s d (subH s.hp (reachK s.hp (mentL args))) K)):CallK0 P f args s d K:=callK0 rfl h
theorem callA_nil(hH:subH s.hp (reachK s.hp (mentL args))=[])(h:CallS P f args [] s.M [] (afterK s d [] K)):CallK P f args s d K:=callA (by rw[hH];exact h)
theorem callA0_nil(hH:subH s.hp (reachK s.hp (mentL args))=[])(h:CallS P f args [] s.M [] (afterK s d [] K)):CallK0 P f args s d K:=callA0 (by rw[hH];exact h)
end
theorem inlK{cs:List Nat}{P:Program}{f:FuncId}{fn:Func}{code:Code}{args:List AV}{s:St}{d:Option Nat}{K:St→Prop}(hmx:P.follows .mixedOrders=true)(hf:P.funcs[f]? = some fn)(hb:fn.body=some code)(hok:codeOK fn.ntmps code=true)(kb:Nat)(hl':Nat.ble args.length fn.ntmps=true)(hlt:ltB kb (keysH (subH s.hp (reachK s.hp (mentL args))))=true)
  (h:vc P (RetV P fn.results.toList (keysH (subH s.hp (reachK s.hp (mentL args)))) (subH s.hp (reachK s.hp (mentL args))) (afterK s d (subH s.hp (reachK s.hp (mentL args))) K)) [.code code,.marks cs] {env:=argEnv 0 args,hp:=subH s.hp (reachK s.hp (mentL args)),M:=s.M,kb:=kb,fx:=keysH (subH s.hp (reachK s.hp (mentL args)))}):CallK P f args s d K:=
 callA (inlS hmx hf hb hok kb hl' hlt h)
end Go.Proofs.Ytjapnklocibgaaa.Sx
