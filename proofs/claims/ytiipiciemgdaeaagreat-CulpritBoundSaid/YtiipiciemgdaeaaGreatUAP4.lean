/- Part 38 of the texts of this claim: a symbolic executor and contracts of functions. -/
import Derived.Test.YtiipiciemgdaeaaGreatUAP3
import Derived.Test.YtiipiciemgdaeaaGreatUACRow
import Derived.Test.YtiipiciemgdaeaaGreatUACPar
import Derived.ChangeArms
namespace Go.Proofs.YtiipiciemgdaeaaGreat.Sx
open Go Go.RowKit
set_option exponentiation.threshold 5000
def red(x d:Nat):Nat×Nat:=(x / Nat.gcd x d,d / Nat.gcd x d)
def Sm(x:Nat):Prop:=x<2^4000
theorem Sm.le{x y:Nat}(h:Sm x)(hy:y≤x):Sm y:=Nat.lt_of_le_of_lt hy h
theorem Sm.len{x:Nat}(h:Sm x):(ofN x).length≤128:=ofN_len_le (by
 rw[wN_pow2]
 exact Nat.lt_of_lt_of_le h (Nat.pow_le_pow_right (by decide) (by decide)))
structure RedP (x d:Nat):Prop where
 eq:(red x d).1*d=x*(red x d).2
 gcd:Nat.gcd (red x d).1 (red x d).2=1
 pos:0<(red x d).2
 le1:(red x d).1≤x
 le2:(red x d).2≤d
theorem red_p{x d:Nat}(h:0<d):RedP x d:=by
 have hg:0<Nat.gcd x d:=Nat.gcd_pos_of_pos_right _ h
 refine ⟨?_,Nat.gcd_div_gcd_div_gcd_of_pos_right h,Nat.div_pos (Nat.gcd_le_right x h) hg,Nat.div_le_self _ _,Nat.div_le_self _ _⟩
 unfold red
 have h1:=Nat.div_mul_cancel (Nat.gcd_dvd_left x d)
 have h2:=Nat.div_mul_cancel (Nat.gcd_dvd_right x d)
 generalize x / Nat.gcd x d=a at *
 generalize d / Nat.gcd x d=b at *
 generalize Nat.gcd x d=g at *
 subst h1 h2
 grind
theorem red_num{x d:Nat}(h:0<d)(hx:0<x):0<(red x d).1:=by
 have h1:=(red_p (x:=x) h).eq
 rcases Nat.eq_zero_or_pos (red x d).1 with h0|h0
 ·rw[h0,Nat.zero_mul]at h1
  have:=Nat.mul_pos hx (red_p (x:=x) h).pos
  omega
 ·exact h0
theorem chk_of{n d:Nat}(h1:Sm n)(h2:Sm d)(h0:0<d)(hg:Nat.gcd n d=1):chkF (ofN n) (ofN d)=true:=by
 unfold chkF
 rw[chkN_ofN h1.len,chkN_ofN h2.len,valN_ofN,valN_ofN,hg,decide_eq_false (by omega)]
 rfl
theorem chk_red{x d:Nat}(hx:Sm x)(hd:Sm d)(h0:0<d):chkF (ofN (red x d).1) (ofN (red x d).2)=true:=by
 have h:=red_p (x:=x) h0
 exact chk_of (hx.le h.le1) (hd.le h.le2) h.pos h.gcd
theorem ex_red{a b x d:Nat}(hb:0<b)(hd:0<d)(h:a*d=x*b)(hx:Sm x)(hds:Sm d):exF a b=(0,red x d):=by
 have hr:=red_p (x:=x) hd
 have he:a*(red x d).2=(red x d).1*b:=by
  refine Nat.eq_of_mul_eq_mul_right hd ?_
  calc a*(red x d).2*d=(a*d)*(red x d).2:=by grind
   _=x*b*(red x d).2:=by rw[h]
   _=(x*(red x d).2)*b:=by grind
   _=(red x d).1*d*b:=by rw[hr.eq]
   _=(red x d).1*b*d:=by grind
 rw[exF_eq hb hr.pos he hr.gcd (hx.le hr.le1).len (hds.le hr.le2).len]
theorem red_zero{d:Nat}(h:0<d):red 0 d=(0,1):=by
 unfold red
 rw[Nat.gcd_zero_left,Nat.zero_div,Nat.div_self h]
theorem red_self{d:Nat}(h:0<d):red d d=(1,1):=by
 unfold red
 rw[Nat.gcd_self,Nat.div_self h]
theorem add_red{a x d:Nat}(hd:0<d)(hds:Sm d)(hs:Sm (a+x)):addF (ofN (red a d).1) (ofN (red a d).2) (ofN (red x d).1) (ofN (red x d).2)=(0,red (a+x) d):=by
 have h1:=red_p (x:=a) hd
 have h2:=red_p (x:=x) hd
 rw[addF_of (chk_red (hs.le (by omega)) hds hd) (chk_red (hs.le (by omega)) hds hd)]
 refine ex_red (Nat.mul_pos h1.pos h2.pos) hd ?_ hs hds
 have e1:=h1.eq
 have e2:=h2.eq
 generalize (red a d).1=n1 at *
 generalize (red a d).2=d1 at *
 generalize (red x d).1=n2 at *
 generalize (red x d).2=d2 at *
 calc (n1*d2+n2*d1)*d=(n1*d)*d2+(n2*d)*d1:=by grind
  _=a*d1*d2+x*d2*d1:=by rw[e1,e2]
  _=(a+x)*(d1*d2):=by grind
def lsum:List Nat→Nat
 | []=>0
 | x :: r=>x+lsum r
theorem sumG_red{d:Nat}(hd:0<d)(hds:Sm d):∀(X:List Nat) (a:Nat),Sm (a+lsum X)→sumG (red a d).1 (red a d).2 ((X.map fun x=>red x d).map qFR)=(0,red (a+lsum X) d)
 | [],a,_=>rfl
 | x :: r,a,h=>by
  rw[List.map_cons,List.map_cons,sumG_cons]
  have h1:Sm (a+x):=h.le (by rw[lsum];omega)
  have h2:=add_red (a:=a) (x:=x) hd hds h1
  show (if (addF (ofN (red a d).1) (ofN (red a d).2) (ofN (red x d).1) (ofN (red x d).2)).1=0 then _ else _)=_
  rw[show (qFR (red x d)).l1=ofN (red x d).1 from rfl,show (qFR (red x d)).l2=ofN (red x d).2 from rfl,h2,if_pos rfl,sumG_red hd hds r (a+x) (by rw[Nat.add_assoc];exact h),Nat.add_assoc]
  rfl
theorem lsum_mem:∀{X:List Nat} {x:Nat},x∈X→x≤lsum X
 | y :: r,x,h=>by
  rw[lsum]
  rcases List.mem_cons.1 h with h|h
  ·omega
  ·have:=lsum_mem h;omega
theorem sumF_red{d:Nat}(hd:0<d)(hds:Sm d){X:List Nat}(hs:Sm (lsum X)):sumF ((X.map fun x=>red x d).map qFR)=(0,red (lsum X) d):=by
 unfold sumF
 rw[if_pos (by
  rw[List.all_eq_true]
  intro x hx
  obtain ⟨q,hq,rfl⟩:=List.mem_map.1 hx
  obtain ⟨y,hy,rfl⟩:=List.mem_map.1 hq
  exact chk_red (hs.le (lsum_mem hy)) hds hd)]
 have:=sumG_red hd hds X 0 (by rw[Nat.zero_add];exact hs)
 rw[red_zero hd,Nat.zero_add]at this
 exact this
theorem div_red{x s d:Nat}(hd:0<d)(hs0:0<s)(hds:Sm d)(hx:Sm x)(hs:Sm s):divF (ofN (red x d).1) (ofN (red x d).2) (ofN (red s d).1) (ofN (red s d).2)=(0,red x s):=by
 have h1:=red_p (x:=x) hd
 have h2:=red_p (x:=s) hd
 have h3:=red_num hd hs0
 rw[divF_of (chk_red hx hds hd) (chk_red hs hds hd) h3]
 refine ex_red (Nat.mul_pos h3 h1.pos) hs0 ?_ hx hs
 have e1:=h1.eq
 have e2:=h2.eq
 generalize (red x d).1=n1 at *
 generalize (red x d).2=d1 at *
 generalize (red s d).1=n2 at *
 generalize (red s d).2=d2 at *
 refine Nat.eq_of_mul_eq_mul_right hd ?_
 calc n1*d2*s*d=(n1*d)*(s*d2):=by grind
  _=x*d1*(n2*d):=by rw[e1,e2]
  _=x*(n2*d1)*d:=by grind
theorem divG_red{s d:Nat}(hd:0<d)(hs0:0<s)(hds:Sm d)(hs:Sm s):∀(X:List Nat),(∀x∈X,x≤s)→divG (red s d).1 (red s d).2 ((X.map fun x=>red x d).map qFR)=(0,X.map fun x=>red x s)
 | [],_=>rfl
 | x :: r,h=>by
  have ih:=divG_red hd hs0 hds hs r fun y hy=>h y (List.mem_cons_of_mem _ hy)
  have hx:=h x (List.mem_cons_self ..)
  rw[List.map_cons,List.map_cons,divG_cons,ih,show (qFR (red x d)).l1=ofN (red x d).1 from rfl,show (qFR (red x d)).l2=ofN (red x d).2 from rfl,div_red hd hs0 hds (hs.le hx) hs]
  rfl
theorem normQ_red{d:Nat}(hd:0<d)(hds:Sm d){X:List Nat}(hs:Sm (lsum X))(h0:0<lsum X):normQ (X.map fun x=>red x d)=(0,X.map fun x=>red x (lsum X)):=by
 unfold normQ normF
 rw[sumF_red hd hds hs,if_pos rfl]
 exact divG_red hd h0 hds hs X fun x hx=>lsum_mem hx
structure BX (l:List Int) (s:List Nat) (q:List (Nat×Nat)) (b:Nat):Prop where
 cl:chkL l=true
 st:∃m:Int,(m=1∨m=2)∧s=setsL l m
 ex:∃X:List Nat,q=(X.map fun x=>red x (lsum X))∧X.length=s.length∧(∀x∈X,0<x)∧0<lsum X∧lsum X≤b
theorem cmp_11:cmpF (ofN 1) (ofN 1) (ofN 1) (ofN 1)=0:=by decide +kernel
theorem BX.chk{l:List Int}{s:List Nat}{q:List (Nat×Nat)}{b:Nat}(h:BX l s q b)(hb:Sm b){L:List FR}(hL:L.map prV=q.map fun q=>(ofN q.1,ofN q.2)):chkB l (s.map fun (x:Nat)=>(x:Int)) L=true:=by
 obtain ⟨m,hm,hs⟩:=h.st
 obtain ⟨X,hq,hn,hx,h0,hle⟩:=h.ex
 have hsm:=hb.le hle
 have hlq:L.length=q.length:=by have:=congrArg List.length hL;simpa using this
 have hLq:L.map prV=(q.map qFR).map prV:=by rw[hL,List.map_map];rfl
 have h1:chkS l (s.map fun (x:Nat)=>(x:Int))=true:=by
  unfold chkS
  rw[Bool.or_eq_true,decide_eq_true_eq,decide_eq_true_eq,hs]
  rcases hm with rfl|rfl
  ·exact .inl rfl
  ·exact .inr rfl
 have h2:L.all (fun x=>posF x.l1 x.l2)=true:=by
  rw[all_cong posF L _ hLq,hq,List.all_eq_true]
  intro x hx'
  obtain ⟨p,hp,rfl⟩:=List.mem_map.1 hx'
  obtain ⟨y,hy,rfl⟩:=List.mem_map.1 hp
  show posF (ofN (red y (lsum X)).1) (ofN (red y (lsum X)).2)=true
  unfold posF
  rw[chk_red (hsm.le (lsum_mem hy)) hsm h0,Bool.true_and,decide_eq_true_eq]
  have:=red_num h0 (hx y hy)
  rcases Nat.eq_zero_or_pos (ofN (red y (lsum X)).1).length with e|e
  ·have e2:=(nil_iff (l:=ofN (red y (lsum X)).1) (by rw[valN_ofN])).1 e
   rw[valN_ofN]at e2;omega
  ·exact e
 have h3:oneS L=true:=by
  unfold oneS
  rw[sumF_cong hLq,hq,sumF_red h0 hsm hsm,red_self h0,cmp_11]
  rfl
 unfold chkB
 rw[h.cl,h1,h2,h3,List.length_map,hlq,hq,List.length_map,hn,decide_eq_true rfl]
 rfl
structure Cha (a:LP) (n d:Nat):Prop where
 eq:a=(ofN n,ofN d)
 n0:0<n
 lt:n<d
 le:d≤1000
 gcd:Nat.gcd n d=1
theorem sm1000{n:Nat}(h:n≤1000000000000):Sm n:=Nat.lt_of_le_of_lt h (by
 have:2^40≤2^4000:=Nat.pow_le_pow_right (by decide) (by decide)
 omega)
theorem Cha.chk{a:LP}{n d:Nat}(h:Cha a n d):chkF (ofN n) (ofN d)=true:=by
 have:=h.lt
 have:=h.le
 exact chk_of (sm1000 (by omega)) (sm1000 (by omega)) (by omega) h.gcd
theorem gcd_comp{n d:Nat}(h:n≤d)(hg:Nat.gcd n d=1):Nat.gcd (d-n) d=1:=by
 rw[Nat.gcd_comm,Nat.gcd_comm]at *
 have h1:Nat.gcd (d-n) d∣n:=by
  have h2:=Nat.gcd_dvd_left (d-n) d
  have h3:=Nat.gcd_dvd_right (d-n) d
  have:=Nat.dvd_sub h3 h2
  rwa[show d-(d-n)=n by omega]at this
 have h4:Nat.gcd (d-n) d∣Nat.gcd n d:=Nat.dvd_gcd h1 (Nat.gcd_dvd_right _ _)
 first
  | (rw[hg]at h4;exact Nat.dvd_one.1 h4)
  | (rw[Nat.gcd_comm]at hg;rw[hg]at h4;exact Nat.dvd_one.1 h4)
theorem Cha.oth{a:LP}{n d:Nat}(h:Cha a n d):Cha (ofN (othF a.1 a.2).1,ofN (othF a.1 a.2).2) (d-n) d:=by
 have h1:=h.lt
 have h2:=h.le
 have h0:=h.n0
 have hg:=gcd_comp (Nat.le_of_lt h1) h.gcd
 have hs:subF (ofN 1) (ofN 1) (ofN n) (ofN d)=(0,d-n,d):=by
  rw[subF_of (by decide +kernel) h.chk (by omega),Nat.one_mul,Nat.mul_one]
  exact exF_eq (by omega) (by omega) rfl hg (sm1000 (by omega)).len (sm1000 (by omega)).len
 refine ⟨?_,by omega,by omega,h2,hg⟩
 rw[h.eq]
 unfold othF
 rw[hs]
def opN(p:Nat×Nat):LP:=(ofN p.1,ofN p.2)
def OkN(p:Nat×Nat):Prop:=0<p.1∧p.1<p.2∧p.2≤1000∧Nat.gcd p.1 p.2=1
theorem Cha.okn{a:LP}{n d:Nat}(h:Cha a n d):OkN (n,d)∧a=opN (n,d):=⟨⟨h.n0,h.lt,h.le,h.gcd⟩,h.eq⟩
theorem OkN.cha{p:Nat×Nat}(h:OkN p):Cha (opN p) p.1 p.2:=⟨rfl,h.1,h.2.1,h.2.2.1,h.2.2.2⟩
def pn:List (Nat×Nat)→Nat
 | []=>1
 | p :: r=>p.1*pn r
def pd:List (Nat×Nat)→Nat
 | []=>1
 | p :: r=>p.2*pd r
theorem pn_pos:∀{N:List (Nat×Nat)},(∀p∈N,OkN p)→0<pn N
 | [],_=>by decide
 | p :: r,h=>Nat.mul_pos (h p (List.mem_cons_self ..)).1 (pn_pos fun q hq=>h q (List.mem_cons_of_mem _ hq))
theorem pd_pos:∀{N:List (Nat×Nat)},(∀p∈N,OkN p)→0<pd N
 | [],_=>by decide
 | p :: r,h=>Nat.mul_pos (by have:=h p (List.mem_cons_self ..);have:=this.1;have:=(h p (List.mem_cons_self ..)).2.1;omega) (pd_pos fun q hq=>h q (List.mem_cons_of_mem _ hq))
theorem pn_le:∀{N:List (Nat×Nat)},(∀p∈N,OkN p)→pn N≤pd N
 | [],_=>by decide
 | p :: r,h=>Nat.mul_le_mul (Nat.le_of_lt (h p (List.mem_cons_self ..)).2.1) (pn_le fun q hq=>h q (List.mem_cons_of_mem _ hq))
theorem pd_le:∀{N:List (Nat×Nat)},(∀p∈N,OkN p)→pd N≤1000^N.length
 | [],_=>by decide
 | p :: r,h=>by
  rw[pd,List.length_cons,Nat.pow_succ,Nat.mul_comm]
  exact Nat.mul_le_mul (pd_le fun q hq=>h q (List.mem_cons_of_mem _ hq)) (h p (List.mem_cons_self ..)).2.2.1
theorem mul_redN{x d:Nat}{p:Nat×Nat}{y e:Nat}(hp:OkN p)(hd:0<d)(hx:Sm x)(hds:Sm d)(he:0<e)(h:x*p.1*e=y*(d*p.2))(hy:Sm y)(hes:Sm e) :
  mulF (ofN (red x d).1) (ofN (red x d).2) (opN p).1 (opN p).2=(0,red y e):=by
 have h1:=red_p (x:=x) hd
 have h0:=hp.1
 have h2:=hp.2.1
 unfold opN
 rw[mulF_of (chk_red hx hds hd) hp.cha.chk]
 refine ex_red (Nat.mul_pos h1.pos (by omega)) he ?_ hy hes
 have e1:=h1.eq
 generalize (red x d).1=n1 at *
 generalize (red x d).2=d1 at *
 refine Nat.eq_of_mul_eq_mul_right hd ?_
 calc n1*p.1*e*d=(n1*d)*p.1*e:=by grind
  _=(x*p.1*e)*d1:=by rw[e1];grind
  _=y*(d*p.2)*d1:=by rw[h]
  _=y*(d1*p.2)*d:=by grind
theorem prodV_red:∀(N:List (Nat×Nat)) (n d:Nat),(∀p∈N,OkN p)→0<d→Sm (n*pn N)→Sm (d*pd N)→prodV (red n d).1 (red n d).2 (N.map opN)=(0,red (n*pn N) (d*pd N))
 | [],n,d,_,_,_,_=>by rw[pn,pd,Nat.mul_one,Nat.mul_one];rfl
 | p :: r,n,d,h,hd,hn,hs=>by
  have hp:=h p (List.mem_cons_self ..)
  have h0:=hp.1
  have h2:=hp.2.1
  have hr:=fun q hq=>h q (List.mem_cons_of_mem _ hq)
  have p1:=pn_pos hr
  have p2:=pd_pos hr
  rw[pn,←Nat.mul_assoc]at hn
  rw[pd,←Nat.mul_assoc]at hs
  have q1:Sm (n*p.1):=hn.le (Nat.le_mul_of_pos_right _ p1)
  have q2:Sm (d*p.2):=hs.le (Nat.le_mul_of_pos_right _ p2)
  have hm:=mul_redN (x:=n) (d:=d) (y:=n*p.1) (e:=d*p.2) hp hd (q1.le (Nat.le_mul_of_pos_right _ h0)) (q2.le (Nat.le_mul_of_pos_right _ (by omega))) (Nat.mul_pos hd (by omega)) rfl q1 q2
  rw[List.map_cons,prodV,hm,if_pos rfl,prodV_red r _ _ hr (Nat.mul_pos hd (by omega)) hn hs,pn,pd,Nat.mul_assoc,Nat.mul_assoc]
def facN(s:Nat):Nat→List (Nat×Nat)→List (Nat×Nat)
 | _,[]=>[]
 | j,p :: r=>(if s.testBit j then p else (p.2-p.1,p.2)) :: facN s (j+1) r
theorem OkN.oth{p:Nat×Nat}(h:OkN p):OkN (p.2-p.1,p.2):=(h.cha.oth).okn.1
theorem facN_ok(s:Nat):∀(N:List (Nat×Nat)) (j:Nat),(∀p∈N,OkN p)→∀p∈facN s j N,OkN p
 | [],_,_,p,h=>by cases h
 | q :: r,j,hN,p,h=>by
  rw[facN]at h
  rcases List.mem_cons.1 h with h|h
  ·rw[h]
   have:=hN q (List.mem_cons_self ..)
   split
   ·exact this
   ·exact this.oth
  ·exact facN_ok s r (j+1) (fun q hq=>hN q (List.mem_cons_of_mem _ hq)) p h
theorem facN_pd(s:Nat):∀(N:List (Nat×Nat)) (j:Nat),pd (facN s j N)=pd N
 | [],_=>rfl
 | q :: r,j=>by
  rw[facN,pd,pd,facN_pd s r]
  split<;>rfl
theorem facG_N(s:Nat):∀(P:List FR) (N:List (Nat×Nat)) (j:Nat),P.map prV=N.map opN→(∀p∈N,OkN p)→facG s j P=(facN s j N).map opN
 | [],[],_,_,_=>rfl
 | [],_ :: _,_,h,_=>by simp at h
 | _ :: _,[],_,h,_=>by simp at h
 | x :: r,p :: q,j,h,hN=>by
  rw[List.map_cons,List.map_cons,List.cons.injEq]at h
  have hp:=hN p (List.mem_cons_self ..)
  have h1:x.l1=ofN p.1∧x.l2=ofN p.2:=Prod.mk.injEq ..▸h.1
  rw[facG,facN,List.map_cons,facG_N s r q (j+1) h.2 fun q hq=>hN q (List.mem_cons_of_mem _ hq)]
  congr 1
  unfold facE
  split
  ·exact h.1
  ·have:=hp.cha.oth.eq
   rw[h1.1,h1.2]
   exact this
theorem newW_red{P:List FR}{N:List (Nat×Nat)}(h:P.map prV=N.map opN)(hN:∀p∈N,OkN p)(hl:N.length≤8)(s:Nat):(prodV 1 1 (facG s 0 P)).1=0∧newW P s=red (pn (facN s 0 N)) (pd N):=by
 have hok:=facN_ok s N 0 hN
 have h1:pd N≤1000^8:=Nat.le_trans (pd_le hN) (Nat.pow_le_pow_right (by decide) hl)
 have h8:Sm (1000^8):=Nat.lt_of_lt_of_le (show 1000^8<2^100 by decide) (Nat.pow_le_pow_right (by decide) (by decide))
 have h2:=pn_le hok
 rw[facN_pd]at h2
 have hv:=prodV_red (facN s 0 N) 1 1 hok (by decide) (h8.le (by omega)) (h8.le (by rw[facN_pd];omega))
 rw[red_self (by decide),←facG_N s P N 0 h hN,Nat.one_mul,Nat.one_mul,facN_pd]at hv
 refine ⟨by rw[hv],?_⟩
 have hI:=prodV_I _ _ _ (show (prodV 1 1 (facG s 0 P)).1=0 by rw[hv])
 rw[hv]at hI
 exact (congrArg Prod.snd hI).symm
theorem cmpF_N{a b:Nat×Nat}(h1:OkN a)(h2:OkN b):cmpF (ofN a.1) (ofN a.2) (ofN b.1) (ofN b.2)=cmpN (a.1*b.2) (b.1*a.2):=cmpF_of h1.cha.chk h2.cha.chk
theorem cmpF_1{a:Nat×Nat}(h1:OkN a):cmpF (ofN a.1) (ofN a.2) (ofN 1) (ofN 1)=-1:=by
 rw[cmpF_of h1.cha.chk (by decide +kernel),Nat.mul_one,Nat.one_mul]
 exact cmpN_lt h1.2.1
theorem OkN.chaF{a:Nat×Nat}(h:OkN a):chaF (ofN a.1) (ofN a.2)=true:=by
 unfold Sx.chaF
 have h3:=h.2.2.1
 have hl:(ofN a.2).length≤128:=(sm1000 (by omega)).len
 rw[h.cha.chk,cmpF_1 h]
 unfold cmpR
 rw[chkN_ofN hl,chkN_ofN (sm1000 (by decide)).len,valN_ofN,valN_ofN,Bool.and_self,if_pos rfl,cmpN_le (by omega)]
 rfl
theorem ofN_pos'{n:Nat}(h:0<n):decide (0<(ofN n).length)=true:=by
 rw[decide_eq_true_eq]
 rcases Nat.eq_zero_or_pos (ofN n).length with e|e
 ·have e2:=(nil_iff (l:=ofN n) (by rw[valN_ofN])).1 e
  rw[valN_ofN]at e2;omega
 ·exact e
theorem OkN.innF{a:Nat×Nat}(h:OkN a):innF (ofN a.1) (ofN a.2)=true:=by
 unfold Sx.innF
 rw[h.chaF,ofN_pos' h.1,cmpF_1 h]
 rfl
theorem noiF_N{a b:Nat×Nat}(h1:OkN a)(h2:OkN b)(h:a.1*b.2<b.1*a.2):noiF (ofN a.1) (ofN a.2) (ofN b.1) (ofN b.2)=true:=by
 unfold noiF
 rw[h1.chaF,h2.chaF,ofN_pos' h1.1,cmpF_N h1 h2,cmpF_1 h2,cmpN_lt h]
 rfl
theorem setsL_one{l:List Int}{m:Int}(hc:chkL l=true)(hm:m=1∨m=2):1∈setsL l m:=by
 have hl:=chk_len hc
 have he:setsE l m=0:=by
  unfold setsE
  rw[if_pos hc,if_pos]
  rw[decide_eq_true_eq];omega
 unfold setsL
 rw[if_pos he]
 unfold hyps hypTo
 rw[List.mem_filter,List.mem_range]
 have h2:2^1≤2^l.length:=Nat.pow_le_pow_right (by decide) hl.1
 exact ⟨by omega,by rcases hm with rfl|rfl<;>rfl⟩
theorem setsL_len{l:List Int}{m:Int}(hc:chkL l=true):(setsL l m).length≤256:=by
 unfold setsL
 split
 ·have:=hypTo_len m.toNat (2^l.length)
  have h2:2^l.length≤2^8:=Nat.pow_le_pow_right (by decide) (chk_len hc).2
  unfold hyps
  omega
 ·exact Nat.zero_le _
theorem lsum_le{b:Nat}:∀{X:List Nat},(∀x∈X,x≤b)→lsum X≤X.length*b
 | [],_=>Nat.zero_le _
 | x :: r,h=>by
  rw[lsum,List.length_cons,Nat.succ_mul]
  have:=h x (List.mem_cons_self ..)
  have:=lsum_le (b:=b) fun y hy=>h y (List.mem_cons_of_mem _ hy)
  omega
def b0:Nat:=256*1000^8
def mulX(eff:Nat)(f g:Nat×Nat):List Nat→List Nat→List Nat
 | x :: r,s :: t=>(if eff &&& s=0 then x*f.1*g.2 else x*g.1*f.2) :: mulX eff f g r t
 | _,_=>[]
theorem mulX_len{eff:Nat}{f g:Nat×Nat}:∀{X S:List Nat},X.length=S.length→(mulX eff f g X S).length=S.length
 | [],[],_=>rfl
 | x :: r,s :: t,h=>by rw[mulX,List.length_cons,List.length_cons,mulX_len (by simpa using h)]
theorem mulX_pos{eff:Nat}{f g:Nat×Nat}(hf:OkN f)(hg:OkN g):∀{X S:List Nat},(∀x∈X,0<x)→∀y∈mulX eff f g X S,0<y
 | [],_,_,y,h=>by rw[mulX]at h;cases h;simp
 | _ :: _,[],_,y,h=>by rw[mulX]at h;cases h;simp
 | x :: r,s :: t,hX,y,h=>by
  rw[mulX]at h
  have hx:=hX x (List.mem_cons_self ..)
  have f1:=hf.1
  have f2:=hf.2.1
  have g1:=hg.1
  have g2:=hg.2.1
  rcases List.mem_cons.1 h with h|h
  ·rw[h]
   split
   ·exact Nat.mul_pos (Nat.mul_pos hx f1) (by omega)
   ·exact Nat.mul_pos (Nat.mul_pos hx g1) (by omega)
  ·exact mulX_pos hf hg (fun z hz=>hX z (List.mem_cons_of_mem _ hz)) y h
theorem OkN.le1{f:Nat×Nat}(h:OkN f):f.1≤1000∧f.2≤1000:=⟨by have:=h.2.1;have:=h.2.2.1;omega,h.2.2.1⟩
theorem mul_le6{x a b:Nat}(ha:a≤1000)(hb:b≤1000):x*a*b≤x*1000000:=by
 rw[Nat.mul_assoc]
 exact Nat.mul_le_mul_left _ (Nat.le_trans (Nat.mul_le_mul ha hb) (by decide))
theorem mulX_le{eff:Nat}{f g:Nat×Nat}(hf:OkN f)(hg:OkN g):∀{X S:List Nat},lsum (mulX eff f g X S)≤lsum X*1000000
 | [],_=>by rw[mulX]<;>simp[lsum]
 | _ :: _,[]=>by rw[mulX]<;>simp[lsum]
 | x :: r,s :: t=>by
  rw[mulX,lsum,lsum,Nat.add_mul]
  have ih:=mulX_le (eff:=eff) hf hg (X:=r) (S:=t)
  have h1:=mul_le6 (x:=x) hf.le1.1 hg.le1.2
  have h2:=mul_le6 (x:=x) hg.le1.1 hf.le1.2
  split<;>omega
theorem updL_law{eff s0:Nat}{f g:Nat×Nat}(hf:OkN f)(hg:OkN g)(h0:0<s0)(hsm:Sm (s0*1000000)):∀(X S:List Nat) (L:List FR),X.length=S.length→(∀x∈X,x≤s0)→L.map prV=(X.map fun x=>red x s0).map (fun q=>(ofN q.1,ofN q.2))→
  updL L S eff (opN f) (opN g)=(0,(mulX eff f g X S).map fun x=>red x (s0*f.2*g.2))
 | [],[],[],_,_,_=>rfl
 | [],[],_ :: _,_,_,h=>by simp at h
 | _ :: _,_,[],_,_,h=>by simp at h
 | [],_ :: _,_,h,_,_=>by simp at h
 | _ :: _,[],_,h,_,_=>by simp at h
 | x :: r,s :: t,y :: L,hl,hX,h=>by
  have f1:=hf.1
  have f2:=hf.2.1
  have g1:=hg.1
  have g2:=hg.2.1
  rw[List.map_cons,List.map_cons,List.map_cons,List.cons.injEq]at h
  have h1:y.l1=ofN (red x s0).1∧y.l2=ofN (red x s0).2:=Prod.mk.injEq ..▸h.1
  have ih:=updL_law (eff:=eff) hf hg h0 hsm r t L (by simpa using hl) (fun z hz=>hX z (List.mem_cons_of_mem _ hz)) h.2
  have hx:=hX x (List.mem_cons_self ..)
  have hs0:Sm s0:=hsm.le (by omega)
  have he:Sm (s0*f.2*g.2):=hsm.le (mul_le6 hf.le1.2 hg.le1.2)
  have he0:0<s0*f.2*g.2:=Nat.mul_pos (Nat.mul_pos h0 (by omega)) (by omega)
  unfold updL at ih ⊢
  rw[List.zip_cons_cons,mapG_cons,ih,mulX,List.map_cons]
  have key:updF eff (opN f) (opN g) (y,s)=(0,red (if eff &&& s=0 then x*f.1*g.2 else x*g.1*f.2) (s0*f.2*g.2)):=by
   unfold updF facU
   simp only[h1.1,h1.2]
   have hxs:x*1000000≤s0*1000000:=Nat.mul_le_mul_right _ hx
   split
   ·exact mul_redN hf h0 (hs0.le hx) hs0 he0 (by grind) (hsm.le (Nat.le_trans (mul_le6 hf.le1.1 hg.le1.2) hxs)) he
   ·exact mul_redN hg h0 (hs0.le hx) hs0 he0 (by grind) (hsm.le (Nat.le_trans (mul_le6 hg.le1.1 hf.le1.2) hxs)) he
  rw[key]
  rfl
theorem upd_law{l:List Int}{s:List Nat}{q:List (Nat×Nat)}{b eff:Nat}{f g:Nat×Nat}{L:List FR}(h:BX l s q b)(hf:OkN f)(hg:OkN g)(hb:Sm (b*1000000))(hL:L.map prV=q.map fun q=>(ofN q.1,ofN q.2)) :
  ∃q',thenN l s (updL L s eff (opN f) (opN g))=⟨0,l,s,q'⟩∧BX l s q' (b*1000000):=by
 obtain ⟨X,hq,hn,hx,h0,hle⟩:=h.ex
 have hs:Sm (lsum X*1000000):=hb.le (Nat.mul_le_mul_right _ hle)
 rw[hq]at hL
 have hu:=updL_law (eff:=eff) hf hg h0 hs X s L hn (fun x hx=>lsum_mem hx) hL
 have hpos:=mulX_pos (eff:=eff) (S:=s) hf hg hx
 have hmle:=mulX_le (eff:=eff) hf hg (X:=X) (S:=s)
 have hml:=mulX_len (eff:=eff) (f:=f) (g:=g) hn
 have hne:0<(mulX eff f g X s).length:=by
  rw[hml,←hn]
  cases X with
  | nil=>exact absurd h0 (by decide)
  | cons x r=>simp
 have h0':0<lsum (mulX eff f g X s):=by
  cases hm:mulX eff f g X s with
  | nil=>rw[hm]at hne;exact absurd hne (by decide)
  | cons y r=>
   have:=hpos y (by rw[hm];exact List.mem_cons_self ..)
   rw[lsum];omega
 have f1:=hf.1
 have f2:=hf.2.1
 have g2:=hg.2.1
 have he0:0<lsum X*f.2*g.2:=Nat.mul_pos (Nat.mul_pos h0 (by omega)) (by omega)
 refine ⟨_,?_,⟨h.cl,h.st,⟨_,rfl,hml,hpos,h0',Nat.le_trans hmle (Nat.mul_le_mul_right _ hle)⟩⟩⟩
 unfold thenN
 rw[hu,if_pos rfl,normQ_red he0 (hs.le (mul_le6 hf.le1.2 hg.le1.2)) (hs.le hmle) h0']
 rfl
def outN(failed:Bool)(a:Nat×Nat):Nat×Nat:=if failed then a else (a.2-a.1,a.2)
theorem outF_N{failed:Bool}{a:Nat×Nat}(h:OkN a):outF failed (opN a)=opN (outN failed a):=by
 cases failed with
 | true=>rfl
 | false=>exact h.cha.oth.eq
theorem OkN.out{failed:Bool}{a:Nat×Nat}(h:OkN a):OkN (outN failed a):=by
 cases failed with
 | true=>exact h
 | false=>exact h.oth
theorem updL_cong{eff:Nat}{fl dt:LP}:∀(L L':List FR) (S:List Nat),L.map prV=L'.map prV→updL L S eff fl dt=updL L' S eff fl dt
 | [],[],_,_=>rfl
 | [],_ :: _,_,h=>by simp at h
 | _ :: _,[],_,h=>by simp at h
 | _ :: _,_ :: _,[],_=>rfl
 | x :: r,y :: t,s :: S,h=>by
  rw[List.map_cons,List.map_cons,List.cons.injEq]at h
  have h1:x.l1=y.l1∧x.l2=y.l2:=Prod.mk.injEq ..▸h.1
  have ih:=updL_cong (eff:=eff) (fl:=fl) (dt:=dt) r t S h.2
  unfold updL at ih ⊢
  rw[List.zip_cons_cons,List.zip_cons_cons,mapG_cons,mapG_cons,ih]
  unfold updF
  simp only[h1.1,h1.2]
theorem toN_map(s:List Nat):toN (s.map fun (x:Nat)=>(x:Int))=s:=by
 unfold toN
 rw[List.map_map]
 exact List.map_id'' (fun x=>rfl) _
theorem BX.mono{l:List Int}{s:List Nat}{q:List (Nat×Nat)}{b c:Nat}(h:BX l s q b)(hc:b≤c):BX l s q c:=by
 obtain ⟨X,h1,h2,h3,h4,h5⟩:=h.ex
 exact ⟨h.cl,h.st,X,h1,h2,h3,h4,Nat.le_trans h5 hc⟩
theorem BX.upd{l:List Int}{s:List Nat}{q:List (Nat×Nat)}{b:Nat}{f g:Nat×Nat}{pool:Int}{failed:Bool}(h:BX l s q b)(hf:OkN f)(hg:OkN g)(hfg:f.1*g.2<g.1*f.2)(hb:Sm (b*1000000))(hp:setB l pool=true) :
  ∃q',BX l s q' (b*1000000)∧∀L:List FR,L.map prV=q.map (fun q=>(ofN q.1,ofN q.2))→updB l (s.map fun (x:Nat)=>(x:Int)) L (opN f) (opN g) pool failed=⟨0,l,s,q'⟩:=by
 have hc:(q.map qFR).map prV=q.map fun q=>(ofN q.1,ofN q.2):=by rw[List.map_map];rfl
 obtain ⟨q',h1,h2⟩:=upd_law (eff:=effN l pool.toNat) h (hf.out (failed:=failed)) (hg.out (failed:=failed)) hb hc
 refine ⟨q',h2,fun L hL=>?_⟩
 have hk:=h.chk (hb.le (by omega)) hL
 have hn:noiF (opN f).1 (opN f).2 (opN g).1 (opN g).2=true:=noiF_N hf hg hfg
 unfold updB
 rw[hk,hn,Bool.and_self,if_pos rfl,if_pos hp,toN_map,outF_N hf,outF_N hg,updL_cong L (q.map qFR) s (hL.trans hc.symm),h1]
theorem BX.len{l:List Int}{s:List Nat}{q:List (Nat×Nat)}{b:Nat}(h:BX l s q b):l.length≤8∧s.length≤256∧q.length=s.length∧(∀x∈s,x<256):=by
 obtain ⟨m,hm,rfl⟩:=h.st
 obtain ⟨X,h1,h2,_⟩:=h.ex
 refine ⟨(chk_len h.cl).2,setsL_len h.cl,by rw[h1,List.length_map,h2],fun x hx=>?_⟩
 have:=(hI_ok h.cl m).2 x
 rw[toN_hI]at this
 exact this hx
theorem setB_of{l:List Int}{x:Int}(h0:0≤x)(h:x<((2^l.length:Nat):Int)):setB l x=true:=by
 unfold setB
 rw[decide_eq_true_eq]
 refine ⟨h0,?_⟩
 have e:((2^l.length:Nat):Int)=2^l.length:=by simp
 rw[←e];exact h
def qX(X:List Nat):List (Nat×Nat):=X.map fun x=>red x (lsum X)
structure PX (s X:List Nat) (b:Nat):Prop where
 len:X.length=s.length
 pos:∀x∈X,0<x
 sum:0<lsum X
 le:lsum X≤b
theorem PX.bx{l:List Int}{s X:List Nat}{b:Nat}(h:PX s X b)(hc:chkL l=true)(hs:∃m:Int,(m=1∨m=2)∧s=setsL l m):BX l s (qX X) b:=⟨hc,hs,X,rfl,h.len,h.pos,h.sum,h.le⟩
theorem PX.upd{s X:List Nat}{b eff:Nat}{f g:Nat×Nat}(h:PX s X b)(hf:OkN f)(hg:OkN g):PX s (mulX eff f g X s) (b*1000000):=by
 have hpos:=mulX_pos (eff:=eff) (S:=s) hf hg h.pos
 have hml:=mulX_len (eff:=eff) (f:=f) (g:=g) h.len
 refine ⟨hml,hpos,?_,Nat.le_trans (mulX_le (eff:=eff) hf hg (X:=X) (S:=s)) (Nat.mul_le_mul_right _ h.le)⟩
 have hne:0<(mulX eff f g X s).length:=by
  rw[hml,←h.len]
  have:=h.sum
  cases X with
  | nil=>exact absurd this (by decide)
  | cons x r=>simp
 cases hm:mulX eff f g X s with
 | nil=>rw[hm]at hne;exact absurd hne (by decide)
 | cons y r=>
  have:=hpos y (by rw[hm];exact List.mem_cons_self ..)
  rw[lsum];omega
theorem PX.then{l:List Int}{s X:List Nat}{b eff:Nat}{f g:Nat×Nat}{L:List FR}(h:PX s X b)(hf:OkN f)(hg:OkN g)(hb:Sm (b*1000000))(hL:L.map prV=(qX X).map fun q=>(ofN q.1,ofN q.2)) :
  thenN l s (updL L s eff (opN f) (opN g))=⟨0,l,s,qX (mulX eff f g X s)⟩:=by
 have hs:Sm (lsum X*1000000):=hb.le (Nat.mul_le_mul_right _ h.le)
 have hu:=updL_law (eff:=eff) hf hg h.sum hs X s L h.len (fun x hx=>lsum_mem hx) hL
 have hn:=h.upd (eff:=eff) hf hg
 have f1:=hf.1
 have f2:=hf.2.1
 have g2:=hg.2.1
 have he0:0<lsum X*f.2*g.2:=Nat.mul_pos (Nat.mul_pos h.sum (by omega)) (by omega)
 unfold thenN
 rw[hu,if_pos rfl,normQ_red he0 (hs.le (mul_le6 hf.le1.2 hg.le1.2)) (hb.le hn.le) hn.sum]
 rfl
theorem PX.updB{l:List Int}{s X:List Nat}{b:Nat}{f g:Nat×Nat}{pool:Int}{failed:Bool}{L:List FR}(h:PX s X b)(hc:chkL l=true)(hm:∃m:Int,(m=1∨m=2)∧s=setsL l m)(hf:OkN f)(hg:OkN g)(hfg:f.1*g.2<g.1*f.2)(hb:Sm (b*1000000))(hp:setB l pool=true)
  (hL:L.map prV=(qX X).map fun q=>(ofN q.1,ofN q.2)) :
  Sx.updB l (s.map fun (x:Nat)=>(x:Int)) L (opN f) (opN g) pool failed=⟨0,l,s,qX (mulX (effN l pool.toNat) (outN failed f) (outN failed g) X s)⟩:=by
 have hk:=(h.bx hc hm).chk (hb.le (by omega)) hL
 have hn:noiF (opN f).1 (opN f).2 (opN g).1 (opN g).2=true:=noiF_N hf hg hfg
 unfold Sx.updB
 rw[hk,hn,Bool.and_self,if_pos rfl,if_pos hp,toN_map,outF_N hf,outF_N hg]
 exact h.then hf.out hg.out hb hL
set_option linter.unusedVariables false
set_option linter.unusedSimpArgs false
set_option maxRecDepth 100000
set_option maxHeartbeats 8000000
attribute [local congr] fin_congr finG_congr stepG_congr step1_congr runOps_congr brv_congr obl_congr condK_congr LoopK_congr seqK_congr CutK_congr vc_congr DrawK_congr regK_congr CallK_congr AskK_congr newK_congr retC_congr ret1_congr retK_congr outV_congr closeK_congr genR_congr appR_congr finD_congr finGD_congr stepGD_congr stepD_congr CallK0_congr runD_congr okR_congr CallS_congr vcX_congr
theorem le_nilC{s:St}(j k:Nat)(T T':TypeId)(zz:Nat)(h1:lkH s.hp j=some (T,[.ext (.slice none 0 0)]))(h2:awayP k s):Le s {env:=s.env,hp:=(k,T',[]) :: upH s.hp j [.slo k 0 0 zz],M:=s.M,kb:=s.kb,fx:=s.fx,fr:=s.fr}:=fun c n ρ av w g=>by
 have hlk:∀i x,lkH ((k,T',[]) :: upH s.hp j [.slo k 0 0 zz]) i=some x→(i=k∧x=(T',[]))∨(i≠k∧((i=j∧x=(T,[.slo k 0 0 zz]))∨(i≠j∧lkH s.hp i=some x))):=fun i x hi=>by
  by_cases e:k=i
  ·subst e;simp[lkH]at hi;exact .inl ⟨rfl,hi.symm⟩
  ·simp only[lkH,if_neg e,lkH_upH]at hi
   refine .inr ⟨fun e2=>e e2.symm,?_⟩
   by_cases e2:j=i
   ·subst e2;rw[if_pos rfl,h1]at hi;simp at hi;exact .inl ⟨rfl,hi.symm⟩
   ·rw[if_neg e2]at hi;exact .inr ⟨fun e3=>e2 e3.symm,hi⟩
 have hsome:∀i x,lkH ((k,T',[]) :: upH s.hp j [.slo k 0 0 zz]) i=some x→i≠k→(lkH s.hp i).isSome=true:=fun i x hi hne=>by
  rcases hlk i x hi with ⟨e,_⟩|⟨_,⟨rfl,_⟩|⟨_,h⟩⟩
  ·exact absurd e hne
  ·rw[h1];rfl
  ·rw[h];rfl
 refine ⟨upd ρ k none,{df:=g.df,sz:=g.sz,env:=fun t=>is_upd (awayP_env h2 t) (g.env t),hp:=fun i T2 cs b hi hb=>?_,no:=fun i T2 cs hi hb=>?_,inj:=fun i i' b b' hi hi' hb hb' e=>?_,os:=g.os,tape:=g.tape,output:=g.output,size:=g.size,block:=g.block,sub:=g.sub,le:=g.le,mf:=g.mf,fix:=fun i hi=>?_,fx:=fun i hi=>?_,kl:=g.kl,fr:=g.fr}⟩
 ·rcases hlk i _ hi with ⟨rfl,hx⟩|⟨hne,⟨rfl,hx⟩|⟨hnj,hx⟩⟩
  ·rw[upd_self]at hb;cases hb
  ·rw[upd_ne _ _ hne]at hb
   cases hx
   obtain ⟨⟨arr,f1⟩,f2⟩:=g.hp i T _ b h1 hb
   refine ⟨⟨arr,f1.there,f1.size,f1.le,fun q v hv=>?_⟩,f2⟩
   cases q with
   | zero=>
    simp at hv;subst hv
    exact .inr ⟨rfl,none,(fun x e=>by cases e),f1.is 0 _ rfl⟩
   | succ q=>simp at hv
  ·rw[upd_ne _ _ hne]at hb
   obtain ⟨⟨arr,f1⟩,f2⟩:=g.hp i T2 cs b hx hb
   exact ⟨⟨arr,f1.there,f1.size,f1.le,fun q v hv=>is_upd (fun hm=>(awayP_hp h2 i T2 cs hx).2 (mentL_get hv hm)) (f1.is q v hv)⟩,f2⟩
 ·rcases hlk i _ hi with ⟨rfl,hx⟩|⟨hne,⟨rfl,hx⟩|⟨hnj,hx⟩⟩
  ·cases hx;rfl
  ·rw[upd_ne _ _ hne]at hb
   have:=g.no i T _ h1 hb
   cases this
  ·rw[upd_ne _ _ hne]at hb;exact g.no i T2 cs hx hb
 ·obtain ⟨x,hx⟩:=Option.isSome_iff_exists.1 hi
  obtain ⟨x',hx'⟩:=Option.isSome_iff_exists.1 hi'
  have hne:i≠k:=fun e=>by subst e;rw[upd_self]at hb;cases hb
  have hne':i'≠k:=fun e=>by subst e;rw[upd_self]at hb';cases hb'
  rw[upd_ne _ _ hne]at hb
  rw[upd_ne _ _ hne']at hb'
  exact g.inj i i' b b' (hsome i x hx hne) (hsome i' x' hx' hne') hb hb' e
 ·simp only[lkH,lkH_upH]
  split
  ·rfl
  ·split
   ·rename_i e;subst e;rw[h1];rfl
   ·exact g.fix i hi
 ·rw[upd_ne _ _ fun e=>awayP_fx h2 (by rw[←e];exact hi)];exact g.fx i hi
section
variable {M:Mem}{K:AV→Hp→Mem→Prop}
end
attribute [local congr] Stop_congr
theorem redN_ok{n d:Nat}(h0:0<n)(h:n<d)(hd:d≤1000):OkN (red n d):=by
 have hp:=red_p (x:=n) (d:=d) (by omega)
 refine ⟨red_num (by omega) h0,?_,Nat.le_trans hp.le2 hd,hp.gcd⟩
 unfold red
 exact low_lt h
theorem two_lt{n n2 y a b c d:Nat}(h:n<n2)(hy:0<y)(e1:a*y=n*b)(e2:c*y=n2*d)(hb:0<b)(hd:0<d):a*d<c*b:=by
 refine Nat.lt_of_mul_lt_mul_right (a:=y) ?_
 calc a*d*y=n*b*d:=by rw[←e1];grind
  _=n*(b*d):=by grind
  _<n2*(b*d):=Nat.mul_lt_mul_of_pos_right h (Nat.mul_pos hb hd)
  _=n2*d*b:=by grind
  _=c*b*y:=by rw[←e2];grind
section
variable {M:Mem}{K:AV→Hp→Mem→Prop}
end
theorem Fz.bind{z:St}{B:St→Prop}(h:Fz z (fun y=>Fz y B)):Fz z B:=fun c n a w hcx g=>by
 obtain ⟨y,g1,h1⟩:=h c n a w hcx g
 exact h1 c n a w hcx g1
open Classical in
theorem Fz.cell{z:St}{B:St→Prop}{j k n q:Nat}{T T0:TypeId}(cs:List Value)(E:Env)(R:Hp)(hj:lkH z.hp j=some (T0,[.slo k 0 n q]))(hk:lkH z.hp k=some (T,cs.map .ext))(hn:cs.length=n*q)(hkb:z.kb≤k)(hjk:j≠k)
  (hE:subE E z.env) (hE2:k∉mentE E) (hR:subHp R z.hp) (hR2:k∉mentH R) (hkeep:keepLt z.kb R z.hp) (hfx:∀k,k<z.kb→(lkH z.hp k).isSome=true→k∈z.fx)
  (h:∀M' U,Mem.le z.M M'→SlM M' q U n cs→FreshS z.M U→B {env:=E,hp:=(j,T0,[.ext U]) :: R,M:=M',kb:=z.kb,fx:=z.fx,fr:=z.fr}):Fz z B:=fun c n0 a w hcx ⟨ρ,g⟩=>by
 obtain ⟨bj,hbj⟩:∃b,ρ j=some b:=by
  cases hb:ρ j with
  | none=>have:=g.no j _ _ hj hb;cases this
  | some b=>exact ⟨b,rfl⟩
 obtain ⟨⟨arr0,row0⟩,fj2,fj3⟩:=g.hp j _ _ bj hj hbj
 have hU:=row0.is 0 (.slo k 0 n q) rfl
 generalize hUe:arr0.getD 0 undef=U at hU
 let D:Nat→Prop:=fun b=>∃x,ρ k=some x∧x.b=b
 let M':Mem:=fun b=>if D b then w.heap[b]? else z.M b
 have hRz:∀k x,lkH R k=some x→lkH z.hp k=some x:=subHp_lk hR
 have hRF:∀i x,lkH R i=some x→i≠k:=fun i x hx e=>by
  subst e
  exact hR2 (mentH_lk (T:=x.1) (cs:=x.2) hx (.inl rfl))
 have hMD:∀b,D b→z.M b=none:=fun b ⟨x,hx,e⟩=>by
  rw[←e];exact (g.hp k _ _ x hk hx).2.2
 have hle:Mem.le z.M M':=fun b o hb=>by
  by_cases hD:D b
  ·rw[hMD b hD]at hb;cases hb
  ·simp only[M',if_neg hD];exact hb
 have hlk:∀j x,lkH [(k,T,cs.map AV.ext)] j=some x→j=k∧x=(T,cs.map .ext):=fun j x h=>by
  simp only[lkH]at h
  split at h
  ·rename_i e;cases h;exact ⟨e.symm,rfl⟩
  ·cases h
 have hc:closedH [(k,T,cs.map AV.ext)]:=fun j T' ds q hj hq=>by
  obtain ⟨_,e⟩:=hlk j _ hj
  cases e
  rw[mentL_ext]at hq;cases hq
 have hhold:HoldH ρ z.M M' [(k,T,cs.map AV.ext)] w:=fun i T' ds b hi hb=>by
  obtain ⟨rfl,e⟩:=hlk i _ hi
  cases e
  obtain ⟨⟨arr,h1⟩,_,h2⟩:=g.hp _ _ _ b hk hb
  have hD:D b.b:=⟨b,hb,rfl⟩
  exact ⟨⟨arr,by simp only[M',if_pos hD];exact h1.there,h1⟩,h2⟩
 have hB:B {env:=E,hp:=(j,T0,[.ext U]) :: R,M:=M',kb:=z.kb,fx:=z.fx,fr:=z.fr}:=by
  have h2:=borI_is hhold (.slo k 0 n q) U (fun i hi=>by
   have:i=k:=by simpa [AV.ment] using hi
   subst this
   simp[lkH]) hU
  obtain ⟨h3,h4⟩:=h2
  have h5:=h4 T cs (by simp[lkH]) (by omega)
  rw[List.drop_zero,List.take_of_length_le (by omega)]at h5
  exact h M' U hle h5 h3
 have hlk2:∀i x,lkH ((j,T0,[AV.ext U]) :: R) i=some x→(i=j∧x=(T0,[.ext U]))∨(i≠j∧lkH R i=some x):=fun i x hx=>by
  simp only[lkH]at hx
  split at hx
  ·rename_i e;cases hx;exact .inl ⟨e.symm,rfl⟩
  ·rename_i e;exact .inr ⟨fun e2=>e e2.symm,hx⟩
 have hsome:∀i,(lkH ((j,T0,[AV.ext U]) :: R) i).isSome=true→(lkH z.hp i).isSome=true:=fun i hi=>by
  obtain ⟨x,hx⟩:=Option.isSome_iff_exists.1 hi
  rcases hlk2 i x hx with ⟨rfl,_⟩|⟨_,hx⟩
  ·rw[hj];rfl
  ·rw[hRz i x hx];rfl
 have hnk:∀i,(lkH ((j,T0,[AV.ext U]) :: R) i).isSome=true→i≠k:=fun i hi=>by
  obtain ⟨x,hx⟩:=Option.isSome_iff_exists.1 hi
  rcases hlk2 i x hx with ⟨rfl,_⟩|⟨_,hx⟩
  ·exact hjk
  ·exact hRF i x hx
 have hnD:∀i b,(lkH ((j,T0,[AV.ext U]) :: R) i).isSome=true→ρ i=some b→¬D b.b:=fun i b hi hb ⟨x,hx,e⟩=>by
  exact hnk i hi (g.inj k i x b (by rw[hk];rfl) (hsome i hi) hx hb e).symm
 refine ⟨_,⟨ρ,?_⟩,hB⟩
 refine {df:=g.df,sz:=g.sz,env:=fun t=>?_,hp:=fun i T' ds b hi hb=>?_,no:=fun i T' ds hi hb=>?_,inj:=fun i i' b b' hi hi' hb hb' e=>g.inj i i' b b' (hsome i hi) (hsome i' hi') hb hb' e,os:=g.os,tape:=g.tape,output:=g.output,size:=g.size,block:=g.block,sub:=fun b o hb=>?_,le:=g.le.trans hle,mf:=fun b hb=>?_,fix:=fun i hi=>?_,fx:=g.fx,kl:=g.kl,fr:=g.fr}
 ·show (lk E t).is ρ _
  rcases subE_lk hE t with e2|e2
  ·rw[e2];trivial
  ·rw[e2];exact g.env t
 ·have hD:=hnD i b (by rw[hi];rfl) hb
  rcases hlk2 i _ hi with ⟨rfl,e⟩|⟨_,hi⟩
  ·cases e
   rw[hbj]at hb;cases hb
   refine ⟨⟨arr0,row0.there,row0.size,row0.le,fun p v hv=>?_⟩,fj2,?_⟩
   ·cases p with
    | zero=>cases hv;exact hUe
    | succ p=>cases hv
   ·show M' bj.b=none
    simp only[M',if_neg hD];exact fj3
  ·obtain ⟨f1,f2,f3⟩:=g.hp i T' ds b (hRz i _ hi) hb
   refine ⟨f1,f2,?_⟩
   show M' b.b=none
   simp only[M',if_neg hD];exact f3
 ·rcases hlk2 i _ hi with ⟨rfl,e⟩|⟨_,hi⟩
  ·rw[hbj]at hb;cases hb
  ·exact g.no i T' ds (hRz i _ hi) hb
 ·have hb:M' b=some o:=hb
  by_cases hD:D b
  ·simp only[M',if_pos hD]at hb;exact hb
  ·simp only[M',if_neg hD]at hb;exact g.sub b o hb
 ·have hb:M' b≠none:=hb
  by_cases hD:D b
  ·obtain ⟨x,hx,e⟩:=hD
   rcases (g.hp k _ _ x hk hx).2.1 with h5|h5
   ·rw[←e];exact .inr h5
   ·exfalso
    obtain ⟨k',y',h6,h7,h8⟩:=hcx.x _ h5
    have h9:=g.fix k' h6
    have h10:=g.kl k' h6
    have h11:=g.fx k' (hfx k' h10 h9)
    rw[h7]at h11
    have:=g.inj k' k y' x h9 (by rw[hk];rfl) h11 hx h8
    omega
  ·simp only[M',if_neg hD]at hb;exact g.mf b hb
 ·have h1:=keepLt_ok hkeep i (g.kl i hi) (g.fix i hi)
  simp only[lkH]
  split
  ·rfl
  ·exact h1
theorem rOK_set{L:List Int}{i:Nat}{x:Int}(h:rOK L L.length)(h1 : -1≤x)(h2:x<(i:Int)):rOK (L.set i x) (L.set i x).length:=fun j hj _=>by
 rw[List.length_set]at hj
 rw[List.getElem_set]
 split
 ·rename_i e;subst e;exact ⟨h1,h2⟩
 ·exact h j hj hj
theorem rOK_repl(n:Nat):rOK (List.replicate n (-1)) (List.replicate n (-1)).length:=fun j hj _=>by
 rw[List.getElem_replicate];omega
structure PriI (M:Mem) (D:List FR) (i:Nat):Prop where
 len:D.length=i
 ok:okFL M D
 val:∃N:List (Nat×Nat),D.map prV=N.map opN∧∀p∈N,OkN p
theorem PriI.le{M M':Mem}{D:List FR}{i:Nat}(h:PriI M D i)(hM:Mem.le M M'):PriI M' D i:=⟨h.len,h.ok.le hM,h.val⟩
theorem PriI.snoc{M:Mem}{D:List FR}{i:Nat}(h:PriI M D i){w1 w2:Value}{a:Nat×Nat}(hf:IsF M w1 w2 (ofN a.1) (ofN a.2))(ha:OkN a):PriI M (D++[⟨w1,w2,ofN a.1,ofN a.2⟩]) (i+1):=by
 obtain ⟨N,h1,h2⟩:=h.val
 refine ⟨by rw[List.length_append,h.len];rfl,fun x hx=>?_,N++[a],by rw[List.map_append,List.map_append,h1];rfl,fun p hp=>?_⟩
 ·rcases List.mem_append.1 hx with hx|hx
  ·exact h.ok x hx
  ·rw[List.mem_singleton.1 hx];exact hf
 ·rcases List.mem_append.1 hp with hp|hp
  ·exact h2 p hp
  ·rw[List.mem_singleton.1 hp];exact ha
section
variable {M:Mem}{K:AV→Hp→Mem→Prop}
end
section
variable {M:Mem}{K:AV→Hp→Mem→Prop}
end
section
variable {M:Mem}{K:AV→Hp→Mem→Prop}{ur us uw x1 x2 y1 y2:Value}{l:List Int}{s X:List Nat}{b:Nat}{f g:Nat×Nat}
def afterX(l:List Int)(pool:Int)(failed:Bool)(f g:Nat×Nat)(X s:List Nat):List Nat:=mulX (effN l pool.toNat) (outN failed f) (outN failed g) X s
theorem PX.one{l:List Int}(h:PX s X b)(hf:OkN f)(hg:OkN g)(pool:Int)(failed:Bool):PX s (afterX l pool failed f g X s) (b*1000000):=h.upd hf.out hg.out
theorem qX_len(X:List Nat):(qX X).length=X.length:=by unfold qX;rw[List.length_map]
end
theorem FQ.get{M:Mem}{u:Value}{qs:List (Nat×Nat)}(h:FQ M u qs){i:Nat}(hi:i<qs.length):∃v1 v2,nilS u=false∧lookM Tryz.prog 32 M (elemP u 2 i)=some (.agg #[v1,v2])∧IsF M v1 v2 (ofN qs[i].1) (ofN qs[i].2):=by
 obtain ⟨L,h3,h4,hq⟩:=h
 have hl:L.length=qs.length:=by have:=congrArg List.length hq;simpa using this
 have k1:i<L.length:=by omega
 have nn1:=h3.nn k1
 have a1:=h3.at (P:=Tryz.prog) (T:=32) (fun _=>rfl) tk32 tz32 k1
 have f1:=h4 _ (List.getElem_mem k1)
 have v1:prV L[i]=(ofN qs[i].1,ofN qs[i].2):=by
  have:=congrArg (fun X=>X[i]?) hq
  simp only[List.getElem?_map,List.getElem?_eq_getElem k1,List.getElem?_eq_getElem hi,Option.map_some]at this
  exact Option.some.inj this
 generalize L[i]=X at *
 obtain ⟨x1,x2,y1,y2⟩:=X
 unfold prV at v1
 simp only[Prod.mk.injEq]at v1
 obtain ⟨e1,e2⟩:=v1
 rw[←e1,←e2]
 exact ⟨x1,x2,nn1,a1,f1⟩
theorem FQ.sz{M:Mem}{u:Value}{qs:List (Nat×Nat)}(h:FQ M u qs):isSl u=true∧slen u=qs.length:=by
 obtain ⟨L,h3,h4,hq⟩:=h
 have hl:L.length=qs.length:=by have:=congrArg List.length hq;simpa using this
 exact ⟨h3.sl,hl▸h3.len⟩
theorem FracK.of{M:Mem}{K:AV→Hp→Mem→Prop}{v:Int×Nat×Nat}{r:Nat×Nat}(hr:v=(0,r))(b:Sm r.1∧Sm r.2)(h:∀w1 w2 M',Mem.le M M'→IsF M' w1 w2 (ofN r.1) (ofN r.2)→K (.ext (.tuple #[.agg #[w1,w2],.int .i64 0])) [] M'):FracK M K v:=by
 rw[hr]
 exact fun w1 w2 M' hM g1 g2 _ _=>h w1 w2 M' hM (isF_ofN g1 g2 ⟨b.1.len,b.2.len⟩)
theorem sm_red{x d:Nat}(hd:0<d)(hx:Sm x)(hds:Sm d):Sm (red x d).1∧Sm (red x d).2:=⟨hx.le (red_p (x:=x) hd).le1,hds.le (red_p (x:=x) hd).le2⟩
theorem red_cross{x d y e:Nat}(hd:0<d)(he:0<e)(hx:Sm x)(hds:Sm d)(hy:Sm y)(hes:Sm e)(h:x*e=y*d):red x d=red y e:=by
 have h1:=ex_red (a:=x) (b:=d) hd hd rfl hx hds
 have h2:=ex_red (a:=x) (b:=d) hd he h hy hes
 exact congrArg Prod.snd (h1.symm.trans h2)
theorem red_okn{f:Nat×Nat}(h:OkN f):red f.1 f.2=f:=by
 unfold red
 rw[h.2.2.2,Nat.div_one,Nat.div_one]
theorem OkN.sm{f:Nat×Nat}(h:OkN f):0<f.1∧0<f.2∧Sm f.1∧Sm f.2:=by
 obtain ⟨h1,h2,h3,_⟩:=h
 exact ⟨h1,by omega,sm1000 (by omega),sm1000 (by omega)⟩
section
variable {x d y e z w:Nat}
theorem mul_rr(hd:0<d)(he:0<e)(hw:0<w)(hx:Sm x)(hds:Sm d)(hy:Sm y)(hes:Sm e)(hz:Sm z)(hws:Sm w)(h:z*(d*e)=x*y*w) :
  mulF (ofN (red x d).1) (ofN (red x d).2) (ofN (red y e).1) (ofN (red y e).2)=(0,red z w):=by
 have h1:=red_p (x:=x) hd
 have h2:=red_p (x:=y) he
 rw[mulF_of (chk_red hx hds hd) (chk_red hy hes he)]
 refine ex_red (Nat.mul_pos h1.pos h2.pos) hw ?_ hz hws
 have e1:=h1.eq
 have e2:=h2.eq
 generalize (red x d).1=n1 at *
 generalize (red x d).2=d1 at *
 generalize (red y e).1=n2 at *
 generalize (red y e).2=d2 at *
 refine Nat.eq_of_mul_eq_mul_right (Nat.mul_pos hd he) ?_
 calc n1*n2*w*(d*e)=(n1*d)*(n2*e)*w:=by grind
  _=x*d1*(y*d2)*w:=by rw[e1,e2]
  _=(x*y*w)*(d1*d2):=by grind
  _=z*(d*e)*(d1*d2):=by rw[h]
  _=z*(d1*d2)*(d*e):=by grind
theorem add_rr(hd:0<d)(he:0<e)(hw:0<w)(hx:Sm x)(hds:Sm d)(hy:Sm y)(hes:Sm e)(hz:Sm z)(hws:Sm w)(h:z*(d*e)=(x*e+y*d)*w) :
  addF (ofN (red x d).1) (ofN (red x d).2) (ofN (red y e).1) (ofN (red y e).2)=(0,red z w):=by
 have h1:=red_p (x:=x) hd
 have h2:=red_p (x:=y) he
 rw[addF_of (chk_red hx hds hd) (chk_red hy hes he)]
 refine ex_red (Nat.mul_pos h1.pos h2.pos) hw ?_ hz hws
 have e1:=h1.eq
 have e2:=h2.eq
 generalize (red x d).1=n1 at *
 generalize (red x d).2=d1 at *
 generalize (red y e).1=n2 at *
 generalize (red y e).2=d2 at *
 refine Nat.eq_of_mul_eq_mul_right (Nat.mul_pos hd he) ?_
 calc (n1*d2+n2*d1)*w*(d*e)=((n1*d)*d2*e+(n2*e)*d1*d)*w:=by grind
  _=(x*d1*d2*e+y*d2*d1*d)*w:=by rw[e1,e2]
  _=((x*e+y*d)*w)*(d1*d2):=by grind
  _=z*(d*e)*(d1*d2):=by rw[h]
  _=z*(d1*d2)*(d*e):=by grind
theorem sub_1r(hd:0<d)(hx:Sm x)(hds:Sm d)(h:x≤d):subF (ofN 1) (ofN 1) (ofN (red x d).1) (ofN (red x d).2)=(0,red (d-x) d):=by
 have h1:=red_p (x:=x) hd
 have e1:=h1.eq
 have hle:(red x d).1≤(red x d).2:=by
  refine Nat.le_of_mul_le_mul_right ?_ hd
  rw[e1,Nat.mul_comm (red x d).2]
  exact Nat.mul_le_mul_right _ h
 rw[subF_of (by decide +kernel) (chk_red hx hds hd) (by omega),Nat.one_mul,Nat.mul_one]
 refine ex_red h1.pos hd ?_ (hds.le (by omega)) hds
 rw[Nat.sub_mul,Nat.sub_mul,e1,Nat.mul_comm d]
end
theorem mulX_get{eff:Nat}{f g:Nat×Nat}:∀{X s:List Nat} {i:Nat} (h1:i<X.length) (h2:i<s.length) (h3:i<(mulX eff f g X s).length),(mulX eff f g X s)[i]=if eff &&& s[i]=0 then X[i]*f.1*g.2 else X[i]*g.1*f.2
 | x :: r,y :: t,0,_,_,_=>by simp only[mulX,List.getElem_cons_zero]
 | x :: r,y :: t,i+1,h1,h2,h3=>by
  simp only[mulX,List.getElem_cons_succ]
  exact mulX_get (by simpa using h1) (by simpa using h2) _
def filtL:List FR→List Nat→(Nat→Bool)→List FR
 | x :: r,s :: t,c=>if c s then x :: filtL r t c else filtL r t c
 | _,_,_=>[]
theorem filtL_take(c:Nat→Bool):∀(L:List FR) (S:List Nat) (k:Nat) (h1:k<L.length) (h2:k<S.length),filtL (L.take (k+1)) (S.take (k+1)) c=filtL (L.take k) (S.take k) c++(if c S[k] then [L[k]] else [])
 | x :: r,s :: t,0,_,_=>by simp[filtL]
 | x :: r,s :: t,k+1,h1,h2=>by
  simp only[List.take_succ_cons,filtL,List.getElem_cons_succ]
  rw[filtL_take c r t k (by simpa using h1) (by simpa using h2)]
  split<;>simp
theorem filtL_len(c:Nat→Bool):∀(L:List FR) (S:List Nat),(filtL L S c).length≤L.length
 | [],_=>by simp[filtL]
 | _ :: _,[]=>by simp[filtL]
 | x :: r,s :: t=>by
  rw[filtL]
  have:=filtL_len c r t
  split<;>simp<;>omega
theorem filtL_mem(c:Nat→Bool):∀(L:List FR) (S:List Nat),∀x∈filtL L S c,x∈L
 | [],_,x,h=>by simp[filtL]at h
 | _ :: _,[],x,h=>by simp[filtL]at h
 | y :: r,s :: t,x,h=>by
  rw[filtL]at h
  split at h
  ·rcases List.mem_cons.1 h with h|h
   ·exact h▸List.mem_cons_self ..
   ·exact List.mem_cons_of_mem _ (filtL_mem c r t x h)
  ·exact List.mem_cons_of_mem _ (filtL_mem c r t x h)
def totF(L:List FR)(S:List Nat)(c:Nat→Bool):Int×Nat×Nat:=sumF (filtL L S c)
section
variable {M:Mem}{K:AV→Hp→Mem→Prop}{ur us uw x1 x2 y1 y2:Value}{l s:List Int}{S:List Nat}{L:List FR}{fl dt:LP}
def badC(eff s:Nat):Bool:=decide (¬eff &&& s=0)
def riskF(l s:List Int)(L:List FR)(p:Int):Int×Nat×Nat:=if setB l p then totF L (toN s) (badC (effN l p.toNat)) else (3,0,0)
end
def FrE(M:Mem)(K:AV→Hp→Mem→Prop)(r:Int×Nat×Nat):Prop:=∀w1 w2 M',Mem.le M M'→IsF M' w1 w2 (ofN r.2.1) (ofN r.2.2)→K (.ext (.tuple #[.agg #[w1,w2],.int .i64 r.1])) [] M'
theorem FrE.err{M M':Mem}{K:AV→Hp→Mem→Prop}{e:Int}(h:FrE M K (e,0,0))(hM:Mem.le M M'):K (.ext (.tuple #[.agg #[.slice none 0 0,.slice none 0 0],.int .i64 e])) [] M':=h _ _ M' hM (isF_zero _)
def failR(r:Int×Nat×Nat)(fl dt:LP):Int×Nat×Nat:=
 if r.1=0 then
  let x:=mulF (ofN r.2.1) (ofN r.2.2) dt.1 dt.2
  if x.1=0 then
   let o:=othF (ofN r.2.1) (ofN r.2.2)
   let y:=mulF (ofN o.1) (ofN o.2) fl.1 fl.2
   if y.1=0 then addF (ofN x.2.1) (ofN x.2.2) (ofN y.2.1) (ofN y.2.2) else (y.1,0,0)
  else (x.1,0,0)
 else (r.1,0,0)
def failF(l s:List Int)(L:List FR)(fl dt:LP)(p:Int):Int×Nat×Nat:=if chkB l s L&&noiF fl.1 fl.2 dt.1 dt.2 then failR (riskF l s L p) fl dt else (1,0,0)
section
variable {M:Mem}{K:AV→Hp→Mem→Prop}{ur us uw x1 x2 y1 y2:Value}{l s:List Int}{S:List Nat}{L:List FR}{fl dt:LP}
end
def filtX:List Nat→List Nat→(Nat→Bool)→List Nat
 | x :: r,s :: t,c=>if c s then x :: filtX r t c else filtX r t c
 | _,_,_=>[]
def totX(X s:List Nat)(c:Nat→Bool):Nat:=lsum (filtX X s c)
theorem filtX_le(c:Nat→Bool):∀(X s:List Nat),lsum (filtX X s c)≤lsum X
 | [],_=>by simp[filtX]
 | _ :: _,[]=>by simp[filtX,lsum]
 | x :: r,s :: t=>by
  have:=filtX_le c r t
  rw[filtX,lsum]
  split
  ·rw[lsum];omega
  ·omega
theorem filt_plain{d:Nat}(c:Nat→Bool):∀(X s:List Nat) (L:List FR),L.map prV=(X.map fun x=>red x d).map (fun q=>(ofN q.1,ofN q.2))→(filtL L s c).map prV=(((filtX X s c).map fun x=>red x d).map qFR).map prV
 | [],_,[],_=>by simp[filtL,filtX]
 | [],_,_ :: _,h=>by simp at h
 | _ :: _,_,[],h=>by simp at h
 | _ :: _,[],_ :: _,_=>by simp[filtL,filtX]
 | x :: r,s :: t,y :: u,h=>by
  rw[List.map_cons,List.map_cons,List.map_cons,List.cons.injEq]at h
  have ih:=filt_plain c r t u h.2
  rw[filtL,filtX]
  split
  ·rw[List.map_cons,List.map_cons,List.map_cons,List.map_cons,ih,h.1];rfl
  ·exact ih
theorem totF_red{d:Nat}(hd:0<d)(hds:Sm d){X s:List Nat}(hs:Sm (lsum X)){L:List FR}(c:Nat→Bool)(hL:L.map prV=(X.map fun x=>red x d).map (fun q=>(ofN q.1,ofN q.2))):totF L s c=(0,red (totX X s c) d):=by
 unfold totF
 rw[sumF_cong (filt_plain c X s L hL),sumF_red hd hds (hs.le (filtX_le c X s))]
 rfl
theorem mulX_sum{eff:Nat}{f g:Nat×Nat}:∀(X s:List Nat),X.length=s.length→lsum (mulX eff f g X s)+totX X s (badC eff)*(f.1*g.2)=totX X s (badC eff)*(g.1*f.2)+lsum X*(f.1*g.2)
 | [],[],_=>by simp[mulX,totX,filtX,lsum]
 | x :: r,s :: t,h=>by
  have ih:=mulX_sum (eff:=eff) (f:=f) (g:=g) r t (by simpa using h)
  unfold totX at ih ⊢
  rw[mulX,filtX,lsum,lsum]
  unfold badC at ih ⊢
  by_cases h0:eff &&& s=0
  ·rw[if_pos h0,if_neg (by simp[h0])]
   grind
  ·rw[if_neg h0,if_pos (by simp[h0]),lsum]
   grind
theorem othF_red{x d:Nat}(hd:0<d)(hx:Sm x)(hds:Sm d)(h:x≤d):othF (ofN (red x d).1) (ofN (red x d).2)=red (d-x) d:=by
 unfold othF
 rw[sub_1r hd hx hds h]
theorem le_million{a b:Nat}(ha:a≤1000)(hb:b≤1000):a*b≤1000000:=Nat.mul_le_mul ha hb
theorem failR_red{R N E:Nat}{f g:Nat×Nat}(hN:0<N)(hR:R≤N)(hs:Sm (N*1000000))(hf:OkN f)(hg:OkN g)(hE:E+R*(f.1*g.2)=R*(g.1*f.2)+N*(f.1*g.2)) :
  failR (0,red R N) (opN f) (opN g)=(0,red E (N*(f.2*g.2))):=by
 obtain ⟨f1,f2,f3,f4⟩:=hf.sm
 obtain ⟨g1,g2,g3,g4⟩:=hg.sm
 have fl:=hf.2.2.1
 have gl:=hg.2.2.1
 have flt:=hf.2.1
 have glt:=hg.2.1
 have hNs:Sm N:=hs.le (Nat.le_mul_of_pos_right _ (by decide))
 have hb1:Sm (R*g.1):=hs.le (Nat.mul_le_mul hR (by omega))
 have hb2:Sm (N*g.2):=hs.le (Nat.mul_le_mul_left _ (by omega))
 have hb3:Sm ((N-R)*f.1):=hs.le (Nat.mul_le_mul (by omega) (by omega))
 have hb4:Sm (N*f.2):=hs.le (Nat.mul_le_mul_left _ (by omega))
 have hb5:Sm (N*(f.2*g.2)):=hs.le (Nat.mul_le_mul_left _ (le_million fl gl))
 have hEe:E=R*(g.1*f.2)+(N-R)*(f.1*g.2):=by
  have:=Nat.sub_mul N R (f.1*g.2)
  have h2:=Nat.mul_le_mul_right (f.1*g.2) hR
  omega
 have hEl:E≤N*(f.2*g.2):=by
  rw[hEe]
  have h1:R*(g.1*f.2)≤R*(f.2*g.2):=Nat.mul_le_mul_left _ (by rw[Nat.mul_comm];exact Nat.mul_le_mul_left _ (by omega))
  have h2:(N-R)*(f.1*g.2)≤(N-R)*(f.2*g.2):=Nat.mul_le_mul_left _ (Nat.mul_le_mul_right _ (by omega))
  have h3:R*(f.2*g.2)+(N-R)*(f.2*g.2)=N*(f.2*g.2):=by rw[←Nat.add_mul];congr 1;omega
  omega
 have e1:=mul_rr (x:=R) (d:=N) (y:=g.1) (e:=g.2) (z:=R*g.1) (w:=N*g.2) hN g2 (Nat.mul_pos hN g2) (hNs.le hR) hNs g3 g4 hb1 hb2 rfl
 rw[red_okn hg]at e1
 have e2:=othF_red (x:=R) hN (hNs.le hR) hNs hR
 have e3:=mul_rr (x:=N-R) (d:=N) (y:=f.1) (e:=f.2) (z:=(N-R)*f.1) (w:=N*f.2) hN f2 (Nat.mul_pos hN f2) (hNs.le (by omega)) hNs f3 f4 hb3 hb4 rfl
 rw[red_okn hf]at e3
 have e4:=add_rr (x:=R*g.1) (d:=N*g.2) (y:=(N-R)*f.1) (e:=N*f.2) (z:=E) (w:=N*(f.2*g.2)) (Nat.mul_pos hN g2) (Nat.mul_pos hN f2) (Nat.mul_pos hN (Nat.mul_pos f2 g2)) hb1 hb2 hb3 hb4 (hb5.le hEl) hb5 (by rw[hEe];grind)
 unfold failR opN
 simp only[e1,e2,e3,e4,if_true]
theorem PX.fail{l:List Int}{s X:List Nat}{b:Nat}{f g:Nat×Nat}{pool:Int}{L:List FR}(h:PX s X b)(hc:chkL l=true)(hm:∃m:Int,(m=1∨m=2)∧s=setsL l m)(hf:OkN f)(hg:OkN g)(hfg:f.1*g.2<g.1*f.2)(hb:Sm (b*1000000))(hp:setB l pool=true)
  (hL:L.map prV=(qX X).map fun q=>(ofN q.1,ofN q.2)) :
  failF l (s.map fun (x:Nat)=>(x:Int)) L (opN f) (opN g) pool=(0,red (lsum (mulX (effN l pool.toNat) f g X s)) (lsum X*(f.2*g.2))):=by
 have hk:=(h.bx hc hm).chk (hb.le (Nat.le_mul_of_pos_right _ (by decide))) hL
 have hn:noiF (opN f).1 (opN f).2 (opN g).1 (opN g).2=true:=noiF_N hf hg hfg
 have hs:Sm (lsum X*1000000):=hb.le (Nat.mul_le_mul_right _ h.le)
 have hsl:Sm (lsum X):=hs.le (Nat.le_mul_of_pos_right _ (by decide))
 unfold failF riskF
 rw[hk,hn,Bool.and_self,if_pos rfl,if_pos hp,toN_map,totF_red h.sum hsl hsl (badC (effN l pool.toNat)) hL]
 exact failR_red h.sum (filtX_le _ _ _) hs hf hg (mulX_sum X s h.len)
section
variable {M:Mem}{K:AV→Hp→Mem→Prop}{ur us uw x1 x2 y1 y2:Value}{l s:List Int}{S:List Nat}{L:List FR}{fl dt:LP}
theorem badC_eq(e s:Nat):(!decide (e &&& s=0))=badC e s:=by unfold badC;rw[decide_not]
def rrHp(ur us uw:Value):Hp:=[(4,32,[.ext (.slice none 0 0),.ext (.slice none 0 0)]),(2,53,[.ext ur,.ext us,.ext uw])]
def rrSt(M:Mem)(ur us uw:Value)(p k:Nat)(E:List FR):St:={env:=[(7,.ext (.int .i64 (k:Int))),(6,.slo 106 0 E.length 2),(5,.ext (.int .i64 0)),(4,.own 4 0),(2,.own 2 0),(1,.ext (.int .i64 (p:Int)))],hp:=(106,32,frC E) :: rrHp ur us uw,M:=M,kb:=0,fx:=[]}
theorem rrisk_ok(p:Nat)(hp:p<256)(hc:chkL l=true)(h1:IsL M intV64 ur l)(h2:IsL M natV us S)(h3:IsR M 2 FR.c uw L)(h4:okFL M L)(b2:S.length<1000000)(hl:S.length=L.length)(hS:∀s∈S,s<256)
  (hK:∀w1 w2 M',Mem.le M M'→IsL M' u32V w1 (ofN (totF L S (badC (effN l p))).2.1)→IsL M' u32V w2 (ofN (totF L S (badC (effN l p))).2.2)→K (.ext (.tuple #[.agg #[w1,w2],.int .i64 (totF L S (badC (effN l p))).1])) [] M') :
  CallS Tryz.prog 147 [.ext (.agg #[ur,us,uw]),.ext (.int .i64 (p:Int))] [] M [] K:=by
 refine inlS (cs:=[]) Tryz.mixed Tryz.func147 rfl (by kernel_rfl) 0 rfl rfl ?_
 simp only[Tryz.f147]
 have o1:=h1.one
 have o2:=h2.one
 have o3:=h3.one
 have n2:=h2.len
 have s2:=h2.sl
 have s3:=h3.sl
 have n3:=h3.len
 rw[←hl]at n3
 refine wT (A5 o1 o2 o3 n2 s2) ?_
 refine ⟨fun m z=>∃M' E k,m=S.length-k∧k≤S.length∧Mem.le M M'∧E=filtL (L.take k) (S.take k) (badC (effN l p))∧z=rrSt M' ur us uw p k E,
  ⟨S.length,rrSt M ur us uw p 0 [],(le_nil 6 106 32 2 rfl (.inl (by simp[awayB,mentE,mentH,mentL,AV.ment,hasK]))).trans (le_sub ⟨rfl,rfl,rfl,rfl,rfl,rfl,trivial⟩ ⟨rfl,rfl,rfl,trivial⟩ rfl rfl rfl (keepLt0 _)),⟨M,[],0,by omega,by omega,Mem.le.refl _,rfl,rfl⟩⟩,?_⟩
 rintro m z ⟨M2,E,k,rfl,hk,hM,hE,rfl⟩
 have hEl:E.length≤L.length:=by
  rw[hE]
  exact Nat.le_trans (filtL_len _ _ _) (List.length_take_le' ..)
 have hEo:okFL M2 E:=fun x hx=>(h4.le hM) x (List.mem_of_mem_take (filtL_mem _ _ _ x (hE▸hx)))
 by_cases hlt:k<S.length
 case neg=>
  obtain rfl:k=S.length:=by omega
  have d1:decide ((S.length:Int)<(S.length:Int))=false:=by simp
  rw[List.take_length,List.take_of_length_le (by omega)]at hE
  have hT:totF L S (badC (effN l p))=sumF E:=by unfold totF;rw[hE]
  rw[hT]at hK
  have hf:=A11 @rrSt.eq_1 @rrHp.eq_1 d1 o1 o2 o3 n2 s2 @frC_ment @frC_kill @hasK_nil;refine wS ?_;refine yH 135 ?_;refine sF ?_;refine rfsum_bor 106 E.length _ rfl hEo (by omega) (fun w1 w2 M3 m3 g1 g2=>sG ?_);all_goals clear hf
  have m3:Mem.le M2 M3:=m3
  have p1:=g1.one
  have p2:=g2.one
  have hk:=hK w1 w2 M3 (hM.trans m3) g1 g2
  refine wG (A8 p1 p2 o1 o2 o3 @frC_ment @frC_kill @hasK_nil) ?_
  exact hk
 have d1:decide ((k:Int)<(S.length:Int))=true:=by rw[decide_eq_true_eq];omega
 have q1:(0:Int)≤(k:Int):=by omega
 have q2:(k:Int)<(S.length:Int):=by omega
 have hkL:k<L.length:=by omega
 have hs:=hS _ (List.getElem_mem hlt)
 have wk:IntKind.i64.wrap ((k:Int)+1)=((k+1:Nat):Int):=succ_i (by omega)
 have hu2:=h3.le hM
 have hnn:=hu2.nn hkL
 have hat:=hu2.at (P:=Tryz.prog) (T:=32) (fun _=>rfl) tk32 tz32 hkL
 have hF:=(h4.le hM) _ (List.getElem_mem hkL)
 have hst:=filtL_take (badC (effN l p)) L S k hkL hlt
 rw[←hE]at hst
 have hlE:(frC E).length=E.length*2:=frC_len E
 have hbe:=badC_eq (effN l p) S[k]
 generalize L[k]=x at *
 obtain ⟨v1,v2,w1,w2⟩:=x
 have hat:lookM Tryz.prog 32 M2 (elemP uw 2 k)=some (.agg #[v1,v2]):=hat
 have hF:IsF M2 v1 v2 w1 w2:=hF
 have p1:=hF.n.one
 have p2:=hF.d.one
 have h12:=h1.le hM
 have h22:=h2.le hM
 cases hc':badC (effN l p) S[k] with
 | true=>
  rw[hc',if_pos rfl]at hst
  rw[hc']at hbe
  have ap:frC E++[.ext v1,.ext v2]=frC (E++[⟨v1,v2,w1,w2⟩]):=by simp[frC,FR.c]
  have hf:=A12 @rrSt.eq_1 @rrHp.eq_1 d1 q1 q2 wk hnn hat p1 p2 ap (A12 hlE o1 o2 o3 n2 s2 n3 s3 @frC_ment @frC_kill @hasK_nil hbe);refine sF ?_;(repeat' ((first|((with_reducible refine yN ?_);refine kS 145 (bad_ok p k hp hc h12 h22 o3 hlt b2 hs ?_))|refine oB ?_|fail)<;>refine sF ?_<;>try with_reducible exact tT))<;>try clear hf
  exact ⟨S.length-(k+1),rrSt M2 ur us uw p (k+1) (E++[⟨v1,v2,w1,w2⟩]),by omega,le_sub ⟨rfl,by rw[List.length_append];rfl,rfl,rfl,rfl,rfl,trivial⟩ ⟨rfl,rfl,rfl,trivial⟩ rfl rfl rfl (keepLt0 _),M2,_,k+1,rfl,by omega,hM,hst.symm,rfl⟩
 | false=>
  rw[hc',if_neg (by decide),List.append_nil]at hst
  rw[hc']at hbe
  have hf:=A12 @rrSt.eq_1 @rrHp.eq_1 d1 q1 q2 wk o1 o2 o3 n2 s2 (A4 @frC_ment @frC_kill @hasK_nil hbe);refine sF ?_;(repeat' ((first|((with_reducible refine yN ?_);refine kS 145 (bad_ok p k hp hc h12 h22 o3 hlt b2 hs ?_))|refine oB ?_|fail)<;>refine sF ?_<;>try with_reducible exact tT))<;>try clear hf
  exact ⟨S.length-(k+1),rrSt M2 ur us uw p (k+1) E,by omega,le_sub ⟨rfl,rfl,rfl,rfl,rfl,rfl,trivial⟩ ⟨rfl,rfl,rfl,trivial⟩ rfl rfl rfl (keepLt0 _),M2,_,k+1,rfl,by omega,hM,hst.symm,rfl⟩
end
def dX(R N:Nat):Nat:=(2*R-N)+(N-2*R)
def pickS(f:Nat→Nat):List Nat→Nat→Nat→Nat
 | [],s,_=>s
 | p :: r,s,b=>if f p<b then pickS f r p (f p) else pickS f r s b
def dP(l:List Int)(X s:List Nat)(p:Nat):Nat:=dX (totX X s (badC (effN l p))) (lsum X)
def splitX(l:List Int)(X s:List Nat):Nat:=pickS (dP l X s) (ivN l.length) 0 (2*lsum X)
theorem iv_lt{n:Nat}(h:n≤8):∀p∈ivN n,p<256∧p<2^n:=by
 have:∀k,k<9→∀p∈ivN k,p<256∧p<2^k:=by decide +kernel
 exact this n (by omega)
theorem iv_len{n:Nat}(h:n≤8):(ivN n).length≤256:=by
 have:∀k,k<9→(ivN k).length≤256:=by decide +kernel
 exact this n (by omega)
theorem red_half{N:Nat}(h:0<N)(hs:Sm (2*N)):red N (2*N)=(1,2):=by
 have h1:=red_cross (x:=N) (d:=2*N) (y:=1) (e:=2) (by omega) (by decide) (hs.le (by omega)) hs (sm1000 (by decide)) (sm1000 (by decide)) (by omega)
 rw[h1];rfl
theorem cmp_red{x d y e:Nat}(hd:0<d)(he:0<e)(hx:Sm x)(hds:Sm d)(hy:Sm y)(hes:Sm e):cmpF (ofN (red x d).1) (ofN (red x d).2) (ofN (red y e).1) (ofN (red y e).2)=cmpN (x*e) (y*d):=by
 have h1:=red_p (x:=x) hd
 have h2:=red_p (x:=y) he
 unfold cmpF
 rw[chk_red hx hds hd,chk_red hy hes he,Bool.and_self,if_pos rfl,valN_ofN,valN_ofN,valN_ofN,valN_ofN]
 have e1:=h1.eq
 have e2:=h2.eq
 have p1:=h1.pos
 have p2:=h2.pos
 generalize (red x d).1=n1 at *
 generalize (red x d).2=d1 at *
 generalize (red y e).1=n2 at *
 generalize (red y e).2=d2 at *
 have k1:n1*d2*(d*e)=x*e*(d1*d2):=by
  calc n1*d2*(d*e)=(n1*d)*d2*e:=by grind
   _=x*d1*d2*e:=by rw[e1]
   _=x*e*(d1*d2):=by grind
 have k2:n2*d1*(d*e)=y*d*(d1*d2):=by
  calc n2*d1*(d*e)=(n2*e)*d1*d:=by grind
   _=y*d2*d1*d:=by rw[e2]
   _=y*d*(d1*d2):=by grind
 have hde:0<d*e:=Nat.mul_pos hd he
 have hdd:0<d1*d2:=Nat.mul_pos p1 p2
 have lt_iff:n1*d2<n2*d1↔x*e<y*d:=by
  rw[←Nat.mul_lt_mul_right hde,k1,k2,Nat.mul_lt_mul_right hdd]
 have eq_iff:n1*d2=n2*d1↔x*e=y*d:=by
  constructor
  ·intro h
   refine Nat.eq_of_mul_eq_mul_right hdd ?_
   rw[←k1,←k2,h]
  ·intro h
   refine Nat.eq_of_mul_eq_mul_right hde ?_
   rw[k1,k2,h]
 unfold cmpN
 simp only[lt_iff,eq_iff]
theorem sub_red{x d y e z w:Nat}(hd:0<d)(he:0<e)(hw:0<w)(hx:Sm x)(hds:Sm d)(hy:Sm y)(hes:Sm e)(hz:Sm z)(hws:Sm w)(hle:y*d≤x*e)(h:z*(d*e)=(x*e-y*d)*w) :
  subF (ofN (red x d).1) (ofN (red x d).2) (ofN (red y e).1) (ofN (red y e).2)=(0,red z w):=by
 have h1:=red_p (x:=x) hd
 have h2:=red_p (x:=y) he
 have e1:=h1.eq
 have e2:=h2.eq
 have k1:(red x d).1*(red y e).2*(d*e)=x*e*((red x d).2*(red y e).2):=by
  calc (red x d).1*(red y e).2*(d*e)=((red x d).1*d)*(red y e).2*e:=by grind
   _=x*(red x d).2*(red y e).2*e:=by rw[e1]
   _=x*e*((red x d).2*(red y e).2):=by grind
 have k2:(red y e).1*(red x d).2*(d*e)=y*d*((red x d).2*(red y e).2):=by
  calc (red y e).1*(red x d).2*(d*e)=((red y e).1*e)*(red x d).2*d:=by grind
   _=y*(red y e).2*(red x d).2*d:=by rw[e2]
   _=y*d*((red x d).2*(red y e).2):=by grind
 have hde:0<d*e:=Nat.mul_pos hd he
 have hle2:(red y e).1*(red x d).2≤(red x d).1*(red y e).2:=by
  refine Nat.le_of_mul_le_mul_right ?_ hde
  rw[k1,k2]
  exact Nat.mul_le_mul_right _ hle
 rw[subF_of (chk_red hx hds hd) (chk_red hy hes he) hle2]
 refine ex_red (Nat.mul_pos h1.pos h2.pos) hw ?_ hz hws
 refine Nat.eq_of_mul_eq_mul_right hde ?_
 calc ((red x d).1*(red y e).2-(red y e).1*(red x d).2)*w*(d*e)=((red x d).1*(red y e).2*(d*e)-(red y e).1*(red x d).2*(d*e))*w:=by rw[Nat.mul_right_comm,Nat.sub_mul]
  _=(x*e-y*d)*((red x d).2*(red y e).2)*w:=by rw[k1,k2,←Nat.sub_mul]
  _=((x*e-y*d)*w)*((red x d).2*(red y e).2):=by grind
  _=z*(d*e)*((red x d).2*(red y e).2):=by rw[h]
  _=z*((red x d).2*(red y e).2)*(d*e):=by grind
theorem ofF_12:ofF 1 2=(0,1,2):=by decide +kernel
theorem ofN2_len:(ofN 2).length≤128:=(sm1000 (by decide)).len
section
variable {M:Mem}{K:AV→Hp→Mem→Prop}{ur us uw u1 u2:Value}{l:List Int}{s X:List Nat}{b:Nat}
theorem rhalf_ok(hK:FrK M K (1,2)):CallS Tryz.prog 71 [.ext (.int .i64 1),.ext (.int .i64 2)] [] M [] K:=by
 refine inlS (cs:=[]) Tryz.mixed Tryz.func71 rfl (by kernel_rfl) 0 rfl rfl ?_
 simp only[Tryz.f71]
 refine sU ?_;(repeat' ((first|((with_reducible refine yN ?_);refine kS 110 (rfof_ok 1 2 (by omega) (by omega) (by omega) (by omega) (fun w1 w2 M1 a1 a2 a3 a4 a5=>Stop.mk ?_)))|refine oB ?_|fail)<;>refine sU ?_<;>try with_reducible exact tT))
 rw[ofF_12]at a2 a3
 have hk:=hK w1 w2 M1 a1 (isF_ofN a2 a3 ⟨ofN1_len,ofN2_len⟩) a4 a5
 have b2:=a2.one
 have b3:=a3.one
 refine wG (A2 b2 b3) ?_
 exact hk
theorem away_ok{R N:Nat}(hu:IsF M u1 u2 (ofN (red R N).1) (ofN (red R N).2))(hN:0<N)(hR:R≤N)(hs:Sm (2*N))(hK:∀w1 w2 M',Mem.le M M'→IsF M' w1 w2 (ofN (red (dX R N) (2*N)).1) (ofN (red (dX R N) (2*N)).2)→K (.ext (.tuple #[.agg #[w1,w2],.int .i64 0])) [] M') :
  CallS Tryz.prog 148 [.ext (.agg #[u1,u2])] [] M [] K:=by
 refine inlS (cs:=[]) Tryz.mixed Tryz.func148 rfl (by kernel_rfl) 0 rfl rfl ?_
 simp only[Tryz.f148]
 have o1:=hu.n.one
 have o2:=hu.d.one
 have hNs:Sm N:=hs.le (by omega)
 have hRs:Sm R:=hNs.le hR
 have hh:=red_half hN hs
 have hc:=cmp_red (x:=R) (d:=N) (y:=N) (e:=2*N) hN (by omega) hRs hNs hNs hs
 have hdl:dX R N≤N:=by unfold dX;omega
 have hf:=A2 o1 o2;refine wS ?_;refine kN 71 (rhalf_ok (fun w1 w2 M1 m1 g1 _ _=>sG ?_));all_goals clear hf
 have m1:Mem.le M M1:=m1
 have g1:IsF M1 w1 w2 (ofN (red N (2*N)).1) (ofN (red N (2*N)).2):=by rw[hh];exact g1
 have p1:=g1.n.one
 have p2:=g1.d.one
 have h1:=hu.le m1
 have hf:=A4 o1 o2 p1 p2;refine wH ?_;refine kN 91 (rfcmp_ok h1 g1 (fun M2 m2=>sG ?_));all_goals clear hf
 have m2:Mem.le M1 M2:=m2
 rw[hc]
 have h2:=h1.le m2
 have g2:=g1.le m2
 by_cases hg:N<2*R
 ·have hcm:cmpN (R*(2*N)) (N*N)=1:=cmpN_gt (by rw[Nat.mul_left_comm,Nat.mul_comm R N,Nat.mul_left_comm 2 N R];exact Nat.mul_lt_mul_of_pos_left hg hN)
  rw[hcm]
  have hsb:=sub_red (x:=R) (d:=N) (y:=N) (e:=2*N) (z:=dX R N) (w:=2*N) hN (by omega) (by omega) hRs hNs hNs hs (hs.le (by omega)) hs (by
   rw[Nat.mul_left_comm,Nat.mul_comm R N,Nat.mul_left_comm 2 N R];exact Nat.mul_le_mul_left _ (by omega)) (by
   have e1:dX R N=2*R-N:=by unfold dX;omega
   have e2:R*(2*N)-N*N=(2*R-N)*N:=by rw[Nat.sub_mul];congr 1;grind
   rw[e1,e2];grind)
  have hf:=A4 o1 o2 p1 p2;refine wH ?_;refine kN 130 (rfsub_ok h2 g2 (FracK.of hsb (sm_red (by omega) (hs.le (by omega)) hs) (fun v1 v2 M3 m3 g3=>sG ?_)));all_goals clear hf
  have q1:=g3.n.one
  have q2:=g3.d.one
  have hk:=hK v1 v2 M3 (m1.trans (m2.trans m3)) g3
  refine wG (A6 o1 o2 p1 p2 q1 q2) ?_
  exact hk
 ·have hle:R*(2*N)≤N*N:=by rw[Nat.mul_left_comm,Nat.mul_comm R N,Nat.mul_left_comm 2 N R];exact Nat.mul_le_mul_left _ (by omega)
  have hcm:decide (0<cmpN (R*(2*N)) (N*N))=false:=by
   rw[decide_eq_false_iff_not]
   unfold cmpN
   (repeat' split)<;>omega
  have hsb:=sub_red (x:=N) (d:=2*N) (y:=R) (e:=N) (z:=dX R N) (w:=2*N) (by omega) hN (by omega) hNs hs hRs hNs (hs.le (by omega)) hs hle (by
   have e1:dX R N=N-2*R:=by unfold dX;omega
   have e2:N*N-R*(2*N)=(N-2*R)*N:=by rw[Nat.sub_mul];congr 1;grind
   rw[e1,e2];grind)
  have hf:=A5 o1 o2 p1 p2 hcm;refine wH ?_;refine kN 130 (rfsub_ok g2 h2 (FracK.of hsb (sm_red (by omega) (hs.le (by omega)) hs) (fun v1 v2 M3 m3 g3=>sG ?_)));all_goals clear hf
  have q1:=g3.n.one
  have q2:=g3.d.one
  have hk:=hK v1 v2 M3 (m1.trans (m2.trans m3)) g3
  refine wG (A6 o1 o2 p1 p2 q1 q2) ?_
  exact hk
end
def bestI(L:List FR):Nat→Nat
 | 0=>0
 | k+1=>if 0<cmpF (L.getD k zFR).l1 (L.getD k zFR).l2 (L.getD (bestI L k) zFR).l1 (L.getD (bestI L k) zFR).l2 then k else bestI L k
theorem bestI_le(L:List FR):∀k,bestI L k≤k
 | 0=>Nat.le_refl _
 | k+1=>by
  rw[bestI]
  have:=bestI_le L k
  split<;>omega
theorem bestI_lt(L:List FR):∀k,0<k→bestI L k<k
 | k+1,_=>by
  rw[bestI]
  have:=bestI_le L k
  split<;>omega
section
variable {M:Mem}{K:AV→Hp→Mem→Prop}{ur us uw u1 u2:Value}{l s:List Int}{l1 l2:List Nat}{L:List FR}
theorem cloneN_ok(u:Value)(l:List Nat)(hu:IsL M u32V u l)(hb:l.length<1000000000)(hK:∀w M',Mem.le M M'→IsL M' u32V w l→FreshS M w→K (.ext w) [] M'):CallS Tryz.prog 120 [.ext u] [] M [] K:=by
 refine CallS.frzF ?_
 refine inlS (cs:=[]) Tryz.mixed Tryz.func120 rfl (by kernel_rfl) 0 rfl rfl ?_
 simp only[Tryz.f120]
 cases hn:nilS u with
 | true=>
  have hl:l=[]:=by
   rcases l with _|⟨a,r⟩
   ·rfl
   ·rw[hu.nn (i:=0) (by simp)]at hn;cases hn
  subst hl
  refine wT (A11 hn hu.one hu.sl @cE_ment @hasK_nil @cE_kill @cE_len @u32_one @u32_app1 @u32_set @Nat.mul_one) ?_
  exact .inl (hK _ _ (Mem.le.refl _) (isL_nil _ _ _) (freshS_nil _ _))
 | false=>
  have hrow:=hu.row
  have h1:List.map AV.ext (List.map u32V l)=cE u32V l:=rfl
  refine wT (A12 hn hu.one hu.sl hu.len hrow h1 @cE_ment @hasK_nil @cE_kill @cE_len @u32_one (A3 @u32_app1 @u32_set @Nat.mul_one)) ?_
  exact FrzF.one (l.map u32V) rfl (by simp) fun w M' h1 h2 h3=>hK w M' h1 (by unfold IsL;exact h2) h3
theorem copied_ok(hu:IsF M u1 u2 l1 l2)(hK:∀w1 w2 M',Mem.le M M'→IsF M' w1 w2 l1 l2→K (.ext (.agg #[w1,w2])) [] M'):CallS Tryz.prog 79 [.ext (.agg #[u1,u2])] [] M [] K:=by
 refine inlS (cs:=[]) Tryz.mixed Tryz.func79 rfl (by kernel_rfl) 0 rfl rfl ?_
 simp only[Tryz.f79]
 have h1:=hu.n.one
 have h2:=hu.d.one
 have bn:=hu.bn
 have bd:=hu.bd
 have hf:=A2 h1 h2;refine sF ?_;(repeat' ((first|((with_reducible refine yM ?_);refine kS 120 (cloneN_ok u1 l1 hu.n (by omega) (fun w1 M1 m1 a1 _=>Stop.mk ?_)))|((with_reducible refine isE 3 (by decide) ?_);refine dR ((0,[]) :: (1,[]) :: (3,[1]) :: (4,[1]) :: (2,[4]) :: (rP 5 3 [] [])) (rgL 3 5 []) [] ?_)|refine oB ?_|fail)<;>refine sF ?_<;>try with_reducible exact tT))<;>try clear hf
 have m1:Mem.le M M1:=m1
 have p1:=a1.one
 have hd:=hu.d.le m1
 have hf:=A3 h1 h2 p1;refine wH ?_;refine kM 120 (cloneN_ok u2 l2 hd (by omega) (fun w2 M2 m2 a2 _=>sG ?_));all_goals clear hf
 have m2:Mem.le M1 M2:=m2
 have p2:=a2.one
 have hk:=hK w1 w2 M2 (m1.trans m2) ⟨a1.le m2,a2,hu.on,hu.od,hu.bn,hu.bd⟩
 refine wG (A4 h1 h2 p1 p2) ?_
 exact hk
def bsSt(M:Mem)(ur us uw:Value)(n i a:Nat):St:={env:=[(14,.ext (.int .i64 (i:Int))),(13,.ext (.int .i64 (n:Int))),(5,.ext (.int .i64 (a:Int))),(3,.own 3 0),(1,.own 1 0)],hp:=[(3,32,[.ext (.slice none 0 0),.ext (.slice none 0 0)]),(1,53,[.ext ur,.ext us,.ext uw])],M:=M,kb:=0,fx:=[]}
theorem best_ok(h1:IsL M intV64 ur l)(h2:IsL M intV64 us s)(h3:IsR M 2 FR.c uw L)(h4:okFL M L)(b1:l.length<1000000)(b2:s.length<1000000)(b3:L.length<1000000)(hc:chkB l s L=true)(h0:0<s.length)(hl:s.length=L.length)
  (hK:∀w1 w2 M',Mem.le M M'→IsF M' w1 w2 (L.getD (bestI L s.length) zFR).l1 (L.getD (bestI L s.length) zFR).l2→K (.ext (.tuple #[.int .i64 (s.getD (bestI L s.length) 0),.agg #[w1,w2],.int .i64 0])) [] M') :
  CallS Tryz.prog 40 [.ext (.agg #[ur,us,uw])] [] M [] K:=by
 refine inlS (cs:=[]) Tryz.mixed Tryz.func40 rfl (by kernel_rfl) 0 rfl rfl ?_
 simp only[Tryz.f40]
 have o1:=h1.one
 have o2:=h2.one
 have o3:=h3.one
 have n2:=h2.len
 have n3:=h3.len
 have s2:=h2.sl
 have s3:=h3.sl
 rw[←hl]at n3
 have hf:=A7 o1 o2 o3 n2 n3 s2 s3;refine wS ?_;refine kN 78 (pcheck_ok h1 h2 h3 h4 b1 b2 b3 (fun M1 m1=>sG ?_));all_goals clear hf
 have m1:Mem.le M M1:=m1
 refine wG (A8 o1 o2 o3 n2 n3 s2 s3 hc) ?_
 refine ⟨fun d z=>∃M' i,d=s.length-i∧i≤s.length∧Mem.le M M'∧z=bsSt M' ur us uw s.length i (bestI L i),
  ⟨s.length,bsSt M1 ur us uw s.length 0 0,le_sub ⟨rfl,rfl,rfl,rfl,rfl,trivial⟩ ⟨rfl,rfl,trivial⟩ rfl rfl rfl (keepLt0 _),⟨M1,0,by omega,by omega,m1,rfl⟩⟩,?_⟩
 clear m1
 rintro d z ⟨M1,i,rfl,hi,hM,rfl⟩
 by_cases hlt:i<s.length
 case pos=>
  have d1:decide ((i:Int)<(s.length:Int))=true:=by rw[decide_eq_true_eq];omega
  have q1:(0:Int)≤(i:Int):=by omega
  have q2:(i:Int)<(s.length:Int):=by omega
  have wi:IntKind.i64.wrap ((i:Int)+1)=((i+1:Nat):Int):=succ_i (by omega)
  have hb:=bestI_le L i
  have k1:i<L.length:=by omega
  have k2:bestI L i<L.length:=by omega
  have q3:(0:Int)≤(bestI L i:Int):=by omega
  have q4:(bestI L i:Int)<(s.length:Int):=by omega
  have hnx:bestI L (i+1)=if 0<cmpF L[i].l1 L[i].l2 (L[bestI L i]).l1 (L[bestI L i]).l2 then i else bestI L i:=by
   rw[bestI,List.getD_eq_getElem?_getD,List.getD_eq_getElem?_getD,List.getElem?_eq_getElem k1,List.getElem?_eq_getElem k2];rfl
  have nn:=(h3.le hM).nn k1
  have a1:=(h3.le hM).at (P:=Tryz.prog) (T:=32) (fun _=>rfl) tk32 tz32 k1
  have a2:=(h3.le hM).at (P:=Tryz.prog) (T:=32) (fun _=>rfl) tk32 tz32 k2
  have f1:=h4.le hM _ (List.getElem_mem k1)
  have f2:=h4.le hM _ (List.getElem_mem k2)
  generalize bestI L i=b at *
  generalize L[i]=X at *
  generalize L[b]=Y at *
  obtain ⟨x1,x2,y1,y2⟩:=X
  obtain ⟨z1,z2,w1,w2⟩:=Y
  have a1:lookM Tryz.prog 32 M1 (elemP uw 2 i)=some (.agg #[x1,x2]):=a1
  have a2:lookM Tryz.prog 32 M1 (elemP uw 2 b)=some (.agg #[z1,z2]):=a2
  have f1:IsF M1 x1 x2 y1 y2:=f1
  have f2:IsF M1 z1 z2 w1 w2:=f2
  have p1:=f1.n.one
  have p2:=f1.d.one
  have p3:=f2.n.one
  have p4:=f2.d.one
  simp only at hnx
  have hf:=A12 @bsSt.eq_1 d1 q1 q2 q3 q4 nn a1 a2 p1 p2 (A9 p3 p4 o1 o2 o3 n2 n3 s2 s3);refine sF ?_;(repeat' ((first|((with_reducible refine yM ?_);refine kS 26 (fcmp_ok f1 f2 (fun M2 m2=>Stop.mk ?_)))|((with_reducible refine isE 17 (by decide) ?_);refine dR [(0,[]),(1,[]),(2,[1]),(3,[]),(4,[]),(5,[1,4]),(6,[1,4]),(7,[1,4,6]),(8,[1,4]),(9,[1,4]),(10,[]),(11,[])] (rgL 17 10 []) [] ?_)|((with_reducible refine isE 31 (by decide) ?_);refine dR ((0,[]) :: (1,[]) :: (2,[1]) :: (3,[]) :: (4,[]) :: (5,[1,4]) :: (6,[1,4]) :: (7,[1,4,6]) :: (rP 8 3 [1,4] (rP 11 3 [] []))) (rgL 31 11 []) [] ?_)|refine oB ?_|fail)<;>refine sF ?_<;>try with_reducible exact tT))<;>try clear hf
  have m2:Mem.le M1 M2:=m2
  by_cases hcm:0<cmpF y1 y2 w1 w2
  ·have e1:decide (0<cmpF y1 y2 w1 w2)=true:=decide_eq_true hcm
   refine wG (A5 e1 wi o1 o2 o3) ?_
   exact ⟨s.length-(i+1),bsSt M2 ur us uw s.length (i+1) i,by omega,le_sub ⟨rfl,rfl,rfl,rfl,rfl,trivial⟩ ⟨rfl,rfl,trivial⟩ rfl rfl rfl (keepLt0 _),M2,i+1,rfl,by omega,hM.trans m2,by rw[hnx,if_pos hcm]⟩
  ·have e1:decide (0<cmpF y1 y2 w1 w2)=false:=decide_eq_false hcm
   refine wG (A5 e1 wi o1 o2 o3) ?_
   exact ⟨s.length-(i+1),bsSt M2 ur us uw s.length (i+1) b,by omega,le_sub ⟨rfl,rfl,rfl,rfl,rfl,trivial⟩ ⟨rfl,rfl,trivial⟩ rfl rfl rfl (keepLt0 _),M2,i+1,rfl,by omega,hM.trans m2,by rw[hnx,if_neg hcm]⟩
 obtain rfl:i=s.length:=by omega
 have d1:decide ((s.length:Int)<(s.length:Int))=false:=by simp
 have hb:=bestI_lt L s.length h0
 generalize bestI L s.length=b at *
 have k1:b<L.length:=by omega
 have q3:(0:Int)≤(b:Int):=by omega
 have q4:(b:Int)<(s.length:Int):=by omega
 have nn:=(h3.le hM).nn k1
 have a1:=(h3.le hM).at (P:=Tryz.prog) (T:=32) (fun _=>rfl) tk32 tz32 k1
 have f1:=h4.le hM _ (List.getElem_mem k1)
 have g1:=(h2.le hM).idx (P:=Tryz.prog) (T:=3) tk3 tz3 (by omega) hb
 rw[List.getD_eq_getElem?_getD,List.getElem?_eq_getElem k1,List.getD_eq_getElem?_getD,List.getElem?_eq_getElem hb,Option.getD_some,Option.getD_some]at hK
 generalize L[b]=X at *
 generalize s[b]=y at *
 obtain ⟨x1,x2,y1,y2⟩:=X
 have a1:lookM Tryz.prog 32 M1 (elemP uw 2 b)=some (.agg #[x1,x2]):=a1
 have f1:IsF M1 x1 x2 y1 y2:=f1
 have p1:=f1.n.one
 have p2:=f1.d.one
 have hf:=A12 @bsSt.eq_1 d1 q3 q4 nn a1 g1 @intV64.eq_1 p1 p2 o1 (A6 o2 o3 n2 n3 s2 s3);refine sF ?_;(repeat' ((first|((with_reducible refine yM ?_);refine kS 79 (copied_ok f1 (fun v1 v2 M2 m2 a2=>Stop.mk ?_)))|((with_reducible refine isE 17 (by decide) ?_);refine dR [(0,[]),(1,[]),(2,[1]),(3,[]),(4,[]),(5,[1,4]),(6,[1,4]),(7,[1,4,6]),(8,[1,4]),(9,[1,4]),(10,[]),(11,[])] (rgL 17 10 []) [] ?_)|((with_reducible refine isE 31 (by decide) ?_);refine dR ((0,[]) :: (1,[]) :: (2,[1]) :: (3,[]) :: (4,[]) :: (5,[1,4]) :: (6,[1,4]) :: (7,[1,4,6]) :: (rP 8 3 [1,4] (rP 11 3 [] []))) (rgL 31 11 []) [] ?_)|refine oB ?_|fail)<;>refine sF ?_<;>try with_reducible exact tT))<;>try clear hf
 have m2:Mem.le M1 M2:=m2
 have p3:=a2.n.one
 have p4:=a2.d.one
 have hk:=hK v1 v2 M2 (hM.trans m2) a2
 refine wG (A5 p3 p4 o1 o2 o3) ?_
 exact hk
end
section
variable {M:Mem}{K:AV→Hp→Mem→Prop}{ur us uw:Value}{l:List Int}{s X:List Nat}{b:Nat}
def rspHp(ur us uw v1 v2:Value):Hp:=[(6,32,[.ext v1,.ext v2]),(1,53,[.ext ur,.ext us,.ext uw])]
def rspSt(M:Mem)(ui ur us uw v1 v2:Value)(set i:Nat):St:={env:=[(7,.ext (.int .i64 (i:Int))),(6,.own 6 0),(5,.ext (.int .i64 (set:Int))),(4,.ext ui),(3,.ext (.int .i64 0)),(2,.ext (.int .i64 0)),(1,.own 1 0)],hp:=rspHp ur us uw v1 v2,M:=M,kb:=0,fx:=[]}
theorem rsplit35_ok(h:IsB M ur us uw l s (qX X))(hP:PX s X b)(hc:chkL l=true)(hs:∃m:Int,(m=1∨m=2)∧s=setsL l m)(b2:s.length<1000000)(hS:∀x∈s,x<256)(hb:Sm (b*1000000))
  (hK:∀M',Mem.le M M'→K (.ext (.tuple #[.int .i64 ((splitX l X s:Nat):Int),.int .i64 0])) [] M') :
  CallS Tryz.prog 99 [.ext (.agg #[ur,us,uw])] [] M [] K:=by
 refine inlS (cs:=[]) Tryz.mixed Tryz.func99 rfl (by kernel_rfl) 0 rfl rfl ?_
 simp only[Tryz.f99]
 obtain ⟨L,h3,h4,h5⟩:=h.q
 have hLl:L.length=s.length:=by have:=congrArg List.length h5;rw[List.length_map,List.length_map,qX_len,hP.len]at this;exact this
 have hk:=(hP.bx hc hs).chk (hb.le (Nat.le_mul_of_pos_right _ (by decide))) h5
 have hl8:=chk_len hc
 have h1:=h.l
 have o1:=h1.one
 have o2:=h.s.one
 have o3:=h3.one
 have n1:=h1.len
 have s1:=h1.sl
 have hN:=hP.sum
 have hsN:Sm (2*lsum X):=hb.le (by have:=hP.le;have:=Nat.mul_le_mul_right 1000000 this;omega)
 have hsN1:Sm (lsum X):=hsN.le (by omega)
 have hf:=A3 o1 o2 o3;refine wS ?_;refine kN 143 (rcheck35_ok h1 h.s.nat h3 h4 (by omega) (by rw[List.length_map];omega) (by omega) (fun M1 m1=>sG ?_));all_goals clear hf
 have m1:Mem.le M M1:=m1
 have hf:=A6 o1 o2 o3 hk n1 s1;refine wH ?_;refine kN 146 (intervalsR_ok l.length hl8.1 hl8.2 (fun ui M2 m2 gI _=>sG ?_));all_goals clear hf
 have m2:Mem.le M1 M2:=m2
 have o4:=gI.one
 have hf:=A4 o1 o2 o3 o4;refine wH ?_;refine kN 86 (rone_ok (fun v1 v2 M3 m3 g1 _ _=>sG ?_));all_goals clear hf
 have m3:Mem.le M2 M3:=m3
 have q1:=g1.n.one
 have q2:=g1.d.one
 have g1:IsF M3 v1 v2 (ofN (red (2*lsum X) (2*lsum X)).1) (ofN (red (2*lsum X) (2*lsum X)).2):=by rw[red_self (by omega)];exact g1
 have gI:=gI.le m3
 have hM3:Mem.le M M3:=m1.trans (m2.trans m3)
 have n4:=gI.len
 have s4:=gI.sl
 have hlt:=iv_lt hl8.2
 have hil:=iv_len hl8.2
 have hspl:pickS (dP l X s) ((ivN l.length).drop 0) 0 (2*lsum X)=splitX l X s:=rfl
 generalize splitX l X s=res at *
 generalize ivN l.length=I at *
 refine wG (A8 o1 o2 o3 o4 q1 q2 n4 s4) ?_
 refine ⟨fun m z=>∃M' i set bb v1 v2,m=I.length-i∧i≤I.length∧Mem.le M3 M'∧bb≤2*lsum X∧IsF M' v1 v2 (ofN (red bb (2*lsum X)).1) (ofN (red bb (2*lsum X)).2)∧pickS (dP l X s) (I.drop i) set bb=res∧z=rspSt M' ui ur us uw v1 v2 set i,
  ⟨I.length,rspSt M3 ui ur us uw v1 v2 0 0,le_sub ⟨rfl,rfl,rfl,rfl,rfl,rfl,rfl,trivial⟩ ⟨rfl,rfl,trivial⟩ rfl rfl rfl (keepLt0 _),⟨M3,0,0,2*lsum X,v1,v2,by omega,by omega,Mem.le.refl _,by omega,g1,hspl,rfl⟩⟩,?_⟩
 clear q1 q2
 rintro m z ⟨M4,i,set,bb,v1,v2,rfl,hi,m4,hbb,g1,hpk,rfl⟩
 have q1:=g1.n.one
 have q2:=g1.d.one
 by_cases hil2:i<I.length
 case neg=>
  obtain rfl:i=I.length:=by omega
  have z0:decide ((I.length:Int)<(I.length:Int))=false:=by simp
  rw[List.drop_length,pickS]at hpk
  subst hpk
  have hk:=hK M4 (hM3.trans m4)
  refine wT (A11 @rspSt.eq_1 @rspHp.eq_1 z0 o1 o2 o3 o4 q1 q2 n4 s4) ?_
  exact hk
 have z0:decide ((i:Int)<(I.length:Int))=true:=by rw[decide_eq_true_eq];omega
 have z1:(0:Int)≤(i:Int):=by omega
 have z2:(i:Int)<(I.length:Int):=by omega
 have wi:IntKind.i64.wrap ((i:Int)+1)=((i+1:Nat):Int):=succ_i (by omega)
 have gI4:=gI.le m4
 have f1:=gI4.idx (P:=Tryz.prog) (T:=3) tk3 tz3 (by omega) hil2
 have hp8:=hlt _ (List.getElem_mem hil2)
 rw[List.drop_eq_getElem_cons hil2,pickS]at hpk
 generalize I[i]=p at *
 have htot:=totF_red hN hsN1 hsN1 (s:=s) (badC (effN l p)) h5
 have hRle:totX X s (badC (effN l p))≤lsum X:=filtX_le _ _ _
 have hdp:dP l X s p=dX (totX X s (badC (effN l p))) (lsum X):=rfl
 rw[hdp]at hpk
 generalize totX X s (badC (effN l p))=R at *
 have hM4:=hM3.trans m4
 have hf:=A12 @rspSt.eq_1 @rspHp.eq_1 @natV.eq_1 z0 z1 z2 f1 o1 o2 o3 o4 (A4 q1 q2 n4 s4);refine sF ?_;(repeat' ((first|((with_reducible refine yM ?_);refine kS 147 (rrisk_ok p hp8.1 hc (h1.le hM4) (h.s.le hM4) (h3.le hM4) (h4.le hM4) b2 hLl.symm hS (fun w1 w2 M5 m5 g2 g3=>Stop.mk ?_)))|((with_reducible refine isE 27 (by decide) ?_);refine dR ((0,[]) :: (rP 1 4 [0] ((9,[0,4]) :: (rP 5 4 [] [(10,[]),(11,[])])))) (8 :: (rgL 26 9 [])) [] ?_)|refine oB ?_|fail)<;>refine sF ?_<;>try with_reducible exact tT))<;>try clear hf
 have m5:Mem.le M4 M5:=m5
 rw[htot]at g2 g3 ⊢
 have hrs:=sm_red hN (hsN1.le hRle) hsN1
 have gR:IsF M5 w1 w2 (ofN (red R (lsum X)).1) (ofN (red R (lsum X)).2):=isF_ofN g2 g3 ⟨hrs.1.len,hrs.2.len⟩
 have q3:=g2.one
 have q4:=g3.one
 have hf:=A10 o1 o2 o3 o4 q1 q2 q3 q4 n4 s4;refine wH ?_;refine kN 148 (away_ok gR hN hRle hsN (fun w3 w4 M6 m6 g4=>sG ?_));all_goals clear hf
 have m6:Mem.le M5 M6:=m6
 have q5:=g4.n.one
 have q6:=g4.d.one
 have hdl:dX R (lsum X)≤lsum X:=by unfold dX;omega
 have hcmp:=cmp_red (x:=dX R (lsum X)) (d:=2*lsum X) (y:=bb) (e:=2*lsum X) (by omega) (by omega) (hsN.le (by omega)) hsN (hsN.le hbb) hsN
 have hf:=A12 o1 o2 o3 o4 q1 q2 q3 q4 q5 q6 n4 s4;refine wH ?_;refine kN 91 (rfcmp_ok g4 ((g1.le m5).le m6) (fun M7 m7=>sG ?_));all_goals clear hf
 have m7:Mem.le M6 M7:=m7
 have hM7:=m4.trans (m5.trans (m6.trans m7))
 rw[hcmp]
 have f2:lookM Tryz.prog 3 M7 (elemP ui 1 i)=some (natV p):=lookM_le (m5.trans (m6.trans m7)) f1.1
 by_cases hless:dX R (lsum X)<bb
 ·rw[if_pos hless]at hpk
  have hcm:cmpN (dX R (lsum X)*(2*lsum X)) (bb*(2*lsum X))=-1:=cmpN_lt (Nat.mul_lt_mul_of_pos_right hless (by omega))
  rw[hcm]
  refine Stop.go ?_
  have hf:=A12 @natV.eq_1 z1 z2 f1 f2 wi o1 o2 o3 o4 q1 (A7 q2 q3 q4 q5 q6 n4 s4);refine sF ?_;(repeat' ((first|((with_reducible refine isE 50 (by decide) ?_);refine dR (rP 0 4 [] [(4,[3]),(5,[4]),(6,[])]) (5 :: (rgL 50 5 [])) [] ?_)|refine oB ?_|fail)<;>refine sF ?_<;>try with_reducible exact tT))<;>try clear hf
  exact ⟨I.length-(i+1),rspSt M7 ui ur us uw w3 w4 p (i+1),by omega,le_sub ⟨rfl,rfl,rfl,rfl,rfl,rfl,rfl,trivial⟩ ⟨rfl,rfl,trivial⟩ rfl rfl rfl (keepLt0 _),M7,i+1,p,_,w3,w4,rfl,by omega,hM7,by omega,g4.le m7,hpk,rfl⟩
 ·rw[if_neg hless]at hpk
  have hcm:decide (cmpN (dX R (lsum X)*(2*lsum X)) (bb*(2*lsum X))<0)=false:=by
   rw[decide_eq_false_iff_not]
   have:bb*(2*lsum X)≤dX R (lsum X)*(2*lsum X):=Nat.mul_le_mul_right _ (by omega)
   unfold cmpN
   (repeat' split)<;>omega
  refine wG (A12 hcm wi o1 o2 o3 o4 q1 q2 q3 q4 q5 (A3 q6 n4 s4)) ?_
  exact ⟨I.length-(i+1),rspSt M7 ui ur us uw v1 v2 set (i+1),by omega,le_sub ⟨rfl,rfl,rfl,rfl,rfl,rfl,rfl,trivial⟩ ⟨rfl,rfl,trivial⟩ rfl rfl rfl (keepLt0 _),M7,i+1,set,bb,v1,v2,rfl,by omega,hM7,hbb,g1.le (m5.trans (m6.trans m7)),hpk,rfl⟩
end
section
variable {M:Mem}{K:AV→Hp→Mem→Prop}{ur us uw u1 u2:Value}{l s:List Int}{l1 l2:List Nat}{L:List FR}
def rbsSt(M:Mem)(ur us uw:Value)(i a:Nat):St:={env:=[(6,.ext (.int .i64 (i:Int))),(5,.ext (.int .i64 (a:Int))),(3,.own 3 0),(1,.own 1 0)],hp:=[(3,32,[.ext (.slice none 0 0),.ext (.slice none 0 0)]),(1,53,[.ext ur,.ext us,.ext uw])],M:=M,kb:=0,fx:=[]}
theorem rbest35_ok(h1:IsL M intV64 ur l)(h2:IsL M intV64 us s)(h3:IsR M 2 FR.c uw L)(h4:okFL M L)(b1:l.length<1000000)(b2:s.length<1000000)(b3:L.length<1000000)(hc:chkB l s L=true)(h0:0<s.length)(hl:s.length=L.length)
  (hK:∀w1 w2 M',Mem.le M M'→IsF M' w1 w2 (L.getD (bestI L s.length) zFR).l1 (L.getD (bestI L s.length) zFR).l2→K (.ext (.tuple #[.int .i64 (s.getD (bestI L s.length) 0),.agg #[w1,w2],.int .i64 0])) [] M') :
  CallS Tryz.prog 97 [.ext (.agg #[ur,us,uw])] [] M [] K:=by
 refine inlS (cs:=[]) Tryz.mixed Tryz.func97 rfl (by kernel_rfl) 0 rfl rfl ?_
 simp only[Tryz.f97]
 have o1:=h1.one
 have o2:=h2.one
 have o3:=h3.one
 have n2:=h2.len
 have n3:=h3.len
 have s2:=h2.sl
 have s3:=h3.sl
 rw[←hl]at n3
 have hf:=A7 o1 o2 o3 n2 n3 s2 s3;refine wS ?_;refine kN 143 (rcheck35_ok h1 h2 h3 h4 b1 b2 b3 (fun M1 m1=>sG ?_));all_goals clear hf
 have m1:Mem.le M M1:=m1
 refine wG (A8 o1 o2 o3 n2 n3 s2 s3 hc) ?_
 have hb1:bestI L 1=0:=by rw[bestI];split<;>rfl
 refine ⟨fun d z=>∃M' i,d=s.length-i∧1≤i∧i≤s.length∧Mem.le M M'∧z=rbsSt M' ur us uw i (bestI L i),
  ⟨s.length-1,rbsSt M1 ur us uw 1 0,le_sub ⟨rfl,rfl,rfl,rfl,trivial⟩ ⟨rfl,rfl,trivial⟩ rfl rfl rfl (keepLt0 _),⟨M1,1,rfl,by omega,by omega,m1,by rw[hb1]⟩⟩,?_⟩
 clear m1
 rintro d z ⟨M1,i,rfl,hi1,hi,hM,rfl⟩
 by_cases hlt:i<s.length
 case pos=>
  have d1:decide ((i:Int)<(s.length:Int))=true:=by rw[decide_eq_true_eq];omega
  have q1:(0:Int)≤(i:Int):=by omega
  have q2:(i:Int)<(s.length:Int):=by omega
  have wi:IntKind.i64.wrap ((i:Int)+1)=((i+1:Nat):Int):=succ_i (by omega)
  have hb:=bestI_le L i
  have k1:i<L.length:=by omega
  have k2:bestI L i<L.length:=by omega
  have q3:(0:Int)≤(bestI L i:Int):=by omega
  have q4:(bestI L i:Int)<(s.length:Int):=by omega
  have hnx:bestI L (i+1)=if 0<cmpF L[i].l1 L[i].l2 (L[bestI L i]).l1 (L[bestI L i]).l2 then i else bestI L i:=by
   rw[bestI,List.getD_eq_getElem?_getD,List.getD_eq_getElem?_getD,List.getElem?_eq_getElem k1,List.getElem?_eq_getElem k2];rfl
  have nn:=(h3.le hM).nn k1
  have a1:=(h3.le hM).at (P:=Tryz.prog) (T:=32) (fun _=>rfl) tk32 tz32 k1
  have a2:=(h3.le hM).at (P:=Tryz.prog) (T:=32) (fun _=>rfl) tk32 tz32 k2
  have f1:=h4.le hM _ (List.getElem_mem k1)
  have f2:=h4.le hM _ (List.getElem_mem k2)
  generalize bestI L i=b at *
  generalize L[i]=X at *
  generalize L[b]=Y at *
  obtain ⟨x1,x2,y1,y2⟩:=X
  obtain ⟨z1,z2,w1,w2⟩:=Y
  have a1:lookM Tryz.prog 32 M1 (elemP uw 2 i)=some (.agg #[x1,x2]):=a1
  have a2:lookM Tryz.prog 32 M1 (elemP uw 2 b)=some (.agg #[z1,z2]):=a2
  have f1:IsF M1 x1 x2 y1 y2:=f1
  have f2:IsF M1 z1 z2 w1 w2:=f2
  have p1:=f1.n.one
  have p2:=f1.d.one
  have p3:=f2.n.one
  have p4:=f2.d.one
  simp only at hnx
  have hf:=A12 @rbsSt.eq_1 d1 q1 q2 q3 q4 nn a1 a2 p1 p2 (A9 p3 p4 o1 o2 o3 n2 n3 s2 s3);refine sF ?_;(repeat' ((first|((with_reducible refine yM ?_);refine kS 91 (rfcmp_ok f1 f2 (fun M2 m2=>Stop.mk ?_)))|((with_reducible refine isE 18 (by decide) ?_);refine dR [(0,[]),(1,[]),(2,[1]),(3,[]),(4,[]),(5,[1,4]),(6,[1,4]),(7,[1,4,6]),(8,[1,4]),(9,[1,4]),(10,[]),(11,[])] (rgL 18 10 []) [] ?_)|((with_reducible refine isE 31 (by decide) ?_);refine dR [(0,[]),(1,[]),(2,[1]),(3,[]),(4,[]),(5,[1,4]),(6,[1,4]),(7,[1,4,6]),(8,[1,4]),(9,[1,4]),(10,[6,9]),(11,[]),(12,[])] (2 :: (rgL 31 10 [])) [] ?_)|refine oB ?_|fail)<;>refine sF ?_<;>try with_reducible exact tT))<;>try clear hf
  have m2:Mem.le M1 M2:=m2
  by_cases hcm:0<cmpF y1 y2 w1 w2
  ·have e1:decide (0<cmpF y1 y2 w1 w2)=true:=decide_eq_true hcm
   refine wG (A5 e1 wi o1 o2 o3) ?_
   exact ⟨s.length-(i+1),rbsSt M2 ur us uw (i+1) i,by omega,le_sub ⟨rfl,rfl,rfl,rfl,trivial⟩ ⟨rfl,rfl,trivial⟩ rfl rfl rfl (keepLt0 _),M2,i+1,rfl,by omega,by omega,hM.trans m2,by rw[hnx,if_pos hcm]⟩
  ·have e1:decide (0<cmpF y1 y2 w1 w2)=false:=decide_eq_false hcm
   refine wG (A5 e1 wi o1 o2 o3) ?_
   exact ⟨s.length-(i+1),rbsSt M2 ur us uw (i+1) b,by omega,le_sub ⟨rfl,rfl,rfl,rfl,trivial⟩ ⟨rfl,rfl,trivial⟩ rfl rfl rfl (keepLt0 _),M2,i+1,rfl,by omega,by omega,hM.trans m2,by rw[hnx,if_neg hcm]⟩
 obtain rfl:i=s.length:=by omega
 have d1:decide ((s.length:Int)<(s.length:Int))=false:=by simp
 have hb:=bestI_lt L s.length h0
 generalize bestI L s.length=b at *
 have k1:b<L.length:=by omega
 have q3:(0:Int)≤(b:Int):=by omega
 have q4:(b:Int)<(s.length:Int):=by omega
 have nn:=(h3.le hM).nn k1
 have a1:=(h3.le hM).at (P:=Tryz.prog) (T:=32) (fun _=>rfl) tk32 tz32 k1
 have f1:=h4.le hM _ (List.getElem_mem k1)
 have g1:=(h2.le hM).idx (P:=Tryz.prog) (T:=3) tk3 tz3 (by omega) hb
 rw[List.getD_eq_getElem?_getD,List.getElem?_eq_getElem k1,List.getD_eq_getElem?_getD,List.getElem?_eq_getElem hb,Option.getD_some,Option.getD_some]at hK
 generalize L[b]=X at *
 generalize s[b]=y at *
 obtain ⟨x1,x2,y1,y2⟩:=X
 have a1:lookM Tryz.prog 32 M1 (elemP uw 2 b)=some (.agg #[x1,x2]):=a1
 have f1:IsF M1 x1 x2 y1 y2:=f1
 have p1:=f1.n.one
 have p2:=f1.d.one
 have hk:=hK x1 x2 M1 hM f1
 have hf:=A12 @rbsSt.eq_1 d1 q3 q4 nn a1 g1 @intV64.eq_1 p1 p2 o1 (A6 o2 o3 n2 n3 s2 s3);refine sF ?_;(repeat' ((first|((with_reducible refine isE 18 (by decide) ?_);refine dR [(0,[]),(1,[]),(2,[1]),(3,[]),(4,[]),(5,[1,4]),(6,[1,4]),(7,[1,4,6]),(8,[1,4]),(9,[1,4]),(10,[]),(11,[])] (rgL 18 10 []) [] ?_)|((with_reducible refine isE 31 (by decide) ?_);refine dR [(0,[]),(1,[]),(2,[1]),(3,[]),(4,[]),(5,[1,4]),(6,[1,4]),(7,[1,4,6]),(8,[1,4]),(9,[1,4]),(10,[6,9]),(11,[]),(12,[])] (2 :: (rgL 31 10 [])) [] ?_)|refine oB ?_|fail)<;>refine sF ?_<;>try with_reducible exact tT))<;>try clear hf
 exact hk
end
theorem smC{j:Nat}(h:j≤20):Sm (b0*1000000^j):=by
 have h1:1000000^j≤1000000^20:=Nat.pow_le_pow_right (by decide) h
 have h2:b0*1000000^j≤b0*1000000^20:=Nat.mul_le_mul_left _ h1
 exact Nat.lt_of_le_of_lt h2 (Nat.lt_of_lt_of_le (show b0*1000000^20<2^600 by decide) (Nat.pow_le_pow_right (by decide) (by decide)))
theorem smC_succ{j:Nat}:b0*1000000^j*1000000=b0*1000000^(j+1):=by rw[Nat.pow_succ,Nat.mul_assoc]
def bestN(X:List Nat):Nat→Nat
 | 0=>0
 | k+1=>if X.getD (bestN X k) 0<X.getD k 0 then k else bestN X k
theorem bestN_le(X:List Nat):∀k,bestN X k≤k
 | 0=>Nat.le_refl _
 | k+1=>by
  rw[bestN]
  have:=bestN_le X k
  split<;>omega
theorem bestN_lt(X:List Nat):∀k,0<k→bestN X k<k
 | k+1,_=>by
  rw[bestN]
  have:=bestN_le X k
  split<;>omega
theorem cmpN_pos{x y:Nat}:0<cmpN x y↔y<x:=by
 unfold cmpN
 (repeat' split)<;>omega
theorem cmpN_nn{x y:Nat}:0≤cmpN x y↔y≤x:=by
 unfold cmpN
 (repeat' split)<;>omega
theorem plain_get{L:List FR}{X:List Nat}{N k:Nat}(hL:L.map prV=(X.map fun x=>red x N).map fun q=>(ofN q.1,ofN q.2))(hk:k<X.length) :
  (L.getD k zFR).l1=ofN (red (X.getD k 0) N).1∧(L.getD k zFR).l2=ofN (red (X.getD k 0) N).2:=by
 have hl:L.length=X.length:=by have:=congrArg List.length hL;simpa using this
 have h:=congrArg (fun l=>l[k]?) hL
 simp only[List.getElem?_map,List.getElem?_eq_getElem hk,List.getElem?_eq_getElem (show k<L.length by omega),Option.map_some]at h
 have h:=Option.some.inj h
 rw[List.getD_eq_getElem?_getD,List.getD_eq_getElem?_getD,List.getElem?_eq_getElem hk,List.getElem?_eq_getElem (show k<L.length by omega)]
 unfold prV at h
 simp only[Prod.mk.injEq]at h
 exact h
theorem getD_le{X:List Nat}{N k:Nat}(h:∀x∈X,x≤N):X.getD k 0≤N:=by
 rw[List.getD_eq_getElem?_getD]
 by_cases hk:k<X.length
 ·rw[List.getElem?_eq_getElem hk];exact h _ (List.getElem_mem hk)
 ·rw[List.getElem?_eq_none (by omega)];exact Nat.zero_le _
theorem bestI_N{L:List FR}{X:List Nat}{N:Nat}(hN:0<N)(hs:Sm N)(hX:∀x∈X,x≤N)(hL:L.map prV=(X.map fun x=>red x N).map fun q=>(ofN q.1,ofN q.2)):∀k,k≤X.length→bestI L k=bestN X k
 | 0,_=>rfl
 | k+1,h=>by
  have ih:=bestI_N hN hs hX hL k (by omega)
  have hb:=bestN_le X k
  rw[bestI,bestN,ih]
  obtain ⟨e1,e2⟩:=plain_get hL (k:=k) (by omega)
  obtain ⟨e3,e4⟩:=plain_get hL (k:=bestN X k) (by omega)
  have h1:=getD_le (k:=k) hX
  have h2:=getD_le (k:=bestN X k) hX
  have hc:(0<cmpF (L.getD k zFR).l1 (L.getD k zFR).l2 (L.getD (bestN X k) zFR).l1 (L.getD (bestN X k) zFR).l2)↔X.getD (bestN X k) 0<X.getD k 0:=by
   rw[e1,e2,e3,e4,cmp_red hN hN (hs.le h1) hs (hs.le h2) hs,cmpN_pos,Nat.mul_lt_mul_right hN]
  by_cases hh:X.getD (bestN X k) 0<X.getD k 0
  ·rw[if_pos (hc.2 hh),if_pos hh]
  ·rw[if_neg (fun h=>hh (hc.1 h)),if_neg hh]
def topX(X:List Nat):Nat:=X.getD (bestN X X.length) 0
def decX(dl:Nat×Nat)(X:List Nat):Bool:=decide ((dl.2-dl.1)*lsum X≤topX X*dl.2)
def nextX(l:List Int)(s:List Nat)(dl:Nat×Nat)(most:Int)(X:List Nat)(n:Nat):Int×Int:=
 if decX dl X then (0,45) else if most≤(n:Int) then (0,47) else ((splitX l X s:Nat),0)
def playX(l:List Int)(s:List Nat)(f g dl:Nat×Nat)(most:Int):List (Int×Bool)→Nat→List Nat→Option (List Nat)
 | [],_,X=>some X
 | (p,b) :: r,n,X=>if nextX l s dl most X n=(p,0) then playX l s f g dl most r (n+1) (afterX l p b f g X s) else none
theorem topX_le{X:List Nat}:topX X≤lsum X:=getD_le fun _ hx=>lsum_mem hx
def startX(l:List Int)(N:List (Nat×Nat)):List Nat:=(setsL l 2).map fun s=>pn (facN s 0 N)
theorem dec_cmp{dl:Nat×Nat}{X:List Nat}{N:Nat}(hN:N=lsum X)(h0:0<N)(hs:Sm N)(hd:OkN dl) :
  decide (0≤cmpF (ofN (red (topX X) N).1) (ofN (red (topX X) N).2) (ofN (dl.2-dl.1)) (ofN dl.2))=decX dl X:=by
 have ho:=hd.oth
 obtain ⟨a1,a2,a3,a4⟩:=ho.sm
 have e:=red_okn ho
 have ht:topX X≤N:=hN▸topX_le
 have hc:=cmp_red (x:=topX X) (d:=N) (y:=dl.2-dl.1) (e:=dl.2) h0 a2 (hs.le ht) hs a3 a4
 rw[e]at hc
 unfold decX
 rw[hc]
 have h1:(0≤cmpN (topX X*dl.2) ((dl.2-dl.1)*N))↔(dl.2-dl.1)*lsum X≤topX X*dl.2:=by rw[cmpN_nn,hN]
 by_cases hh:(dl.2-dl.1)*lsum X≤topX X*dl.2
 ·rw[decide_eq_true hh,decide_eq_true (h1.2 hh)]
 ·rw[decide_eq_false hh,decide_eq_false (fun h=>hh (h1.1 h))]
section
variable {M:Mem}{K:AV→Hp→Mem→Prop}{u v:Value}{x y:Nat}
structure IsZ (M:Mem) (u:Value) (x:Nat):Prop where
 l:IsL M u32V u (ofN x)
 s:Sm x
theorem IsZ.le{M M':Mem}{u:Value}{x:Nat}(h:IsZ M u x)(hM:Mem.le M M'):IsZ M' u x:=⟨h.l.le hM,h.s⟩
theorem IsZ.one{M:Mem}{u:Value}{x:Nat}(h:IsZ M u x):u.oneCell'=true:=h.l.one
theorem Sm.chk{x:Nat}(h:Sm x):chkN (ofN x)=true:=chkN_ofN h.len
theorem Sm.lim{x:Nat}(h:Sm x):limR x=(0,ofN x):=by unfold limR;rw[if_pos h.len]
theorem Sm.big{x:Nat}(h:Sm x):(ofN x).length<1000000:=by have:=h.len;omega
theorem zAdd(hu:IsZ M u x)(hv:IsZ M v y)(h:Sm (x+y))(hK:∀w M',Mem.le M M'→IsZ M' w (x+y)→FreshS M w→K (.ext (.tuple #[w,.int .i64 0])) [] M'):CallS Tryz.prog 172 [.ext u,.ext v] [] M [] K:=
 natAdd_ok hu.l hv.l (okN_ofN _) (okN_ofN _) hu.s.big hv.s.big (by
  unfold addR
  rw[hu.s.chk,hv.s.chk,Bool.and_self,if_pos rfl,valN_ofN,valN_ofN,h.lim]
  exact fun w M' hM g f=>hK w M' hM ⟨g,h⟩ f)
theorem zMul(hu:IsZ M u x)(hv:IsZ M v y)(h:Sm (x*y))(hK:∀w M',Mem.le M M'→IsZ M' w (x*y)→FreshS M w→K (.ext (.tuple #[w,.int .i64 0])) [] M'):CallS Tryz.prog 107 [.ext u,.ext v] [] M [] K:=
 natMul_ok hu.l hv.l (okN_ofN _) (okN_ofN _) hu.s.big hv.s.big (by
  unfold mulR
  rw[hu.s.chk,hv.s.chk,Bool.and_self,if_pos rfl,valN_ofN,valN_ofN,h.lim]
  exact fun w M' hM g f=>hK w M' hM ⟨g,h⟩ f)
theorem zSub(hu:IsZ M u x)(hv:IsZ M v y)(h:y≤x)(hK:∀w M',Mem.le M M'→IsZ M' w (x-y)→FreshS M w→K (.ext (.tuple #[w,.int .i64 0])) [] M'):CallS Tryz.prog 109 [.ext u,.ext v] [] M [] K:=
 natSub_ok hu.l hv.l (okN_ofN _) (okN_ofN _) hu.s.big hv.s.big (by
  unfold subR
  rw[hu.s.chk,hv.s.chk,Bool.and_self,if_pos rfl,valN_ofN,valN_ofN,if_neg (by omega)]
  exact fun w M' hM g f=>hK w M' hM ⟨g,hu.s.le (by omega)⟩ f)
theorem zCmp(hu:IsZ M u x)(hv:IsZ M v y)(hK:K (.ext (.int .i64 (cmpN x y))) [] M):CallS Tryz.prog 108 [.ext u,.ext v] [] M [] K:=
 natCmp_ok hu.l hv.l (okN_ofN _) (okN_ofN _) hu.s.big hv.s.big (by
  unfold cmpR
  rw[hu.s.chk,hv.s.chk,Bool.and_self,if_pos rfl,valN_ofN,valN_ofN]
  exact hK)
theorem zOf(n:Nat)(hn:n≤1000)(hK:∀w M',Mem.le M M'→IsZ M' w n→FreshS M w→K (.ext w) [] M'):CallS Tryz.prog 104 [.ext (.int .u64 (n:Int))] [] M [] K:=
 natOf_ok n (by omega) fun w M' hM g f=>hK w M' hM ⟨g,sm1000 (by omega)⟩ f
end
structure NR where
 v:Value
 n:Nat
def okNL(M:Mem)(E:List NR):Prop:=∀x∈E,IsZ M x.v x.n
theorem okNL.le{M M':Mem}{E:List NR}(h:okNL M E)(hM:Mem.le M M'):okNL M' E:=fun x hx=>(h x hx).le hM
theorem okNL.snoc{M:Mem}{E:List NR}{x:NR}(h:okNL M E)(hx:IsZ M x.v x.n):okNL M (E++[x]):=fun y hy=>by
 rcases List.mem_append.1 hy with hy|hy
 ·exact h y hy
 ·rw[List.mem_singleton.1 hy];exact hx
theorem okNL.all{M:Mem}{E:List NR}(h:okNL M E):allOne (cE NR.v E)=True:=eq_true (by
 unfold cE
 have:∀l:List Value,(∀v∈l,v.oneCell'=true)→allOne (l.map AV.ext):=by
  intro l
  induction l with
  | nil=>intro _;trivial
  | cons a r ih=>intro hl;exact ⟨hl a (List.mem_cons_self ..),ih fun v hv=>hl v (List.mem_cons_of_mem _ hv)⟩
 refine this _ fun v hv=>?_
 obtain ⟨x,hx,rfl⟩:=List.mem_map.1 hv
 exact (h x hx).one)
section
variable {M:Mem}{K:AV→Hp→Mem→Prop}{uw u v:Value}{X:List Nat}{N x y:Nat}
end
theorem addP_addP(v:Value)(i j:Nat):addP (addP v i) j=addP v (i+j):=by
 cases v<;>try rfl
 case pointer a=>
  cases a with
  | none=>rfl
  | some a=>
   show Value.pointer (some ((a.add i).add j))=Value.pointer (some (a.add (i+j)))
   congr 2
   cases a
   simp only[Addr.add]
   by_cases h1:i=0<;>by_cases h2:j=0<;>simp[h1,h2,Nat.add_assoc]
theorem isPt_addP{v:Value}(h:isPt v=true)(i:Nat):isPt (addP v i)=true:=by
 unfold isPt at h
 split at h
 ·rfl
 ·cases h
theorem one_pt{v:Value}(h:isPt v=true):v.oneCell'=true:=by
 unfold isPt at h
 split at h
 ·rfl
 ·cases h
structure BoxS (M:Mem) (p:Value) (most:Int) (us uw up ui su e1 e2:Value):Prop where
 pt:isPt p=true
 ps:isPt (addP p 0)=true
 pe:isPt (addP p 16)=true
 am:lookM Tryz.prog 3 M (addP (addP p 0) 8)=some (.int .i64 most)
 ac:lookM Tryz.prog 22 M (addP p 11)=some us
 aw:lookM Tryz.prog 86 M (addP p 12)=some uw
 ap:lookM Tryz.prog 22 M (addP p 13)=some up
 ai:lookM Tryz.prog 22 M (addP p 14)=some ui
 au:lookM Tryz.prog 30 M (addP p 15)=some su
 a1:lookM Tryz.prog 30 M (addP (addP p 16) 0)=some e1
 a2:lookM Tryz.prog 30 M (addP (addP p 16) 1)=some e2
theorem BoxS.le{M M':Mem}{p:Value}{most:Int}{us uw up ui su e1 e2:Value}(h:BoxS M p most us uw up ui su e1 e2)(hM:Mem.le M M'):BoxS M' p most us uw up ui su e1 e2:=
 ⟨h.pt,h.ps,h.pe,lookM_le hM h.am,lookM_le hM h.ac,lookM_le hM h.aw,lookM_le hM h.ap,lookM_le hM h.ai,lookM_le hM h.au,lookM_le hM h.a1,lookM_le hM h.a2⟩
theorem boxS_of{M:Mem}{U c0 c1 c2 c3 c4 c5 c6 c7 c9 c10 us uw up ui su e1 e2:Value}{most:Int}(h:SlM M 18 U 1 [c0,c1,c2,c3,c4,c5,c6,c7,.int .i64 most,c9,c10,us,uw,up,ui,su,e1,e2]):BoxS M (elemP U 18 0) most us uw up ui su e1 e2:=by
 have pt:=h.pt (i:=0) (by decide)
 exact ⟨pt,isPt_addP pt _,isPt_addP pt _,by rw[addP_addP];exact h.atF tk3 tz3 rfl (by decide),h.atF tk22 tz22 rfl (by decide),h.atF tk86 tz86 rfl (by decide),h.atF tk22 tz22 rfl (by decide),h.atF tk22 tz22 rfl (by decide),h.atF tk30 tz30 rfl (by decide),by rw[addP_addP];exact h.atF tk30 tz30 rfl (by decide),by rw[addP_addP];exact h.atF tk30 tz30 rfl (by decide)⟩
structure IsW (M:Mem) (u:Value) (E:List NR) (X:List Nat):Prop where
 l:IsL M NR.v u E
 o:okNL M E
 x:E.map NR.n=X
theorem IsW.le{M M':Mem}{u:Value}{E:List NR}{X:List Nat}(h:IsW M u E X)(hM:Mem.le M M'):IsW M' u E X:=⟨h.l.le hM,h.o.le hM,h.x⟩
theorem IsW.len{M:Mem}{u:Value}{E:List NR}{X:List Nat}(h:IsW M u E X):E.length=X.length:=by rw[←h.x,List.length_map]
theorem IsW.z{M:Mem}{u:Value}{E:List NR}{X:List Nat}(h:IsW M u E X){k:Nat}(hk:k<E.length):IsZ M (E[k]).v (X.getD k 0):=by
 have h1:=h.o _ (List.getElem_mem hk)
 have h2:X.getD k 0=(E[k]).n:=by
  rw[←h.x,List.getD_eq_getElem?_getD,List.getElem?_map,List.getElem?_eq_getElem hk];rfl
 rw[h2];exact h1
theorem IsW.get{M:Mem}{u:Value}{E:List NR}{X:List Nat}(h:IsW M u E X)(hb:X.length<1000000){k:Nat}(hk:k<X.length) :
  ∃v,IsZ M v (X.getD k 0)∧lookM Tryz.prog 30 M (elemP u 1 k)=some v∧nilS u=false∧isSl u=true∧slen u=X.length∧decide ((k:Int)<(X.length:Int))=true∧(k:Int)<(X.length:Int)∧(0:Int)≤(k:Int)∧IntKind.i64.wrap ((k:Int)+1)=((k+1:Nat):Int):=by
 have hl:=h.len
 have f:=h.l.idx (P:=Tryz.prog) (T:=30) tk30 tz30 (by omega) (i:=k) (by omega)
 have q:=h.z (k:=k) (by omega)
 exact ⟨_,q,f.1,f.2.1,f.2.2.1,by rw[f.2.2.2.1,hl],by rw[decide_eq_true_eq];omega,by omega,by omega,f.2.2.2.2.2.2.2⟩
section
variable {M:Mem}{K:AV→Hp→Mem→Prop}{u v:Value}{x y:Nat}
theorem cMul(hu:IsZ M u x)(hv:IsZ M v y)(h:Sm (x*y))(hK:∀w M',Mem.le M M'→IsZ M' w (x*y)→FreshS M w→K (.ext w) [] M'):CallS Tryz.prog 64 [.ext u,.ext v] [] M [] K:=by
 refine inlS (cs:=[]) Tryz.mixed Tryz.func64 rfl (by kernel_rfl) 0 rfl rfl ?_
 simp only[Tryz.f64]
 have o1:=hu.one
 have o2:=hv.one
 have hf:=A2 o1 o2;refine wS ?_;refine kN 107 (zMul hu hv h (fun w M1 m1 g1 f1=>sG ?_));all_goals clear hf
 have q1:=g1.one
 have hk:=hK w M1 m1 g1 f1
 refine wG (A3 o1 o2 q1) ?_
 exact hk
theorem cAdd(hu:IsZ M u x)(hv:IsZ M v y)(h:Sm (x+y))(hK:∀w M',Mem.le M M'→IsZ M' w (x+y)→FreshS M w→K (.ext w) [] M'):CallS Tryz.prog 141 [.ext u,.ext v] [] M [] K:=by
 refine inlS (cs:=[]) Tryz.mixed Tryz.func141 rfl (by kernel_rfl) 0 rfl rfl ?_
 simp only[Tryz.f141]
 have o1:=hu.one
 have o2:=hv.one
 have hf:=A2 o1 o2;refine wS ?_;refine kN 172 (zAdd hu hv h (fun w M1 m1 g1 f1=>sG ?_));all_goals clear hf
 have q1:=g1.one
 have hk:=hK w M1 m1 g1 f1
 refine wG (A3 o1 o2 q1) ?_
 exact hk
theorem cSub(hu:IsZ M u x)(hv:IsZ M v y)(h:y≤x)(hK:∀w M',Mem.le M M'→IsZ M' w (x-y)→FreshS M w→K (.ext w) [] M'):CallS Tryz.prog 68 [.ext u,.ext v] [] M [] K:=by
 refine inlS (cs:=[]) Tryz.mixed Tryz.func68 rfl (by kernel_rfl) 0 rfl rfl ?_
 simp only[Tryz.f68]
 have o1:=hu.one
 have o2:=hv.one
 have hf:=A2 o1 o2;refine wS ?_;refine kN 109 (zSub hu hv h (fun w M1 m1 g1 f1=>sG ?_));all_goals clear hf
 have q1:=g1.one
 have hk:=hK w M1 m1 g1 f1
 refine wG (A3 o1 o2 q1) ?_
 exact hk
end
section
variable {M:Mem}{K:AV→Hp→Mem→Prop}{p us uw up ui su e1 e2:Value}{most:Int}{s X:List Nat}{E:List NR}{dl:Nat×Nat}
def bestSt(M:Mem)(p:Value)(n i a:Nat):St:={env:=[(10,.ext (.int .i64 (i:Int))),(9,.ext (.int .i64 (n:Int))),(3,.ext (.int .i64 (a:Int))),(2,.ext (.int .i64 0)),(0,.ext p)],hp:=[],M:=M,kb:=0,fx:=[]}
theorem sbest_ok(hB:BoxS M p most us uw up ui su e1 e2)(hs:IsL M natV us s)(hw:IsW M uw E X)(hl:X.length=s.length)(b:s.length<1000000)(h0:0<s.length)
  (hK:K (.ext (.int .i64 ((bestN X X.length:Nat):Int))) [] M):CallS Tryz.prog 67 [.ext p] [] M [] K:=by
 refine inlS (cs:=[]) Tryz.mixed Tryz.func67 rfl (by kernel_rfl) 0 rfl rfl ?_
 simp only[Tryz.f67]
 have pt:=hB.pt
 have po:=one_pt hB.pt
 have ac:=hB.ac
 have aw:=hB.aw
 have s1:=hs.one
 have s2:=hs.sl
 have s3:=hs.len
 have hEl:=hw.len
 have w1:=hw.l.one
 have w2:=hw.l.sl
 refine wT (A6 pt po ac s1 s2 s3) ?_
 refine ⟨fun m z=>∃i,m=s.length-i∧i≤s.length∧z=bestSt M p s.length i (bestN X i),
  ⟨s.length,bestSt M p s.length 0 0,le_sub ⟨rfl,rfl,rfl,rfl,rfl,trivial⟩ trivial rfl rfl rfl (keepLt0 _),⟨0,by omega,by omega,rfl⟩⟩,?_⟩
 rintro m z ⟨i,rfl,hi,rfl⟩
 by_cases hlt:i<s.length
 case neg=>
  obtain rfl:i=s.length:=by omega
  have d1:decide ((s.length:Int)<(s.length:Int))=false:=by simp
  rw[hl]at hK
  refine wT (A4 @bestSt.eq_1 d1 pt po) ?_
  exact hK
 have d1:decide ((i:Int)<(s.length:Int))=true:=by rw[decide_eq_true_eq];omega
 have wk:IntKind.i64.wrap ((i:Int)+1)=((i+1:Nat):Int):=succ_i (by omega)
 have hb:=bestN_le X i
 obtain ⟨v1,q1,f1⟩:=hw.get (by omega) (k:=i) (by omega)
 obtain ⟨v2,q2,f2⟩:=hw.get (by omega) (k:=bestN X i) (by omega)
 have hst:bestN X (i+1)=if X.getD (bestN X i) 0<X.getD i 0 then i else bestN X i:=rfl
 generalize hat:bestN X i=a at *
 have c1:=q1.one
 have c2:=q2.one
 by_cases h:X.getD a 0<X.getD i 0
 ·rw[if_pos h]at hst
  have d2:decide (0<cmpN (X.getD i 0) (X.getD a 0))=true:=decide_eq_true (cmpN_pos.2 h)
  have hf:=A12 @bestSt.eq_1 d1 d2 wk pt po ac aw w1 w2 f1 (A3 f2 c1 c2);refine sF ?_;(repeat' ((first|((with_reducible refine yM ?_);refine kS 108 (zCmp q1 q2 ?_))|((with_reducible refine isE 13 (by decide) ?_);refine dR (rP 0 4 [] ((4,[3]) :: (5,[]) :: (6,[]) :: (rP 7 4 [3,6] [(11,[3,6,10]),(12,[3,6]),(13,[3,6]),(14,[]),(15,[])]))) (rgL 13 14 []) [] ?_)|refine oB ?_|fail)<;>refine sF ?_<;>try with_reducible exact tT))<;>try clear hf
  exact ⟨s.length-(i+1),bestSt M p s.length (i+1) i,by omega,le_sub ⟨rfl,rfl,rfl,rfl,rfl,trivial⟩ trivial rfl rfl rfl (keepLt0 _),i+1,rfl,by omega,by rw[hst];rfl⟩
 ·rw[if_neg h]at hst
  have d2:decide (0<cmpN (X.getD i 0) (X.getD a 0))=false:=decide_eq_false (fun hh=>h (cmpN_pos.1 hh))
  have hf:=A12 @bestSt.eq_1 d1 d2 wk pt po ac aw w1 w2 f1 (A3 f2 c1 c2);refine sF ?_;(repeat' ((first|((with_reducible refine yM ?_);refine kS 108 (zCmp q1 q2 ?_))|((with_reducible refine isE 13 (by decide) ?_);refine dR (rP 0 4 [] ((4,[3]) :: (5,[]) :: (6,[]) :: (rP 7 4 [3,6] [(11,[3,6,10]),(12,[3,6]),(13,[3,6]),(14,[]),(15,[])]))) (rgL 13 14 []) [] ?_)|refine oB ?_|fail)<;>refine sF ?_<;>try with_reducible exact tT))<;>try clear hf
  exact ⟨s.length-(i+1),bestSt M p s.length (i+1) a,by omega,le_sub ⟨rfl,rfl,rfl,rfl,rfl,trivial⟩ trivial rfl rfl rfl (keepLt0 _),i+1,rfl,by omega,by rw[hst];rfl⟩
theorem sdec_ok(hB:BoxS M p most us uw up ui su e1 e2)(hs:IsL M natV us s)(hw:IsW M uw E X)(hl:X.length=s.length)(b:s.length<1000000)(h0:0<s.length)
  (hsu:IsZ M su (lsum X)) (he1:IsZ M e1 (dl.2-dl.1)) (he2:IsZ M e2 dl.2) (hd:dl.2≤1000000) (hS:Sm (lsum X*1000000))
  (hK:∀M',Mem.le M M'→K (.ext (.bool (decX dl X))) [] M'):CallS Tryz.prog 94 [.ext p] [] M [] K:=by
 refine inlS (cs:=[]) Tryz.mixed Tryz.func94 rfl (by kernel_rfl) 0 rfl rfl ?_
 simp only[Tryz.f94]
 have pt:=hB.pt
 have po:=one_pt hB.pt
 have pe:=hB.pe
 have aw:=hB.aw
 have au:=hB.au
 have a1:=hB.a1
 have a2:=hB.a2
 have w1:=hw.l.one
 have w2:=hw.l.sl
 have hEl:=hw.len
 have c1:=hsu.one
 have c2:=he1.one
 have c3:=he2.one
 have hb:=bestN_lt X X.length (by omega)
 obtain ⟨v4,q1,f1⟩:=hw.get (by omega) (k:=bestN X X.length) (by omega)
 have q1:IsZ M v4 (topX X):=q1
 have c4:=q1.one
 have ht:=topX_le (X:=X)
 have hf:=A12 pt po pe aw au a1 a2 w1 w2 f1 c1 (A3 c2 c3 c4);refine sF ?_;(repeat' ((first|((with_reducible refine yM ?_);first|refine kS 67 (sbest_ok hB hs hw hl b h0 ?_)|refine kS 64 (cMul q1 he2 (hS.le (Nat.mul_le_mul ht hd)) (fun v1 M1 m1 g1 _=>Stop.mk ?_)))|((with_reducible refine isE 3 (by decide) ?_);refine dR (rP 0 4 [] ((4,[3]) :: (rP 8 5 [3] (rP 14 4 [3,12] (rP 18 5 [3,12,17] ((5,[3,12,17,22]) :: (6,[12,17,22]) :: (7,[12,17,22]) :: (13,[17,22]) :: (rP 23 4 [] []))))))) (rgL 3 23 []) [] ?_)|refine oB ?_|fail)<;>refine sF ?_<;>try with_reducible exact tT))<;>try clear hf
 have m1:Mem.le M M1:=m1
 have p1:=g1.one
 refine Stop.go ?_
 have hf:=A10 pt po pe w1 w2 c1 c2 c3 c4 p1;refine sF ?_;(repeat' ((first|((with_reducible refine yM ?_);refine kS 64 (cMul (hsu.le m1) (he1.le m1) (hS.le (Nat.mul_le_mul_left _ (by omega))) (fun v2 M2 m2 g2 _=>Stop.mk ?_)))|((with_reducible refine isE 3 (by decide) ?_);refine dR (rP 0 4 [] ((4,[3]) :: (rP 8 5 [3] (rP 14 4 [3,12] (rP 18 5 [3,12,17] ((5,[3,12,17,22]) :: (6,[12,17,22]) :: (7,[12,17,22]) :: (13,[17,22]) :: (rP 23 4 [] []))))))) (rgL 3 23 []) [] ?_)|refine oB ?_|fail)<;>refine sF ?_<;>try with_reducible exact tT))<;>try clear hf
 have m2:Mem.le M1 M2:=m2
 have p2:=g2.one
 have hk:=hK M2 (m1.trans m2)
 have d2:decide (0≤cmpN (topX X*dl.2) (lsum X*(dl.2-dl.1)))=decX dl X:=by
  unfold decX
  congr 1
  rw[cmpN_nn,Nat.mul_comm]
 refine Stop.go ?_
 have hf:=A9 d2 pt po c1 c2 c3 c4 p1 p2;refine sF ?_;(repeat' ((first|((with_reducible refine yM ?_);refine kS 108 (zCmp (g1.le m2) g2 ?_))|((with_reducible refine isE 3 (by decide) ?_);refine dR (rP 0 4 [] ((4,[3]) :: (rP 8 5 [3] (rP 14 4 [3,12] (rP 18 5 [3,12,17] ((5,[3,12,17,22]) :: (6,[12,17,22]) :: (7,[12,17,22]) :: (13,[17,22]) :: (rP 23 4 [] []))))))) (rgL 3 23 []) [] ?_)|refine oB ?_|fail)<;>refine sF ?_<;>try with_reducible exact tT))<;>try clear hf
 exact hk
end
theorem filtX_take(c:Nat→Bool):∀(X s:List Nat) (k:Nat) (h1:k<X.length) (h2:k<s.length),lsum (filtX (X.take (k+1)) (s.take (k+1)) c)=lsum (filtX (X.take k) (s.take k) c)+(if c s[k] then X[k] else 0)
 | x :: r,y :: t,0,_,_=>by simp only[List.take_succ_cons,List.take_zero,filtX,List.getElem_cons_zero];split<;>simp[lsum,filtX]
 | x :: r,y :: t,k+1,h1,h2=>by
  simp only[List.take_succ_cons,filtX,List.getElem_cons_succ]
  have ih:=filtX_take c r t k (by simpa using h1) (by simpa using h2)
  by_cases hc:c y=true
  ·rw[if_pos hc,if_pos hc,lsum,lsum,ih,Nat.add_assoc]
  ·rw[if_neg hc,if_neg hc,ih]
section
variable {M:Mem}{K:AV→Hp→Mem→Prop}{ur us uw:Value}{l:List Int}{s X:List Nat}{b:Nat}
end
theorem lsum_take_le:∀(X:List Nat) (k:Nat),lsum (X.take k)≤lsum X
 | [],k=>by simp
 | x :: r,0=>by simp[lsum]
 | x :: r,k+1=>by
  have:=lsum_take_le r k
  simp only[List.take_succ_cons,lsum]
  omega
theorem filtX_true:∀{X s:List Nat},X.length=s.length→filtX X s (fun _=>true)=X
 | [],_,_=>by simp[filtX]
 | x :: r,[],h=>by simp at h
 | x :: r,y :: t,h=>by
  rw[filtX,if_pos rfl,filtX_true (by simpa using h)]
section
variable {M:Mem}{K:AV→Hp→Mem→Prop}{p us uw up ui su e1 e2:Value}{most:Int}{s X:List Nat}{E:List NR}{dl:Nat×Nat}
theorem sall_ok(x:Value)(hx:x.oneCell'=true)(hp:p.oneCell'=true)(hK:K (.ext (.bool true)) [] M):CallS Tryz.prog 106 [.ext p,.ext x] [] M [] K:=by
 refine inlS (cs:=[]) Tryz.mixed Tryz.func106 rfl (by kernel_rfl) 0 rfl rfl ?_
 simp only[Tryz.f106]
 refine wT (A2 hx hp) ?_
 exact hK
def skH(v:Int):Hp:=[(50,3,[.ext (.int .i64 v)])]
theorem spl1_ok(eff x:Nat)(he:eff<256)(hs:x<256)(hK:K (.ext (.bool (badC eff x))) (skH (eff:Int)) M) :
  CallS Tryz.prog 140 [.ext (.int .i64 (x:Int)),.own 50 0] (skH (eff:Int)) M [] K:=by
 refine inlS (cs:=[]) Tryz.mixed Tryz.func140 rfl (by kernel_rfl) 100 rfl rfl ?_
 simp only[Tryz.f140]
 have ba:=bits_and (a:=eff) (b:=x) (by omega) (by omega)
 unfold badC at hK
 by_cases h:eff &&& x=0
 ·rw[decide_eq_false (by simp[h])]at hK
  have d1:decide (((eff &&& x:Nat):Int)=0)=true:=by rw[h];rfl
  refine wT (A3 @skH.eq_1 ba d1) ?_
  exact hK
 ·rw[decide_eq_true h]at hK
  have d1:decide (((eff &&& x:Nat):Int)=0)=false:=by rw[decide_eq_false_iff_not];omega
  refine wT (A3 @skH.eq_1 ba d1) ?_
  exact hK
def staASt(M:Mem)(p us w:Value)(n i:Nat):St:={env:=[(14,.ext (.int .i64 (i:Int))),(13,.ext (.int .i64 (n:Int))),(12,.ext us),(5,.ext w),(4,.ext (.slice none 0 0)),(1,.bm 106 [.ext p]),(0,.ext p)],hp:=[],M:=M,kb:=0,fx:=[]}
theorem staA_ok(hB:BoxS M p most us uw up ui su e1 e2)(hs:IsL M natV us s)(hw:IsW M uw E X)(hl:X.length=s.length)(b:s.length<1000000)(hS:Sm (lsum X))
  (hK:∀w M',Mem.le M M'→IsZ M' w (totX X s (fun _=>true))→FreshS M w→K (.ext w) ([]) M'):CallS Tryz.prog 105 [.ext p,.bm 106 [.ext p]] ([]) M [] K:=by
 refine inlS (cs:=[]) Tryz.mixed Tryz.func105 rfl (by kernel_rfl) 0 rfl rfl ?_
 simp only[Tryz.f105]
 have pt:=hB.pt
 have ac:=hB.ac
 have s1:=hs.one
 have s2:=hs.sl
 have s3:=hs.len
 have hEl:=hw.len
 have w1:=hw.l.one
 have po:=one_pt hB.pt
 have hf:=A6 pt po ac s1 s2 s3;refine wS ?_;refine kN 104 (zOf 0 (by decide) (fun w M1 m1 g1 fr=>sG ?_));all_goals clear hf
 have m1:Mem.le M M1:=m1
 have p1:=g1.one
 have as1:=(hB.le m1).ac
 refine wG (A7 pt po as1 s1 s2 s3 p1) ?_
 refine ⟨fun m z=>∃M' w i,m=s.length-i∧i≤s.length∧Mem.le M M'∧IsZ M' w (lsum (filtX (X.take i) (s.take i) (fun _=>true)))∧FreshS M w∧z=staASt M' p us w s.length i,
  ⟨s.length,staASt M1 p us w s.length 0,le_sub ⟨rfl,rfl,rfl,rfl,rfl,rfl,rfl,trivial⟩ trivial rfl rfl rfl (keepLt0 _),⟨M1,w,0,by omega,by omega,m1,g1,fr,rfl⟩⟩,?_⟩
 clear p1 g1 fr m1 as1 ac
 rintro m z ⟨M1,w,i,rfl,hi,m1,g1,fr,rfl⟩
 have p1:=g1.one
 by_cases hlt:i<s.length
 case neg=>
  obtain rfl:i=s.length:=by omega
  have d1:decide ((s.length:Int)<(s.length:Int))=false:=by simp
  rw[List.take_length,List.take_of_length_le (by omega)]at g1
  have hk:=hK w M1 m1 g1 fr
  refine wT (A5 @staASt.eq_1 d1 pt po p1) ?_
  exact hk
 have hB1:=hB.le m1
 have aw:=hB1.aw
 have d1:decide ((i:Int)<(s.length:Int))=true:=by rw[decide_eq_true_eq];omega
 have wk:IntKind.i64.wrap ((i:Int)+1)=((i+1:Nat):Int):=succ_i (by omega)
 have f1:=(hs.le m1).idx (P:=Tryz.prog) (T:=3) tk3 tz3 (by omega) hlt
 obtain ⟨v1,q1,f2⟩:=(hw.le m1).get (by omega) (k:=i) (by omega)
 have c1:=q1.one
 have hst:=filtX_take (fun _=>true) X s i (by omega) hlt
 have hgx:X.getD i 0=X[i]:=by rw[List.getD_eq_getElem?_getD,List.getElem?_eq_getElem (by omega)];rfl
 have hle1:=filtX_le (fun _=>true) (X.take (i+1)) (s.take (i+1))
 have hle2:=lsum_take_le X (i+1)
 rw[←hgx]at hst
 rw[if_pos rfl]at hst
 have hf:=A12 @staASt.eq_1 @natV.eq_1 d1 wk f1 f2 pt po aw s1 s2 (A4 s3 w1 p1 c1);refine sF ?_;(repeat' ((first|((with_reducible refine yN ?_);first|refine kS 106 (sall_ok _ (one_int _ _) po ?_)|refine kS 141 (cAdd g1 q1 (hS.le (by omega)) (fun w2 M2 m2 g2 fr2=>Stop.mk ?_)))|refine oB ?_|fail)<;>refine sF ?_<;>try with_reducible exact tT))<;>try clear hf
 have m2:Mem.le M1 M2:=m2
 have p2:=g2.one
 rw[←hst]at g2
 refine wG (A8 wk d1 pt po s1 s2 s3 p2) ?_
 exact ⟨s.length-(i+1),staASt M2 p us w2 s.length (i+1),by omega,le_sub ⟨rfl,rfl,rfl,rfl,rfl,rfl,rfl,trivial⟩ trivial rfl rfl rfl (keepLt0 _),M2,w2,i+1,rfl,by omega,m1.trans m2,g2,fr2.le m1,rfl⟩
def stoBSt(M:Mem)(p us w:Value)(eff:Nat)(n i:Nat):St:={env:=[(14,.ext (.int .i64 (i:Int))),(13,.ext (.int .i64 (n:Int))),(12,.ext us),(5,.ext w),(4,.ext (.slice none 0 0)),(1,.fn 140 [.own 50 0]),(0,.ext p)],hp:=skH (eff:Int),M:=M,kb:=100,fx:=[50]}
theorem stoB_ok(eff:Nat)(he:eff<256)(hxs:∀x∈s,x<256)(hB:BoxS M p most us uw up ui su e1 e2)(hs:IsL M natV us s)(hw:IsW M uw E X)(hl:X.length=s.length)(b:s.length<1000000)(hS:Sm (lsum X))
  (hK:∀w M',Mem.le M M'→IsZ M' w (totX X s (badC eff))→FreshS M w→K (.ext w) (skH (eff:Int)) M'):CallS Tryz.prog 105 [.ext p,.fn 140 [.own 50 0]] (skH (eff:Int)) M [] K:=by
 refine inlS (cs:=[]) Tryz.mixed Tryz.func105 rfl (by kernel_rfl) 100 rfl rfl ?_
 simp only[Tryz.f105]
 have pt:=hB.pt
 have ac:=hB.ac
 have s1:=hs.one
 have s2:=hs.sl
 have s3:=hs.len
 have hEl:=hw.len
 have w1:=hw.l.one
 have po:=one_pt hB.pt
 have e0:keysH (skH (eff:Int))=[50]:=rfl
 have hf:=A7 @skH.eq_1 pt po ac s1 s2 s3;refine wS ?_;refine kN 104 (zOf 0 (by decide) (fun w M1 m1 g1 fr=>sG ?_));all_goals clear hf
 have m1:Mem.le M M1:=m1
 have p1:=g1.one
 have as1:=(hB.le m1).ac
 refine wG (A8 @skH.eq_1 pt po as1 s1 s2 s3 p1) ?_
 refine ⟨fun m z=>∃M' w i,m=s.length-i∧i≤s.length∧Mem.le M M'∧IsZ M' w (lsum (filtX (X.take i) (s.take i) (badC eff)))∧FreshS M w∧z=stoBSt M' p us w eff s.length i,
  ⟨s.length,stoBSt M1 p us w eff s.length 0,le_sub ⟨rfl,rfl,rfl,rfl,rfl,rfl,rfl,trivial⟩ ⟨rfl,trivial⟩ rfl rfl rfl (keepLt_of rfl),⟨M1,w,0,by omega,by omega,m1,g1,fr,rfl⟩⟩,?_⟩
 clear p1 g1 fr m1 as1 ac
 rintro m z ⟨M1,w,i,rfl,hi,m1,g1,fr,rfl⟩
 have p1:=g1.one
 by_cases hlt:i<s.length
 case neg=>
  obtain rfl:i=s.length:=by omega
  have d1:decide ((s.length:Int)<(s.length:Int))=false:=by simp
  rw[List.take_length,List.take_of_length_le (by omega)]at g1
  have hk:=hK w M1 m1 g1 fr
  refine wT (A6 @stoBSt.eq_1 @skH.eq_1 d1 pt po p1) ?_
  exact hk
 have hB1:=hB.le m1
 have aw:=hB1.aw
 have d1:decide ((i:Int)<(s.length:Int))=true:=by rw[decide_eq_true_eq];omega
 have wk:IntKind.i64.wrap ((i:Int)+1)=((i+1:Nat):Int):=succ_i (by omega)
 have f1:=(hs.le m1).idx (P:=Tryz.prog) (T:=3) tk3 tz3 (by omega) hlt
 obtain ⟨v1,q1,f2⟩:=(hw.le m1).get (by omega) (k:=i) (by omega)
 have c1:=q1.one
 have hst:=filtX_take (badC eff) X s i (by omega) hlt
 have hgx:X.getD i 0=X[i]:=by rw[List.getD_eq_getElem?_getD,List.getElem?_eq_getElem (by omega)];rfl
 have hle1:=filtX_le (badC eff) (X.take (i+1)) (s.take (i+1))
 have hle2:=lsum_take_le X (i+1)
 rw[←hgx]at hst
 have hx:=hxs _ (List.getElem_mem hlt)
 generalize s[i]=si at *
 cases hc:badC eff si with
 | true=>
  rw[hc,if_pos rfl]at hst
  have hf:=A12 @stoBSt.eq_1 @skH.eq_1 hc @natV.eq_1 d1 wk f1 f2 pt po aw (A6 s1 s2 s3 w1 p1 c1);refine sF ?_;(repeat' ((first|((with_reducible first|refine yA ?_|refine yC ?_);first|refine kH 140 ?_|refine kS 140 (spl1_ok eff _ he hx ?_))|((with_reducible refine yN ?_);refine kS 141 (cAdd g1 q1 (hS.le (by omega)) (fun w2 M2 m2 g2 fr2=>Stop.mk ?_)))|refine oB ?_|fail)<;>refine sF ?_<;>try with_reducible exact tT))<;>try clear hf
  have m2:Mem.le M1 M2:=m2
  have p2:=g2.one
  rw[←hst]at g2
  refine wG (A10 @skH.eq_1 hc wk d1 pt po s1 s2 s3 p2) ?_
  exact ⟨s.length-(i+1),stoBSt M2 p us w2 eff s.length (i+1),by omega,le_sub ⟨rfl,rfl,rfl,rfl,rfl,rfl,rfl,trivial⟩ ⟨rfl,trivial⟩ rfl rfl rfl (keepLt_of rfl),M2,w2,i+1,rfl,by omega,m1.trans m2,g2,fr2.le m1,rfl⟩
 | false=>
  rw[hc,if_neg (by decide)]at hst
  have hst:=hst.trans (Nat.add_zero _)
  rw[←hst]at g1
  have hf:=A12 @stoBSt.eq_1 @skH.eq_1 hc @natV.eq_1 d1 wk f1 pt po s1 s2 (A2 s3 p1);refine sF ?_;(repeat' ((first|((with_reducible first|refine yA ?_|refine yC ?_);first|refine kH 140 ?_|refine kS 140 (spl1_ok eff _ he hx ?_))|refine oB ?_|fail)<;>refine sF ?_<;>try with_reducible exact tT))<;>try clear hf
  exact ⟨s.length-(i+1),stoBSt M1 p us w eff s.length (i+1),by omega,le_sub ⟨rfl,rfl,rfl,rfl,rfl,rfl,rfl,trivial⟩ ⟨rfl,trivial⟩ rfl rfl rfl (keepLt_of rfl),M1,w,i+1,rfl,by omega,m1,g1,fr,rfl⟩
end
def pickI(f:Nat→Nat)(P:List Nat):Nat→Nat
 | 0=>0
 | i+1=>if i=0∨f (P.getD i 0)<f (P.getD (pickI f P i) 0) then i else pickI f P i
theorem pickI_le(f:Nat→Nat)(P:List Nat):∀k,pickI f P k≤k
 | 0=>Nat.le_refl _
 | k+1=>by
  rw[pickI]
  have:=pickI_le f P k
  split<;>omega
theorem pickI_lt(f:Nat→Nat)(P:List Nat):∀k,0<k→pickI f P k<k
 | k+1,_=>by
  rw[pickI]
  have:=pickI_le f P k
  split
  ·omega
  ·rename_i h
   have:=pickI_lt f P k (by omega)
   omega
def minS(f:Nat→Nat):List Nat→Nat→Nat
 | [],b=>b
 | p :: r,b=>if f p<b then minS f r (f p) else minS f r b
theorem pickS_snoc(f:Nat→Nat)(p:Nat):∀(L:List Nat) (s b:Nat),pickS f (L++[p]) s b=if f p<minS f L b then p else pickS f L s b
 | [],s,b=>by by_cases h:f p<b<;>simp[pickS,minS,h]
 | q :: r,s,b=>by
  rw[List.cons_append,pickS,pickS,minS]
  by_cases h:f q<b
  ·rw[if_pos h,if_pos h,if_pos h,pickS_snoc f p r]
  ·rw[if_neg h,if_neg h,if_neg h,pickS_snoc f p r]
theorem minS_snoc(f:Nat→Nat)(p:Nat):∀(L:List Nat) (b:Nat),minS f (L++[p]) b=if f p<minS f L b then f p else minS f L b
 | [],b=>by by_cases h:f p<b<;>simp[minS,h]
 | q :: r,b=>by
  rw[List.cons_append,minS,minS]
  by_cases h:f q<b
  ·rw[if_pos h,if_pos h,minS_snoc f p r]
  ·rw[if_neg h,if_neg h,minS_snoc f p r]
theorem pickI_S(f:Nat→Nat){P:List Nat}{s b:Nat}(h0:f (P.getD 0 0)<b):∀k,k+1≤P.length→pickS f (P.take (k+1)) s b=P.getD (pickI f P (k+1)) 0∧minS f (P.take (k+1)) b=f (P.getD (pickI f P (k+1)) 0)
 | 0,h=>by
  have e:P.take (0+1)=[]++[P.getD 0 0]:=by
   cases P with
   | nil=>simp at h
   | cons p r=>rfl
  rw[e,pickS_snoc,minS_snoc,minS,if_pos h0,if_pos h0,pickI,if_pos (.inl rfl)]
  exact ⟨rfl,rfl⟩
 | k+1,h=>by
  obtain ⟨i1,i2⟩:=pickI_S f h0 k (by omega)
  have e:P.take (k+1+1)=P.take (k+1)++[P.getD (k+1) 0]:=by
   rw[List.take_add_one,List.getD_eq_getElem?_getD,List.getElem?_eq_getElem (by omega)]
   rfl
  have e2:pickI f P (k+1+1)=if k+1=0∨f (P.getD (k+1) 0)<f (P.getD (pickI f P (k+1)) 0) then k+1 else pickI f P (k+1):=rfl
  rw[e,pickS_snoc,minS_snoc,i1,i2,e2]
  by_cases hh:f (P.getD (k+1) 0)<f (P.getD (pickI f P (k+1)) 0)
  ·rw[if_pos hh,if_pos hh,if_pos (.inr hh)]
   exact ⟨rfl,rfl⟩
  ·rw[if_neg hh,if_neg hh,if_neg (fun h=>h.elim (fun h=>by omega) hh)]
   exact ⟨rfl,rfl⟩
theorem pickI_all(f:Nat→Nat){P:List Nat}{s b:Nat}(h0:f (P.getD 0 0)<b)(h:0<P.length):P.getD (pickI f P P.length) 0=pickS f P s b:=by
 have:=(pickI_S (s:=s) f h0 (P.length-1) (by omega)).1
 rw[show P.length-1+1=P.length by omega,List.take_length]at this
 exact this.symm
theorem dX_lt{R N:Nat}(h:R≤N)(h0:0<N):dX R N<2*N:=by unfold dX;omega
section
variable {M:Mem}{K:AV→Hp→Mem→Prop}{p us uw up ui su e1 e2:Value}{most:Int}{s X P:List Nat}{E:List NR}{e:Nat→Nat}
def farX(e:Nat→Nat)(X s:List Nat)(q:Nat):Nat:=dX (totX X s (badC (e q))) (lsum X)
def leaV(e:Nat→Nat)(X s P:List Nat)(i:Nat):Nat:=if i=0 then 0 else farX e X s (P.getD (pickI (farX e X s) P i) 0)
def splSt(M:Mem)(p ui w:Value)(n i a:Nat):St:={env:=[(14,.ext (.int .i64 (i:Int))),(13,.ext (.int .i64 (n:Int))),(12,.ext ui),(4,.ext (.int .i64 (a:Int))),(3,.ext w),(2,.ext (.int .i64 0)),(0,.ext p)],hp:=[],M:=M,kb:=44,fx:=[]}
theorem ssplit_ok(hB:BoxS M p most us uw up ui su e1 e2)(hs:IsL M natV us s)(hw:IsW M uw E X)(hl:X.length=s.length)(b:s.length<1000000)(hS:Sm (lsum X*1000000))(hxs:∀x∈s,x<256)(hp:IsL M natV up P)(hi:IsL M natV ui (P.map e))(he:∀q,e q<256)(hP0:0<P.length)(hPb:P.length<1000000)(hsu:IsZ M su (lsum X))(h0:0<lsum X)
  (hK:∀M',Mem.le M M'→K (.ext (.int .i64 ((pickS (farX e X s) P 0 (2*lsum X):Nat):Int))) [] M'):CallS Tryz.prog 95 [.ext p] [] M [] K:=by
 refine inlS (cs:=[]) Tryz.mixed Tryz.func95 rfl (by kernel_rfl) 44 rfl rfl ?_
 simp only[Tryz.f95]
 have pt:=hB.pt
 have po:=one_pt hB.pt
 have ai:=hB.ai
 have s1:=hi.one
 have s2:=hi.sl
 have s3:=hi.len
 rw[List.length_map]at s3
 have hz0:IsZ M (.slice none 0 0) (leaV e X s P 0):=by
  rw[show leaV e X s P 0=0 from if_pos rfl]
  exact ⟨by rw[ofN_zero];exact isL_nil _ _ _,sm1000 (by decide)⟩
 refine wT (A6 pt po ai s1 s2 s3) ?_
 refine ⟨fun m z=>∃M' w i,m=P.length-i∧i≤P.length∧Mem.le M M'∧IsZ M' w (leaV e X s P i)∧z=splSt M' p ui w P.length i (pickI (farX e X s) P i),
  ⟨P.length,splSt M p ui (.slice none 0 0) P.length 0 0,le_sub ⟨rfl,rfl,rfl,rfl,rfl,rfl,rfl,trivial⟩ trivial rfl rfl rfl (keepLt_of rfl),⟨M,.slice none 0 0,0,by omega,by omega,Mem.le.refl _,hz0,rfl⟩⟩,?_⟩
 rintro m z ⟨M0,w,i,rfl,hi',m0,g0,rfl⟩
 have p0:=g0.one
 have hB0:=hB.le m0
 by_cases hlt:i<P.length
 case neg=>
  obtain rfl:i=P.length:=by omega
  have d1:decide ((P.length:Int)<(P.length:Int))=false:=by simp
  have ap:=hB0.ap
  have hlt:=pickI_lt (farX e X s) P P.length hP0
  have f1:=(hp.le m0).idx (P:=Tryz.prog) (T:=3) tk3 tz3 (by omega) hlt
  have hr:=pickI_all (farX e X s) (s:=0) (dX_lt (filtX_le _ _ _) h0) hP0
  rw[←hr]at hK
  have hgx:P.getD (pickI (farX e X s) P P.length) 0=P[pickI (farX e X s) P P.length]:=by rw[List.getD_eq_getElem?_getD,List.getElem?_eq_getElem hlt];rfl
  rw[hgx]at hK
  have hk:=hK M0 m0
  have u1:=hp.one
  have u2:=hp.sl
  generalize P[pickI (farX e X s) P P.length]=r at *
  generalize pickI (farX e X s) P P.length=a at *
  refine wT (A10 @splSt.eq_1 @natV.eq_1 d1 pt po p0 ap u1 u2 f1) ?_
  exact hk
 have au:=hB0.au
 have d1:decide ((i:Int)<(P.length:Int))=true:=by rw[decide_eq_true_eq];omega
 have wk:IntKind.i64.wrap ((i:Int)+1)=((i+1:Nat):Int):=succ_i (by omega)
 have f1:=(hi.le m0).idx (P:=Tryz.prog) (T:=3) tk3 tz3 (by rw[List.length_map];omega) (i:=i) (by rw[List.length_map];exact hlt)
 simp only[List.getElem_map,List.length_map]at f1
 have hst:pickI (farX e X s) P (i+1)=if i=0∨farX e X s (P.getD i 0)<farX e X s (P.getD (pickI (farX e X s) P i) 0) then i else pickI (farX e X s) P i:=rfl
 have hgx:P.getD i 0=P[i]:=by rw[List.getD_eq_getElem?_getD,List.getElem?_eq_getElem hlt];rfl
 have hlv:leaV e X s P (i+1)=farX e X s (P.getD (pickI (farX e X s) P (i+1)) 0):=if_neg (by omega)
 rw[hst]at hlv
 rw[hgx]at hst hlv
 have hq:=he P[i]
 have hfr:farX e X s P[i]=dX (totX X s (badC (e P[i]))) (lsum X):=rfl
 have hle:=filtX_le (badC (e P[i])) X s
 have hle:totX X s (badC (e P[i]))≤lsum X:=hle
 have c1:=hsu.one
 have hf:=A10 @splSt.eq_1 @natV.eq_1 d1 pt po p0 s1 s2 s3 f1;refine wS ?_;refine yH 105 ?_;refine sF ?_;refine stoB_ok _ hq hxs hB0 (hs.le m0) (hw.le m0) hl b (hS.le (by omega)) (fun w1 M1 m1 g1 _=>sG ?_);all_goals clear hf
 have m1:Mem.le M0 M1:=m1
 have p1:=g1.one
 generalize totX X s (badC (e P[i]))=R at *
 have hf:=A9 @skH.eq_1 d1 pt po p0 p1 s1 s2 s3;refine wH ?_;refine kN 141 (cAdd g1 g1 (hS.le (by omega)) (fun w2 M2 m2 g2 _=>sG ?_));all_goals clear hf
 have m2:Mem.le M1 M2:=m2
 have p2:=g2.one
 have m02:=m0.trans (m1.trans m2)
 have hB2:=hB.le m02
 have au2:=hB2.au
 have hsu2:=hsu.le m02
 refine Stop.go ?_
 by_cases hge:lsum X≤R+R
 ·have d2:decide (0≤cmpN (R+R) (lsum X))=true:=decide_eq_true (cmpN_nn.2 hge)
  have hf:=A11 d1 d2 pt po p0 p2 c1 au2 s1 s2 s3;refine sF ?_;(repeat' ((first|((with_reducible refine yN ?_);first|refine kS 108 (zCmp g2 hsu2 ?_)|refine kS 68 (cSub g2 hsu2 hge (fun w3 M3 m3 g3 _=>Stop.mk ?_)))|refine oB ?_|fail)<;>refine sF ?_<;>try with_reducible exact tT))<;>try clear hf
  have m3:Mem.le M2 M3:=m3
  have p3:=g3.one
  have m03:=m02.trans m3
  have g3:IsZ M3 w3 (farX e X s P[i]):=by rw[hfr,show dX R (lsum X)=_ from (show dX R (lsum X)=R+R-lsum X by unfold dX;omega)];exact g3
  have g4:=g0.le (m1.trans (m2.trans m3))
  refine Stop.go ?_
  by_cases hz:i=0
  ·have z3:decide ((i:Int)=0)=true:=decide_eq_true (by omega)
   rw[if_pos (.inl hz)]at hst hlv
   rw[hgx]at hlv
   rw[←hlv]at g3
   refine wT (A10 wk d1 z3 pt po p0 p3 s1 s2 s3) ?_
   exact ⟨P.length-(i+1),splSt M3 p ui w3 P.length (i+1) i,by omega,le_sub ⟨rfl,rfl,rfl,rfl,rfl,rfl,rfl,trivial⟩ trivial rfl rfl rfl (keepLt_of rfl),M3,w3,i+1,rfl,by omega,m03,g3,by rw[hst]⟩
  ·have z3:decide ((i:Int)=0)=false:=decide_eq_false (by omega)
   have g5:IsZ M3 w (farX e X s (P.getD (pickI (farX e X s) P i) 0)):=by rw[show leaV e X s P i=_ from if_neg hz]at g4;exact g4
   by_cases hc:farX e X s P[i]<farX e X s (P.getD (pickI (farX e X s) P i) 0)
   ·rw[if_pos (.inr hc)]at hst hlv
    rw[hgx]at hlv
    have z4:decide (cmpN (farX e X s P[i]) (farX e X s (P.getD (pickI (farX e X s) P i) 0))<0)=true:=by rw[cmpN_lt hc];rfl
    have hf:=A11 wk d1 z3 z4 pt po p0 p3 s1 s2 s3;refine sF ?_;(repeat' ((first|((with_reducible refine yN ?_);refine kS 108 (zCmp g3 g5 ?_))|refine oB ?_|fail)<;>refine sF ?_<;>try with_reducible exact tT))<;>try clear hf
    rw[←hlv]at g3
    exact ⟨P.length-(i+1),splSt M3 p ui w3 P.length (i+1) i,by omega,le_sub ⟨rfl,rfl,rfl,rfl,rfl,rfl,rfl,trivial⟩ trivial rfl rfl rfl (keepLt_of rfl),M3,w3,i+1,rfl,by omega,m03,g3,by rw[hst]⟩
   ·rw[if_neg (fun h=>h.elim hz hc)]at hst hlv
    have z4:decide (cmpN (farX e X s P[i]) (farX e X s (P.getD (pickI (farX e X s) P i) 0))<0)=false:=decide_eq_false (by have:=cmpN_nn.2 (Nat.le_of_not_lt hc);omega)
    have hf:=A11 wk d1 z3 z4 pt po p0 p3 s1 s2 s3;refine sF ?_;(repeat' ((first|((with_reducible refine yN ?_);refine kS 108 (zCmp g3 g5 ?_))|refine oB ?_|fail)<;>refine sF ?_<;>try with_reducible exact tT))<;>try clear hf
    rw[←hlv]at g5
    exact ⟨P.length-(i+1),splSt M3 p ui w P.length (i+1) (pickI (farX e X s) P i),by omega,le_sub ⟨rfl,rfl,rfl,rfl,rfl,rfl,rfl,trivial⟩ trivial rfl rfl rfl (keepLt_of rfl),M3,w,i+1,rfl,by omega,m03,g5,by rw[hst]⟩
 ·have d2:decide (0≤cmpN (R+R) (lsum X))=false:=decide_eq_false (fun h=>hge (cmpN_nn.1 h))
  have hf:=A11 d1 d2 pt po p0 p2 c1 au2 s1 s2 s3;refine sF ?_;(repeat' ((first|((with_reducible refine yN ?_);first|refine kS 108 (zCmp g2 hsu2 ?_)|refine kS 68 (cSub hsu2 g2 (by omega) (fun w3 M3 m3 g3 _=>Stop.mk ?_)))|refine oB ?_|fail)<;>refine sF ?_<;>try with_reducible exact tT))<;>try clear hf
  have m3:Mem.le M2 M3:=m3
  have p3:=g3.one
  have m03:=m02.trans m3
  have g3:IsZ M3 w3 (farX e X s P[i]):=by rw[hfr,show dX R (lsum X)=_ from (show dX R (lsum X)=lsum X-(R+R) by unfold dX;omega)];exact g3
  have g4:=g0.le (m1.trans (m2.trans m3))
  refine Stop.go ?_
  by_cases hz:i=0
  ·have z3:decide ((i:Int)=0)=true:=decide_eq_true (by omega)
   rw[if_pos (.inl hz)]at hst hlv
   rw[hgx]at hlv
   rw[←hlv]at g3
   refine wT (A10 wk d1 z3 pt po p0 p3 s1 s2 s3) ?_
   exact ⟨P.length-(i+1),splSt M3 p ui w3 P.length (i+1) i,by omega,le_sub ⟨rfl,rfl,rfl,rfl,rfl,rfl,rfl,trivial⟩ trivial rfl rfl rfl (keepLt_of rfl),M3,w3,i+1,rfl,by omega,m03,g3,by rw[hst]⟩
  ·have z3:decide ((i:Int)=0)=false:=decide_eq_false (by omega)
   have g5:IsZ M3 w (farX e X s (P.getD (pickI (farX e X s) P i) 0)):=by rw[show leaV e X s P i=_ from if_neg hz]at g4;exact g4
   by_cases hc:farX e X s P[i]<farX e X s (P.getD (pickI (farX e X s) P i) 0)
   ·rw[if_pos (.inr hc)]at hst hlv
    rw[hgx]at hlv
    have z4:decide (cmpN (farX e X s P[i]) (farX e X s (P.getD (pickI (farX e X s) P i) 0))<0)=true:=by rw[cmpN_lt hc];rfl
    have hf:=A11 wk d1 z3 z4 pt po p0 p3 s1 s2 s3;refine sF ?_;(repeat' ((first|((with_reducible refine yN ?_);refine kS 108 (zCmp g3 g5 ?_))|refine oB ?_|fail)<;>refine sF ?_<;>try with_reducible exact tT))<;>try clear hf
    rw[←hlv]at g3
    exact ⟨P.length-(i+1),splSt M3 p ui w3 P.length (i+1) i,by omega,le_sub ⟨rfl,rfl,rfl,rfl,rfl,rfl,rfl,trivial⟩ trivial rfl rfl rfl (keepLt_of rfl),M3,w3,i+1,rfl,by omega,m03,g3,by rw[hst]⟩
   ·rw[if_neg (fun h=>h.elim hz hc)]at hst hlv
    have z4:decide (cmpN (farX e X s P[i]) (farX e X s (P.getD (pickI (farX e X s) P i) 0))<0)=false:=decide_eq_false (by have:=cmpN_nn.2 (Nat.le_of_not_lt hc);omega)
    have hf:=A11 wk d1 z3 z4 pt po p0 p3 s1 s2 s3;refine sF ?_;(repeat' ((first|((with_reducible refine yN ?_);refine kS 108 (zCmp g3 g5 ?_))|refine oB ?_|fail)<;>refine sF ?_<;>try with_reducible exact tT))<;>try clear hf
    rw[←hlv]at g5
    exact ⟨P.length-(i+1),splSt M3 p ui w P.length (i+1) (pickI (farX e X s) P i),by omega,le_sub ⟨rfl,rfl,rfl,rfl,rfl,rfl,rfl,trivial⟩ trivial rfl rfl rfl (keepLt_of rfl),M3,w,i+1,rfl,by omega,m03,g5,by rw[hst]⟩
end
structure ScV where
 us:Value
 uw:Value
 up:Value
 ui:Value
 su:Value
 e1:Value
 e2:Value
 E:List NR
structure ScI (M:Mem) (w:ScV) (l:List Int) (s:List Nat) (dl:Nat×Nat) (X:List Nat):Prop where
 hs:IsL M natV w.us s
 hw:IsW M w.uw w.E X
 hl:X.length=s.length
 sb:s.length<1000000
 s0:0<s.length
 sx:∀x∈s,x<256
 hp:IsL M natV w.up (ivN l.length)
 hi:IsL M natV w.ui ((ivN l.length).map (effN l))
 su:IsZ M w.su (lsum X)
 e1:IsZ M w.e1 (dl.2-dl.1)
 e2:IsZ M w.e2 dl.2
 cl:chkL l=true
 d:dl.2≤1000000
 x0:0<lsum X
 xs:Sm (lsum X*1000000)
theorem ScI.le{M M':Mem}{w:ScV}{l:List Int}{s X:List Nat}{dl:Nat×Nat}(h:ScI M w l s dl X)(hM:Mem.le M M'):ScI M' w l s dl X:=
 ⟨h.hs.le hM,h.hw.le hM,h.hl,h.sb,h.s0,h.sx,h.hp.le hM,h.hi.le hM,h.su.le hM,h.e1.le hM,h.e2.le hM,h.cl,h.d,h.x0,h.xs⟩
theorem iv_pos{n:Nat}(h1:1≤n)(h2:n≤8):0<(ivN n).length:=by
 have:∀k,k<9→1≤k→0<(ivN k).length:=by decide +kernel
 exact this n (by omega) h1
theorem makF_red{x d:Nat}(h0:0<d)(hx:Sm x)(hd:Sm d):makF (ofN x) (ofN d)=(0,(red x d).1,(red x d).2):=by
 unfold makF
 rw[hx.chk,hd.chk,Bool.and_self,if_pos rfl,valN_ofN,valN_ofN,if_neg (by omega),exF_is hx.len hd.len]
 rfl
def BoxW(M:Mem)(p:Value)(most:Int)(w:ScV):Prop:=BoxS M p most w.us w.uw w.up w.ui w.su w.e1 w.e2
section
variable {M:Mem}{K:AV→Hp→Mem→Prop}{p:Value}{w:ScV}{most:Int}{l:List Int}{s X:List Nat}{dl:Nat×Nat}
theorem snext_ok(n:Nat)(hB:BoxW M p most w)(h:ScI M w l s dl X)(hn:n<1000000)
  (hK:∀M',Mem.le M M'→K (.ext (.tuple #[.int .i64 (nextX l s dl most X n).1,.int .i64 (nextX l s dl most X n).2])) [] M') :
  CallS Tryz.prog 52 [.ext p,.ext (.int .i64 (n:Int))] [] M [] K:=by
 refine inlS (cs:=[]) Tryz.mixed Tryz.func52 rfl (by kernel_rfl) 0 rfl rfl ?_
 simp only[Tryz.f52]
 have hB:BoxS M p most w.us w.uw w.up w.ui w.su w.e1 w.e2:=hB
 have pt:=hB.pt
 have po:=one_pt hB.pt
 have hf:=A2 pt po;refine wS ?_;refine kN 94 (sdec_ok hB h.hs h.hw h.hl h.sb h.s0 h.su h.e1 h.e2 h.d h.xs (fun M1 m1=>sG ?_));all_goals clear hf
 have m1:Mem.le M M1:=m1
 unfold nextX at hK
 cases hd:decX dl X with
 | true=>
  rw[if_pos hd]at hK
  have hk:=hK M1 m1
  refine wG (A3 pt po @hd) ?_
  exact hk
 | false=>
 rw[if_neg (by rw[hd];decide)]at hK
 have hB1:=hB.le m1
 have ps:=hB1.ps
 have am:=hB1.am
 by_cases hm:most≤(n:Int)
 ·rw[if_pos hm]at hK
  have hk:=hK M1 m1
  have d1:decide (most≤(n:Int))=true:=decide_eq_true hm
  refine wG (A6 pt po ps am @hd d1) ?_
  exact hk
 ·rw[if_neg hm]at hK
  have d1:decide (most≤(n:Int))=false:=decide_eq_false hm
  have h1:=h.le m1
  have hcl:=chk_len h.cl
  have hP:0<(ivN l.length).length:=iv_pos hcl.1 hcl.2
  have hPb:(ivN l.length).length<1000000:=Nat.lt_of_le_of_lt (iv_len hcl.2) (by decide)
  have hf:=A6 pt po ps am @hd d1;refine wH ?_;refine kN 95 (ssplit_ok hB1 h1.hs h1.hw h1.hl h1.sb h1.xs h1.sx h1.hp h1.hi (fun q=>effN_lt h1.cl) hP hPb h1.su h1.x0 (fun M2 m2=>sG ?_));all_goals clear hf
  have hk:=hK M2 (m1.trans m2)
  refine wG (A2 pt po) ?_
  exact hk
theorem sfind_ok(hB:BoxW M p most w)(h:ScI M w l s dl X)
  (hK:∀w1 w2 M',Mem.le M M'→IsL M' u32V w1 (ofN (red (topX X) (lsum X)).1)→IsL M' u32V w2 (ofN (red (topX X) (lsum X)).2)→FreshS M w1→FreshS M w2→K (.ext (.agg #[.bool (decX dl X),.int .i64 ((s.getD (bestN X X.length) 0:Nat):Int),w1,w2])) [] M') :
  CallS Tryz.prog 54 [.ext p] [] M [] K:=by
 refine inlS (cs:=[]) Tryz.mixed Tryz.func54 rfl (by kernel_rfl) 0 rfl rfl ?_
 simp only[Tryz.f54]
 have hB:BoxS M p most w.us w.uw w.up w.ui w.su w.e1 w.e2:=hB
 have pt:=hB.pt
 have po:=one_pt hB.pt
 have aw:=hB.aw
 have au:=hB.au
 have w1:=h.hw.l.one
 have w2:=h.hw.l.sl
 have c1:=h.su.one
 have s0:=h.s0
 have hl:=h.hl
 have sb:=h.sb
 have hb:=bestN_lt X X.length (by omega)
 obtain ⟨v4,q1,f1⟩:=h.hw.get (by omega) (k:=bestN X X.length) (by omega)
 have q1:IsZ M v4 (topX X):=q1
 have c4:=q1.one
 have hmk:=makF_red h.x0 q1.s h.su.s
 have hf:=A9 pt po aw au w1 w2 f1 c1 c4;refine sF ?_;(repeat' ((first|((with_reducible first|refine yN ?_|refine yM ?_);first|refine kS 67 (sbest_ok hB h.hs h.hw h.hl h.sb h.s0 ?_)|refine kS 51 (fmake_ok q1.l h.su.l (okN_ofN _) (okN_ofN _) q1.s.big h.su.s.big (fun v1 v2 M1 m1 g1 g2 fr1 fr2=>Stop.mk ?_)))|((with_reducible refine isE 9 (by decide) ?_);refine dR (rP 0 4 [] ((4,[3]) :: (5,[]) :: (6,[]) :: (rP 7 4 [3,6] ((15,[3,6,10]) :: (rP 11 4 [] [(16,[]),(17,[])]))))) (4 :: (rgL 8 15 [])) [] ?_)|refine oB ?_|fail)<;>refine sF ?_<;>try with_reducible exact tT))<;>try clear hf
 have m1:Mem.le M M1:=m1
 rw[hmk]at g1 g2
 have p1:=g1.one
 have p2:=g2.one
 have hB1:=hB.le m1
 have h1:=h.le m1
 have ac:=hB1.ac
 have s1:=h1.hs.one
 have s2:=h1.hs.sl
 have hbs:bestN X X.length<s.length:=by omega
 have f2:=h1.hs.idx (P:=Tryz.prog) (T:=3) tk3 tz3 (by omega) hbs
 rw[List.getD_eq_getElem?_getD,List.getElem?_eq_getElem hbs,Option.getD_some]at hK
 generalize s[bestN X X.length]=sb' at *
 generalize bestN X X.length=at' at *
 refine Stop.go ?_
 have hf:=A11 @natV.eq_1 pt po ac s1 s2 f2 c1 c4 p1 p2;refine sF ?_;(repeat' ((first|((with_reducible refine yM ?_);refine kS 94 (sdec_ok hB1 h1.hs h1.hw h1.hl h1.sb h1.s0 h1.su h1.e1 h1.e2 h1.d h1.xs (fun M2 m2=>Stop.mk ?_)))|((with_reducible refine isE 23 (by decide) ?_);refine dR ((0,[]) :: (rP 2 4 [] [(6,[5]),(7,[]),(8,[]),(9,[5,8]),(1,[5,8,9]),(10,[]),(11,[])])) (rgL 23 10 []) [] ?_)|refine oB ?_|fail)<;>refine sF ?_<;>try with_reducible exact tT))<;>try clear hf
 have m2:Mem.le M1 M2:=m2
 have hk:=hK v1 v2 M2 (m1.trans m2) (g1.le m2) (g2.le m2) fr1 fr2
 refine Stop.go ?_
 have hf:=A10 @natV.eq_1 pt po s1 s2 f2 c1 c4 p1 p2;refine sF ?_;(repeat' ((first|((with_reducible refine isE 23 (by decide) ?_);refine dR ((0,[]) :: (rP 2 4 [] [(6,[5]),(7,[]),(8,[]),(9,[5,8]),(1,[5,8,9]),(10,[]),(11,[])])) (rgL 23 10 []) [] ?_)|refine oB ?_|fail)<;>refine sF ?_<;>try with_reducible exact tT))<;>try clear hf
 exact hk
end
theorem map_ext_is{ρ:Rho}:∀{l us:List Value},isL ρ (l.map .ext) us→us=l
 | [],us,h=>h
 | v :: l,us,h=>by
  obtain ⟨u,r,rfl,h1,h2⟩:=h
  rw[show u=v from h1,map_ext_is h2]
theorem map_ext_isL{ρ:Rho}:∀l:List Value,isL ρ (l.map .ext) l
 | []=>rfl
 | v :: l=>⟨v,l,rfl,rfl,map_ext_isL l⟩
theorem CallS.borBoxG{P:Program}{f:FuncId}{k:Nat}{T:TypeId}{cs:List Value}{rest:List AV}{rest':Value→List AV}{M:Mem}{K:AV→Hp→Mem→Prop}(hm:∀j∈mentL rest,j=k)
  (hr:∀ρ p us,ρ k=some p→isL ρ rest us→∀ρ',isL ρ' (rest' (ptr p.b 0)) us)
  (h:∀U M',Mem.le M M'→SlM M' cs.length U 1 cs→CallS P f (.ext (elemP U cs.length 0) :: rest' (elemP U cs.length 0)) [] M' [] (BorK [(k,T,cs.map .ext)] M M' K)) :
  CallS P f (.own k 0 :: rest) [(k,T,cs.map .ext)] M [] K:=by
 have hlk:lkH [(k,T,cs.map AV.ext)] k=some (T,cs.map .ext):=by simp[lkH]
 refine CallS.bor3 (fun k' T' cs' j hk hj=>?_) (fun j hj=>?_) fun us M' ρ w hM hh he=>?_
 ·simp only[lkH]at hk
  split at hk
  ·cases hk;rw[mentL_ext]at hj;cases hj
  ·cases hk
 ·have:j=k:=by
   simp only[mentL,AV.ment,List.mem_append,List.mem_singleton]at hj
   rcases hj with hj|hj
   ·exact hj
   ·exact hm j hj
  subst this
  rw[hlk];rfl
 ·obtain ⟨u,r,rfl,⟨p,hp,rfl⟩,h2⟩:=he
  obtain ⟨⟨arr,h3,h4⟩,_⟩:=hh k T _ p hlk hp
  have hle:=h4.le
  rw[List.length_map]at hle
  have hs:(AV.slo k 0 1 cs.length).is ρ (.slice (some ⟨p.b,0,none⟩) 1 1):=.inl ⟨p,1,hp,rfl,Nat.le_refl _,by omega⟩
  obtain ⟨vs,g1,g2⟩:=slo_SlMg (M:=M') (cs:=cs.map .ext) hs (by rw[List.length_map];omega) (fun b hb=>by rw[hp]at hb;cases hb;exact ⟨arr,h3,h4⟩)
  rw[List.drop_zero,List.take_of_length_le (by rw[List.length_map];omega)]at g2
  have g2:=map_ext_is g2
  subst g2
  have he:elemP (.slice (some ⟨p.b,0,none⟩) 1 1) vs.length 0=ptr p.b 0:=by simp[elemP,addr_add,ptr]
  have hc:=h _ M' hM g1
  rw[he]at hc
  exact ⟨.ext (ptr p.b 0) :: rest' (ptr p.b 0),fun ρ'=>⟨_,_,rfl,rfl,hr ρ p r hp h2 ρ'⟩,hc⟩
theorem CallS.borBox{P:Program}{f:FuncId}{k:Nat}{T:TypeId}{cs:List Value}(l:List Value){M:Mem}{K:AV→Hp→Mem→Prop}
  (h:∀U M',Mem.le M M'→SlM M' cs.length U 1 cs→CallS P f (.ext (elemP U cs.length 0) :: l.map .ext) [] M' [] (BorK [(k,T,cs.map .ext)] M M' K)) :
  CallS P f (.own k 0 :: l.map .ext) [(k,T,cs.map .ext)] M [] K:=
 CallS.borBoxG (rest':=fun _=>l.map .ext) (fun j hj=>by rw[mentL_ext]at hj;cases hj) (fun ρ p us hp hu ρ'=>by rw[map_ext_is hu];exact map_ext_isL _) h
theorem CallS.borBoxM{P:Program}{f g:FuncId}{k:Nat}{T:TypeId}{cs:List Value}{M:Mem}{K:AV→Hp→Mem→Prop}
  (h:∀U M',Mem.le M M'→SlM M' cs.length U 1 cs→CallS P f [.ext (elemP U cs.length 0),.bm g [.ext (elemP U cs.length 0)]] [] M' [] (BorK [(k,T,cs.map .ext)] M M' K)) :
  CallS P f [.own k 0,.bm g [.own k 0]] [(k,T,cs.map .ext)] M [] K:=
 CallS.borBoxG (rest':=fun p=>[.bm g [.ext p]]) (fun j hj=>by simpa [mentL,AV.ment] using hj) (fun ρ p us hp hu ρ'=>by
  obtain ⟨u,r,rfl,⟨vs,⟨v,r2,rfl,⟨q,hq,rfl⟩,h3⟩,rfl⟩,h4⟩:=hu
  have h3:r2=[]:=h3
  have h4:r=[]:=h4
  subst h3 h4
  rw[hp]at hq
  cases hq
  exact ⟨_,[],rfl,⟨[ptr p.b 0],⟨_,[],rfl,rfl,rfl⟩,rfl⟩,rfl⟩) h
open Classical in
theorem Fz.cellI{z:St}{B:St→Prop}{j k n q off p0:Nat}{T T0:TypeId}{C:List AV}(cs:List Value)(E:Env)(R:Hp)(hj:lkH z.hp j=some (T0,C))(hC:C[p0]? = some (.slo k off n q))(hk:lkH z.hp k=some (T,cs.map .ext))(hn:off+n*q≤cs.length)(hkb:z.kb≤k)(hjk:j≠k)
  (hE:subE E z.env) (hE2:k∉mentE E) (hR:subHp R z.hp) (hR2:k∉mentH R) (hkeep:keepLt z.kb R z.hp) (hfx:∀k,k<z.kb→(lkH z.hp k).isSome=true→k∈z.fx)
  (h:∀M' U,Mem.le z.M M'→SlM M' q U n ((cs.drop off).take (n*q))→FreshS z.M U→B {env:=E,hp:=(j,T0,C.set p0 (.ext U)) :: R,M:=M',kb:=z.kb,fx:=z.fx,fr:=z.fr}):Fz z B:=fun c n0 a w hcx ⟨ρ,g⟩=>by
 obtain ⟨bj,hbj⟩:∃b,ρ j=some b:=by
  cases hb:ρ j with
  | none=>have:=g.no j _ _ hj hb;subst this;simp at hC
  | some b=>exact ⟨b,rfl⟩
 obtain ⟨⟨arr0,row0⟩,fj2,fj3⟩:=g.hp j _ _ bj hj hbj
 have hU:=row0.is p0 (.slo k off n q) hC
 generalize hUe:arr0.getD p0 undef=U at hU
 let D:Nat→Prop:=fun b=>∃x,ρ k=some x∧x.b=b
 let M':Mem:=fun b=>if D b then w.heap[b]? else z.M b
 have hRz:∀k x,lkH R k=some x→lkH z.hp k=some x:=subHp_lk hR
 have hRF:∀i x,lkH R i=some x→i≠k:=fun i x hx e=>by
  subst e
  exact hR2 (mentH_lk (T:=x.1) (cs:=x.2) hx (.inl rfl))
 have hMD:∀b,D b→z.M b=none:=fun b ⟨x,hx,e⟩=>by
  rw[←e];exact (g.hp k _ _ x hk hx).2.2
 have hle:Mem.le z.M M':=fun b o hb=>by
  by_cases hD:D b
  ·rw[hMD b hD]at hb;cases hb
  ·simp only[M',if_neg hD];exact hb
 have hlk:∀j x,lkH [(k,T,cs.map AV.ext)] j=some x→j=k∧x=(T,cs.map .ext):=fun j x h=>by
  simp only[lkH]at h
  split at h
  ·rename_i e;cases h;exact ⟨e.symm,rfl⟩
  ·cases h
 have hc:closedH [(k,T,cs.map AV.ext)]:=fun j T' ds q hj hq=>by
  obtain ⟨_,e⟩:=hlk j _ hj
  cases e
  rw[mentL_ext]at hq;cases hq
 have hhold:HoldH ρ z.M M' [(k,T,cs.map AV.ext)] w:=fun i T' ds b hi hb=>by
  obtain ⟨rfl,e⟩:=hlk i _ hi
  cases e
  obtain ⟨⟨arr,h1⟩,_,h2⟩:=g.hp _ _ _ b hk hb
  have hD:D b.b:=⟨b,hb,rfl⟩
  exact ⟨⟨arr,by simp only[M',if_pos hD];exact h1.there,h1⟩,h2⟩
 have hB:B {env:=E,hp:=(j,T0,C.set p0 (.ext U)) :: R,M:=M',kb:=z.kb,fx:=z.fx,fr:=z.fr}:=by
  have h2:=borI_is hhold (.slo k off n q) U (fun i hi=>by
   have:i=k:=by simpa [AV.ment] using hi
   subst this
   simp[lkH]) hU
  obtain ⟨h3,h4⟩:=h2
  have h5:=h4 T cs (by simp[lkH]) (by omega)
  exact h M' U hle h5 h3
 have hlk2:∀i x,lkH ((j,T0,C.set p0 (AV.ext U)) :: R) i=some x→(i=j∧x=(T0,C.set p0 (.ext U)))∨(i≠j∧lkH R i=some x):=fun i x hx=>by
  simp only[lkH]at hx
  split at hx
  ·rename_i e;cases hx;exact .inl ⟨e.symm,rfl⟩
  ·rename_i e;exact .inr ⟨fun e2=>e e2.symm,hx⟩
 have hsome:∀i,(lkH ((j,T0,C.set p0 (AV.ext U)) :: R) i).isSome=true→(lkH z.hp i).isSome=true:=fun i hi=>by
  obtain ⟨x,hx⟩:=Option.isSome_iff_exists.1 hi
  rcases hlk2 i x hx with ⟨rfl,_⟩|⟨_,hx⟩
  ·rw[hj];rfl
  ·rw[hRz i x hx];rfl
 have hnk:∀i,(lkH ((j,T0,C.set p0 (AV.ext U)) :: R) i).isSome=true→i≠k:=fun i hi=>by
  obtain ⟨x,hx⟩:=Option.isSome_iff_exists.1 hi
  rcases hlk2 i x hx with ⟨rfl,_⟩|⟨_,hx⟩
  ·exact hjk
  ·exact hRF i x hx
 have hnD:∀i b,(lkH ((j,T0,C.set p0 (AV.ext U)) :: R) i).isSome=true→ρ i=some b→¬D b.b:=fun i b hi hb ⟨x,hx,e⟩=>by
  exact hnk i hi (g.inj k i x b (by rw[hk];rfl) (hsome i hi) hx hb e).symm
 refine ⟨_,⟨ρ,?_⟩,hB⟩
 refine {df:=g.df,sz:=g.sz,env:=fun t=>?_,hp:=fun i T' ds b hi hb=>?_,no:=fun i T' ds hi hb=>?_,inj:=fun i i' b b' hi hi' hb hb' e=>g.inj i i' b b' (hsome i hi) (hsome i' hi') hb hb' e,os:=g.os,tape:=g.tape,output:=g.output,size:=g.size,block:=g.block,sub:=fun b o hb=>?_,le:=g.le.trans hle,mf:=fun b hb=>?_,fix:=fun i hi=>?_,fx:=g.fx,kl:=g.kl,fr:=g.fr}
 ·show (lk E t).is ρ _
  rcases subE_lk hE t with e2|e2
  ·rw[e2];trivial
  ·rw[e2];exact g.env t
 ·have hD:=hnD i b (by rw[hi];rfl) hb
  rcases hlk2 i _ hi with ⟨rfl,e⟩|⟨_,hi⟩
  ·cases e
   rw[hbj]at hb;cases hb
   refine ⟨⟨arr0,row0.there,row0.size,by rw[List.length_set];exact row0.le,fun p v hv=>?_⟩,fj2,?_⟩
   ·by_cases hp:p0=p
    ·subst hp
     rw[List.getElem?_set_self (by exact (List.getElem?_eq_some_iff.1 hC).1)]at hv
     cases hv;exact hUe
    ·rw[List.getElem?_set_ne hp]at hv
     exact row0.is p v hv
   ·show M' bj.b=none
    simp only[M',if_neg hD];exact fj3
  ·obtain ⟨f1,f2,f3⟩:=g.hp i T' ds b (hRz i _ hi) hb
   refine ⟨f1,f2,?_⟩
   show M' b.b=none
   simp only[M',if_neg hD];exact f3
 ·rcases hlk2 i _ hi with ⟨rfl,e⟩|⟨_,hi⟩
  ·rw[hbj]at hb;cases hb
  ·exact g.no i T' ds (hRz i _ hi) hb
 ·have hb:M' b=some o:=hb
  by_cases hD:D b
  ·simp only[M',if_pos hD]at hb;exact hb
  ·simp only[M',if_neg hD]at hb;exact g.sub b o hb
 ·have hb:M' b≠none:=hb
  by_cases hD:D b
  ·obtain ⟨x,hx,e⟩:=hD
   rcases (g.hp k _ _ x hk hx).2.1 with h5|h5
   ·rw[←e];exact .inr h5
   ·exfalso
    obtain ⟨k',y',h6,h7,h8⟩:=hcx.x _ h5
    have h9:=g.fix k' h6
    have h10:=g.kl k' h6
    have h11:=g.fx k' (hfx k' h10 h9)
    rw[h7]at h11
    have:=g.inj k' k y' x h9 (by rw[hk];rfl) h11 hx h8
    omega
  ·simp only[M',if_neg hD]at hb;exact g.mf b hb
 ·have h1:=keepLt_ok hkeep i (g.kl i hi) (g.fix i hi)
  simp only[lkH]
  split
  ·rfl
  ·exact h1
theorem pn_app:∀(A B:List (Nat×Nat)),pn (A++B)=pn A*pn B
 | [],B=>by simp[pn]
 | p :: r,B=>by rw[List.cons_append,pn,pn,pn_app r B,Nat.mul_assoc]
theorem pn_le8:∀{A:List (Nat×Nat)},(∀p∈A,OkN p)→pn A≤1000^A.length
 | [],_=>by simp[pn]
 | p :: r,h=>by
  have h1:=pn_le8 (A:=r) fun q hq=>h q (List.mem_cons_of_mem _ hq)
  have h2:=(h p (List.mem_cons_self ..)).le1.1
  rw[pn,List.length_cons,Nat.pow_succ,Nat.mul_comm (1000^r.length)]
  exact Nat.mul_le_mul h2 h1
theorem facN_len(s:Nat):∀(N:List (Nat×Nat)) (j:Nat),(facN s j N).length=N.length
 | [],_=>rfl
 | p :: r,j=>by rw[facN,List.length_cons,List.length_cons,facN_len s r]
theorem facN_at(s:Nat):∀(N:List (Nat×Nat)) (j i:Nat) (h:i<N.length),(facN s j N)[i]? = some (if s.testBit (j+i) then N[i] else (N[i].2-N[i].1,N[i].2))
 | p :: r,j,0,_=>by rw[facN];rfl
 | p :: r,j,i+1,h=>by
  rw[facN,List.getElem?_cons_succ,facN_at s r (j+1) i (by simpa using h)]
  rw[show j+1+i=j+(i+1) by omega]
  rfl
theorem facN_take(s:Nat)(N:List (Nat×Nat))(i:Nat)(h:i<N.length):pn ((facN s 0 N).take (i+1))=pn ((facN s 0 N).take i)*(if s.testBit i then N[i].1 else N[i].2-N[i].1):=by
 have h1:=facN_at s N 0 i h
 rw[Nat.zero_add]at h1
 rw[List.take_add_one,h1,pn_app]
 congr 1
 split<;>simp[pn]
theorem sm_take{s:Nat}{N:List (Nat×Nat)}{i:Nat}(hN:∀p∈N,OkN p)(hl:N.length≤8):pn ((facN s 0 N).take i)≤1000^8:=by
 refine Nat.le_trans (pn_le8 fun p hp=>facN_ok s N 0 hN p (List.mem_of_mem_take hp)) (Nat.pow_le_pow_right (by decide) ?_)
 rw[List.length_take,facN_len]
 omega
theorem sm_1000_9:Sm (1000^8*1000):=Nat.lt_trans (by decide:1000^8*1000<2^100) (Nat.pow_lt_pow_right (by decide) (by decide))
structure SeV where
 ur:Value
 up:Value
 y1:Value
 y2:Value
 x1:Value
 x2:Value
 d1:Value
 d2:Value
 most:Int
 uq:Value
 uf:Value
def SeV.v(v:SeV):Value:=.agg #[v.ur,v.up,v.y1,v.y2,v.x1,v.x2,v.d1,v.d2,.int .i64 v.most,v.uq,v.uf]
def SeV.c(v:SeV):List AV:=[.ext v.ur,.ext v.up,.ext v.y1,.ext v.y2,.ext v.x1,.ext v.x2,.ext v.d1,.ext v.d2,.ext (.int .i64 v.most),.ext v.uq,.ext v.uf]
def scC(v:SeV)(us:Value)(w:AV)(uv:Value)(i su e1 e2:AV):List AV:=[.ext v.ur,.ext v.up,.ext v.y1,.ext v.y2,.ext v.x1,.ext v.x2,.ext v.d1,.ext v.d2,.ext (.int .i64 v.most),.ext v.uq,.ext v.uf,.ext us,w,.ext uv,i,su,e1,e2]
def scL(v:SeV)(w:ScV):List Value:=[v.ur,v.up,v.y1,v.y2,v.x1,v.x2,v.d1,v.d2,.int .i64 v.most,v.uq,v.uf,w.us,w.uw,w.up,w.ui,w.su,w.e1,w.e2]
theorem scL_ext(v:SeV)(w:ScV):(scL v w).map AV.ext=[.ext v.ur,.ext v.up,.ext v.y1,.ext v.y2,.ext v.x1,.ext v.x2,.ext v.d1,.ext v.d2,.ext (.int .i64 v.most),.ext v.uq,.ext v.uf,.ext w.us,.ext w.uw,.ext w.up,.ext w.ui,.ext w.su,.ext w.e1,.ext w.e2]:=rfl
def scO(v:SeV)(w:ScV):Value:=.agg #[v.ur,v.up,v.y1,v.y2,v.x1,v.x2,v.d1,v.d2,.int .i64 v.most,v.uq,v.uf,w.us,w.uw,w.up,w.ui,w.su,w.e1,w.e2]
def nilE:AV:=.ext (.slice none 0 0)
def sc0:List AV:=[nilE,nilE,nilE,nilE,nilE,nilE,nilE,nilE,.ext (.int .i64 0),nilE,nilE,nilE,nilE,nilE,nilE,nilE,nilE,nilE]
structure SeI (M:Mem) (v:SeV) (l:List Int) (P:List FR) (N:List (Nat×Nat)) (f g dl:Nat×Nat):Prop where
 r:IsL M intV64 v.ur l
 c:chkL l=true
 p:IsR M 2 FR.c v.up P
 o:okFL M P
 n:P.map prV=N.map opN
 no:∀q∈N,OkN q
 nl:N.length=l.length
 y:IsF M v.y1 v.y2 (ofN f.1) (ofN f.2)
 x:IsF M v.x1 v.x2 (ofN g.1) (ofN g.2)
 d:IsF M v.d1 v.d2 (ofN dl.1) (ofN dl.2)
 fo:OkN f
 go:OkN g
 do_:OkN dl
 q1:v.uq.oneCell'=true
 q2:v.uf.oneCell'=true
theorem SeI.le{M M':Mem}{v:SeV}{l:List Int}{P:List FR}{N:List (Nat×Nat)}{f g dl:Nat×Nat}(h:SeI M v l P N f g dl)(hM:Mem.le M M'):SeI M' v l P N f g dl:=
 ⟨h.r.le hM,h.c,h.p.le hM,h.o.le hM,h.n,h.no,h.nl,h.y.le hM,h.x.le hM,h.d.le hM,h.fo,h.go,h.do_,h.q1,h.q2⟩
theorem SeI.ones{M:Mem}{v:SeV}{l:List Int}{P:List FR}{N:List (Nat×Nat)}{f g dl:Nat×Nat}(h:SeI M v l P N f g dl):v.ur.oneCell'=true∧v.up.oneCell'=true∧v.y1.oneCell'=true∧v.y2.oneCell'=true∧v.x1.oneCell'=true∧v.x2.oneCell'=true∧v.d1.oneCell'=true∧v.d2.oneCell'=true∧v.uq.oneCell'=true∧v.uf.oneCell'=true:=
 ⟨h.r.one,h.p.one,h.y.n.one,h.y.d.one,h.x.n.one,h.x.d.one,h.d.n.one,h.d.d.one,h.q1,h.q2⟩
theorem pd_le8:∀{A:List (Nat×Nat)},(∀p∈A,OkN p)→pd A≤1000^A.length
 | [],_=>by simp[pd]
 | p :: r,h=>by
  have h1:=pd_le8 (A:=r) fun q hq=>h q (List.mem_cons_of_mem _ hq)
  have h2:=(h p (List.mem_cons_self ..)).le1.2
  rw[pd,List.length_cons,Nat.pow_succ,Nat.mul_comm (1000^r.length)]
  exact Nat.mul_le_mul h2 h1
theorem start_sum{l:List Int}{N:List (Nat×Nat)}(hc:chkL l=true)(hN:∀p∈N,OkN p)(hl:N.length=l.length):lsum (startX l N)≤b0∧0<lsum (startX l N)∧0<(setsL l 2).length:=by
 have h1:pd N≤1000^8:=Nat.le_trans (pd_le8 hN) (Nat.pow_le_pow_right (by decide) (by have:=(chk_len hc).2;omega))
 have hone:=setsL_one hc (m:=2) (.inr rfl)
 unfold startX
 refine ⟨Nat.le_trans (lsum_le (b:=1000^8) fun x hx=>?_) ?_,?_,List.length_pos_of_mem hone⟩
 ·obtain ⟨s,_,rfl⟩:=List.mem_map.1 hx
  have h2:=pn_le (facN_ok s N 0 hN)
  rw[facN_pd]at h2
  omega
 ·rw[List.length_map]
  exact Nat.mul_le_mul_right _ (setsL_len hc)
 ·have hx:pn (facN 1 0 N)∈(setsL l 2).map fun s=>pn (facN s 0 N):=List.mem_map.2 ⟨1,hone,rfl⟩
  exact Nat.lt_of_lt_of_le (pn_pos (facN_ok 1 N 0 hN)) (lsum_mem hx)
theorem setB_iv{l:List Int}(hc:chkL l=true){p:Nat}(hp:p∈ivN l.length):setB l (p:Int)=true:=
 setB_of (by omega) (by have:=(iv_lt (chk_len hc).2 p hp).2;omega)
section
variable {M:Mem}{K:AV→Hp→Mem→Prop}{v:SeV}{l:List Int}{P:List FR}{N:List (Nat×Nat)}{f g dl:Nat×Nat}
def bgHp(v:SeV)(us:Value)(w:AV)(uv:Value)(i:AV):Hp:=[(3,88,scC v us w uv i nilE nilE nilE),(2,88,sc0),(1,37,v.c)]
def bgA(M:Mem)(v:SeV)(us uv:Value)(n i:Nat)(D:List Nat):St:={env:=[(30,.ext (.int .i64 (i:Int))),(29,.ext (.int .i64 (n:Int))),(28,.ext uv),(3,.own 3 0),(2,.own 2 0),(1,.own 1 0)],hp:=(45,3,cE natV D) :: bgHp v us nilE uv (.slo 45 0 i 1),M:=M,kb:=0,fx:=[]}
def bgB(M:Mem)(v:SeV)(us uv ui:Value)(n k:Nat)(E:List NR):St:={env:=[(51,.ext (.int .i64 (k:Int))),(50,.ext (.int .i64 (n:Int))),(49,.ext us),(3,.own 3 0),(2,.own 2 0),(1,.own 1 0)],hp:=(85,30,cE NR.v E) :: bgHp v us (.slo 85 0 k 1) uv (.ext ui),M:=M,kb:=0,fx:=[]}
def bgC(M:Mem)(v:SeV)(us uv ui w:Value)(s n k m j:Nat)(E:List NR):St:={env:=[(59,.ext (.int .i64 (j:Int))),(58,.ext (.int .i64 (m:Int))),(57,.ext v.up),(10,.ext w),(9,.ext (.int .i64 (s:Int))),(51,.ext (.int .i64 (k:Int))),(50,.ext (.int .i64 (n:Int))),(49,.ext us),(3,.own 3 0),(2,.own 2 0),(1,.own 1 0)],hp:=(85,30,cE NR.v E) :: bgHp v us (.slo 85 0 k 1) uv (.ext ui),M:=M,kb:=0,fx:=[]}
theorem whole_ok(hK:∀w1 w2 M',Mem.le M M'→IsF M' w1 w2 (ofN 1) (ofN 1)→FreshS M w1→FreshS M w2→K (.ext (.agg #[w1,w2])) [] M'):CallS Tryz.prog 62 [.ext (.int .i64 1)] [] M [] K:=by
 refine inlS (cs:=[]) Tryz.mixed Tryz.func62 rfl (by kernel_rfl) 0 rfl rfl ?_
 simp only[Tryz.f62]
 have e:ofF 1 1=(0,1,1):=by decide +kernel
 (try with_reducible refine Fz.of ?_);refine sU ?_;(repeat' ((first|((with_reducible refine yN ?_);refine kS 100 (fof_ok 1 1 (by decide) (by decide) (by decide) (by decide) (fun w1 w2 M1 m1 g1 g2 f1 f2=>Stop.mk ?_)))|refine oB ?_|fail)<;>refine sU ?_<;>try with_reducible exact tT))
 rw[e]at g1 g2
 have p1:=g1.one
 have p2:=g2.one
 have hk:=hK w1 w2 M1 m1 ⟨g1,g2,okN_ofN _,okN_ofN _,by decide +kernel,by decide +kernel⟩ f1 f2
 refine wG (A3 e p1 p2) ?_
 exact hk
theorem begin_ok(h:SeI M v l P N f g dl)
  (hK:∀w M',Mem.le M M'→ScI M' w l (setsL l 2) dl (startX l N)→K (.ext (scO v w)) [] M') :
  CallS Tryz.prog 63 [.ext v.v] [] M [] K:=by
 refine inlS (cs:=[9,22]) Tryz.mixed Tryz.func63 rfl (by kernel_rfl) 0 rfl rfl ?_
 simp only[Tryz.f63]
 have oo:=h.ones
 have n1:=h.r.len
 have s1:=h.r.sl
 have hcl:=chk_len h.c
 (try with_reducible refine Fz.of ?_);have hf:=A4 @SeV.v.eq_1 oo n1 s1;refine sF ?_;(repeat' ((first|((with_reducible refine yM ?_);refine kS 101 (intervals_ok l.length hcl.1 hcl.2 (fun uv M1 m1 g1 _=>Stop.mk ?_)))|((with_reducible refine isE 13 (by decide) ?_);refine dR ((0,[]) :: (rP 1 4 [0] [(7,[0,3]),(5,[0]),(6,[]),(8,[])])) (3 :: (rgL 13 7 [])) [] ?_)|refine oB ?_|fail)<;>refine sF ?_<;>try with_reducible exact tT))<;>try clear hf
 have m1:Mem.le M M1:=m1
 have p1:=g1.one
 have n2:=g1.len
 have s2:=g1.sl
 have hse:setsE l 2=0:=by unfold setsE;rw[if_pos h.c];rfl
 refine Stop.go ?_
 (try with_reducible refine Fz.of ?_);have hf:=A6 oo n1 s1 p1 n2 s2;refine sF ?_;(repeat' ((first|((with_reducible refine yN ?_);refine kS 102 (Sets_ok v.ur l 2 (h.r.le m1) (by omega) (fun us M2 m2 g2 _=>Stop.mk ?_)))|((with_reducible refine isE 13 (by decide) ?_);refine dR ((0,[]) :: (rP 1 4 [0] [(7,[0,3]),(5,[0]),(6,[]),(8,[])])) (3 :: (rgL 13 7 [])) [] ?_)|refine oB ?_|fail)<;>refine sF ?_<;>try with_reducible exact tT))<;>try clear hf
 have m2:Mem.le M1 M2:=m2
 have p2:=g2.one
 have m02:=m1.trans m2
 have g1:=g1.le m2
 have hiv:=iv_len hcl.2
 have hse:∀p∈ivN l.length,effR l (p:Int)=(((effN l p:Nat):Int),0):=fun p hp=>by
  unfold effR
  rw[if_pos h.c,if_pos (setB_iv h.c hp),Int.toNat_natCast]
 generalize hPI:ivN l.length=PI at *
 refine Stop.go ?_
 (try with_reducible refine Fz.of ?_);have hf:=A7 oo n1 s1 p1 n2 s2 p2;refine sF ?_;(repeat' ((first|((with_reducible refine isE 13 (by decide) ?_);refine dR ((0,[]) :: (rP 1 4 [0] [(7,[0,3]),(5,[0]),(6,[]),(8,[])])) (3 :: (rgL 13 7 [])) [] ?_)|refine oB ?_|fail)<;>refine sF ?_<;>try with_reducible exact tT))<;>try clear hf
 refine ⟨fun z=>∃M' ,Mem.le M2 M'∧z=bgA M' v us uv PI.length PI.length (PI.map (effN l)),?_,?_⟩
 ·(try with_reducible refine Fz.of ?_);have hf:=A7 oo n1 s1 p1 n2 s2 p2;refine sF ?_;(repeat' ((first|((with_reducible refine isE 13 (by decide) ?_);refine dR ((0,[]) :: (rP 1 4 [0] [(7,[0,3]),(5,[0]),(6,[]),(8,[])])) (3 :: (rgL 13 7 [])) [] ?_)|refine oB ?_|fail)<;>refine sF ?_<;>try with_reducible exact tT))<;>try clear hf
  refine ⟨fun m z=>∃i,m=PI.length-i∧i≤PI.length∧z=bgA M2 v us uv PI.length i ((PI.take i).map (effN l)),
   ⟨PI.length,bgA M2 v us uv PI.length 0 [],(le_nilH 3 14 45 3 88 (scC v us nilE uv nilE nilE nilE nilE) 1 rfl rfl (.inl rfl)).trans (le_sub ⟨rfl,rfl,rfl,rfl,rfl,rfl,trivial⟩ ⟨rfl,rfl,rfl,rfl,trivial⟩ rfl rfl rfl (keepLt0 _)),⟨0,by omega,by omega,rfl⟩⟩,?_⟩
  rintro m z ⟨i,rfl,hi,rfl⟩
  by_cases hlt:i<PI.length
  case neg=>
   obtain rfl:i=PI.length:=by omega
   have z1:decide ((PI.length:Int)<(PI.length:Int))=false:=by simp
   rw[List.take_length]
   refine wT (A12 @bgA.eq_1 @bgHp.eq_1 @scC.eq_1 @sc0.eq_1 @SeV.c.eq_1 @nilE.eq_1 z1 oo p1 p2 @cE_ment (A2 @cE_kill @hasK_nil)) ?_
   exact ⟨bgA M2 v us uv PI.length PI.length (PI.map (effN l)),le_sub ⟨rfl,rfl,rfl,rfl,rfl,rfl,trivial⟩ ⟨rfl,rfl,rfl,rfl,trivial⟩ rfl rfl rfl (keepLt0 _),M2,Mem.le.refl _,rfl⟩
  have z1:decide ((i:Int)<(PI.length:Int))=true:=by rw[decide_eq_true_eq];omega
  have f1:=g1.idx (P:=Tryz.prog) (T:=3) tk3 tz3 (by omega) hlt
  have he:=hse _ (List.getElem_mem hlt)
  have wi:IntKind.i64.wrap ((i:Int)+1)=((i+1:Nat):Int):=succ_i (by omega)
  have htk:(PI.take (i+1)).map (effN l)=(PI.take i).map (effN l)++[effN l PI[i]]:=by rw[List.take_add_one,List.getElem?_eq_getElem hlt,List.map_append];rfl
  have ap:cE natV ((PI.take i).map (effN l))++[.ext (.int .i64 ((effN l PI[i]:Nat):Int))]=cE natV ((PI.take (i+1)).map (effN l)):=by rw[htk];exact cE_snoc natV _ _
  have hcl2:(cE natV ((PI.take i).map (effN l))).length=i:=by rw[cE_len,List.length_map,List.length_take];omega
  generalize PI[i]=p at *
  (try with_reducible refine Fz.of ?_);have hf:=A12 @bgA.eq_1 @bgHp.eq_1 @scC.eq_1 @sc0.eq_1 @SeV.c.eq_1 @nilE.eq_1 wi @natV.eq_1 @itup.eq_1 he f1 (A9 z1 ap hcl2 oo p1 p2 @cE_ment @cE_kill @hasK_nil);refine sF ?_;(repeat' ((first|((with_reducible refine yN ?_);refine kS 103 (Effective_ok v.ur l (p:Int) (h.r.le m02) (by omega) ?_))|refine oB ?_|fail)<;>refine sF ?_<;>try with_reducible exact tT))<;>try clear hf
  exact ⟨PI.length-(i+1),bgA M2 v us uv PI.length (i+1) ((PI.take (i+1)).map (effN l)),by omega,le_sub ⟨rfl,rfl,rfl,rfl,rfl,rfl,trivial⟩ ⟨rfl,rfl,rfl,rfl,trivial⟩ rfl rfl rfl (keepLt0 _),i+1,rfl,by omega,rfl⟩
 ·rintro z ⟨M3,m3,rfl⟩
  refine Fz.cellI (k:=45) (j:=3) (p0:=14) (n:=PI.length) (q:=1) (off:=0) (T:=3) (T0:=88) ((PI.map (effN l)).map natV) [(3,.own 3 0),(2,.own 2 0),(1,.own 1 0)] [(2,88,sc0),(1,37,v.c)] rfl rfl rfl (by rw[List.length_map,List.length_map];omega) (Nat.zero_le _) (by decide) ⟨rfl,rfl,rfl,trivial⟩ (by simp[mentE,AV.ment]) ⟨rfl,rfl,trivial⟩ (by simp[mentH,mentL,AV.ment,sc0,SeV.c,nilE]) (keepLt0 _) (fun j hj _=>absurd hj (Nat.not_lt_zero _)) (fun M4 ui m4 hui _=>?_)
  have m4:Mem.le M3 M4:=m4
  rw[List.drop_zero,List.take_of_length_le (by rw[List.length_map,List.length_map];omega)]at hui
  have hui:IsL M4 natV ui (PI.map (effN l)):=by unfold IsL;rw[List.length_map];exact hui
  have p3:=hui.one
  have m24:=m3.trans m4
  have m04:=m02.trans m24
  have g2:=g2.le m24
  have n3:=g2.len
  have s3:=g2.sl
  clear m4 m3
  have hsl:(setsL l 2).length<1000000:=Nat.lt_of_le_of_lt (setsL_len h.c) (by decide)
  have hS8:∀x∈setsL l 2,x<256:=fun x hx=>(hI_ok h.c 2).2 x (by rw[toN_hI];exact hx)
  generalize hS:setsL l 2=S at *
  refine wT (A10 @scC.eq_1 @sc0.eq_1 @SeV.c.eq_1 @nilE.eq_1 oo p1 p2 p3 n3 s3) ?_
  refine ⟨fun z=>∃M' E,Mem.le M4 M'∧okNL M' E∧E.map NR.n=S.map (fun s=>pn (facN s 0 N))∧z=bgB M' v us uv ui S.length S.length E,?_,?_⟩
  ·refine wT (A10 @scC.eq_1 @sc0.eq_1 @SeV.c.eq_1 @nilE.eq_1 oo p1 p2 p3 n3 s3) ?_
   refine ⟨fun m z=>∃M' E k,m=S.length-k∧k≤S.length∧Mem.le M4 M'∧okNL M' E∧E.map NR.n=(S.take k).map (fun s=>pn (facN s 0 N))∧z=bgB M' v us uv ui S.length k E,
    ⟨S.length,bgB M4 v us uv ui S.length 0 [],(le_nilH 3 12 85 30 88 (scC v us nilE uv (.ext ui) nilE nilE nilE) 1 rfl rfl (.inl rfl)).trans (le_sub ⟨rfl,rfl,rfl,rfl,rfl,rfl,trivial⟩ ⟨rfl,rfl,rfl,rfl,trivial⟩ rfl rfl rfl (keepLt0 _)),⟨M4,[],0,by omega,by omega,Mem.le.refl _,(fun x hx=>by cases hx),rfl,rfl⟩⟩,?_⟩
   rintro m z ⟨M5,E,k,rfl,hk,m5,hE,hEv,rfl⟩
   have hEl:E.length=k:=by have:=congrArg List.length hEv;rw[List.length_map,List.length_map,List.length_take]at this;omega
   have hcl2:(cE NR.v E).length=k:=by rw[cE_len,hEl]
   by_cases hlt:k<S.length
   case neg=>
    obtain rfl:k=S.length:=by omega
    have z1:decide ((S.length:Int)<(S.length:Int))=false:=by simp
    rw[List.take_length]at hEv
    refine wT (A12 @bgB.eq_1 @bgHp.eq_1 @scC.eq_1 @sc0.eq_1 @SeV.c.eq_1 @nilE.eq_1 z1 oo p1 p2 p3 (A4 hE.all @cE_ment @cE_kill @hasK_nil)) ?_
    exact ⟨bgB M5 v us uv ui S.length S.length E,le_sub ⟨rfl,rfl,rfl,rfl,rfl,rfl,trivial⟩ ⟨rfl,rfl,rfl,rfl,trivial⟩ rfl rfl rfl (keepLt0 _),M5,E,m5,hE,hEv,rfl⟩
   have z1:decide ((k:Int)<(S.length:Int))=true:=by rw[decide_eq_true_eq];omega
   have f1:=(g2.le m5).idx (P:=Tryz.prog) (T:=3) tk3 tz3 (by omega) hlt
   have wi:IntKind.i64.wrap ((k:Int)+1)=((k+1:Nat):Int):=succ_i (by omega)
   have htk:(S.take (k+1)).map (fun s=>pn (facN s 0 N))=(S.take k).map (fun s=>pn (facN s 0 N))++[pn (facN S[k] 0 N)]:=by rw[List.take_add_one,List.getElem?_eq_getElem hlt,List.map_append];rfl
   have hs8:S[k]<256:=hS8 _ (List.getElem_mem hlt)
   generalize S[k]=s at *
   have n4:=h.p.len
   have s4:=h.p.sl
   have hPl:P.length=N.length:=by have:=congrArg List.length h.n;simpa using this
   have hN8:N.length≤8:=by have:=h.nl;omega
   have hf:=A12 @bgB.eq_1 @bgHp.eq_1 @scC.eq_1 @sc0.eq_1 @SeV.c.eq_1 @nilE.eq_1 @natV.eq_1 f1 z1 oo p1 (A8 p2 p3 n4 s4 hE.all @cE_ment @cE_kill @hasK_nil);refine wS ?_;refine kN 104 (zOf 1 (by decide) (fun w M6 m6 g6 _=>sG ?_));all_goals clear hf
   have m6:Mem.le M5 M6:=m6
   have q6:=g6.one
   refine wG (A12 @scC.eq_1 @sc0.eq_1 @SeV.c.eq_1 @nilE.eq_1 oo p1 p2 p3 q6 n4 s4 (A4 hE.all @cE_ment @cE_kill @hasK_nil)) ?_
   refine ⟨fun m z=>∃M' w j,m=P.length-j∧j≤P.length∧Mem.le M6 M'∧IsZ M' w (pn ((facN s 0 N).take j))∧z=bgC M' v us uv ui w s S.length k P.length j E,
    ⟨P.length,bgC M6 v us uv ui w s S.length k P.length 0 E,le_sub ⟨rfl,rfl,rfl,rfl,rfl,rfl,rfl,rfl,rfl,rfl,rfl,trivial⟩ ⟨rfl,rfl,rfl,rfl,trivial⟩ rfl rfl rfl (keepLt0 _),⟨M6,w,0,by omega,by omega,Mem.le.refl _,g6,rfl⟩⟩,?_⟩
   clear g6 q6
   rintro m' z ⟨M7,w,j,rfl,hj,m7,g7,rfl⟩
   have q7:=g7.one
   have m47:=m5.trans (m6.trans m7)
   have m07:=m04.trans m47
   by_cases hjt:j<P.length
   case neg=>
    obtain rfl:j=P.length:=by omega
    have z2:decide ((P.length:Int)<(P.length:Int))=false:=by simp
    rw[List.take_of_length_le (by rw[facN_len];omega)]at g7
    have ap:cE NR.v E++[.ext w]=cE NR.v (E++[⟨w,pn (facN s 0 N)⟩]):=(cE_snoc NR.v E ⟨w,_⟩)
    refine wT (A12 @bgC.eq_1 @bgHp.eq_1 @scC.eq_1 @sc0.eq_1 @SeV.c.eq_1 @nilE.eq_1 z2 wi ap hcl2 oo (A8 p1 p2 p3 q7 hE.all @cE_ment @cE_kill @hasK_nil)) ?_
    exact ⟨S.length-(k+1),bgB M7 v us uv ui S.length (k+1) (E++[⟨w,pn (facN s 0 N)⟩]),by omega,le_sub ⟨rfl,rfl,rfl,rfl,rfl,rfl,trivial⟩ ⟨rfl,rfl,rfl,rfl,trivial⟩ rfl rfl rfl (keepLt0 _),M7,_,k+1,rfl,by omega,m47,(hE.le (m6.trans m7)).snoc g7,by rw[List.map_append,hEv,htk];rfl,rfl⟩
   have z2:decide ((j:Int)<(P.length:Int))=true:=by rw[decide_eq_true_eq];omega
   have q3:(0:Int)≤(j:Int):=by omega
   have q4:(j:Int)<(P.length:Int):=by omega
   have hu2:=h.p.le m07
   have hnn:=hu2.nn hjt
   have hat:=hu2.at (P:=Tryz.prog) (T:=32) (fun _=>rfl) tk32 tz32 hjt
   have hF:=(h.o.le m07) _ (List.getElem_mem hjt)
   have wj:IntKind.i64.wrap ((j:Int)+1)=((j+1:Nat):Int):=succ_i (by omega)
   have hjN:j<N.length:=by omega
   have htj:=facN_take s N j hjN
   have hsz:=sm_take (s:=s) (i:=j) h.no hN8
   have hok:=h.no _ (List.getElem_mem hjN)
   have hpv:=congrArg (fun t=>t[j]?) h.n
   simp only[List.getElem?_map,List.getElem?_eq_getElem hjt,List.getElem?_eq_getElem hjN,Option.map_some]at hpv
   have hpv:=Option.some.inj hpv
   have sh:=shr_nat s j (by omega)
   have ib:=in_bit s j (by omega)
   generalize P[j]=x at *
   generalize N[j]=q at *
   obtain ⟨x1,x2,l1,l2⟩:=x
   have hat2:lookM Tryz.prog 32 M7 (elemP v.up 2 j)=some (.agg #[x1,x2]):=hat
   clear hat
   have hF:IsF M7 x1 x2 l1 l2:=hF
   have e1:l1=ofN q.1:=congrArg Prod.fst hpv
   have e2:l2=ofN q.2:=congrArg Prod.snd hpv
   subst e1 e2
   obtain ⟨b1,b2,b3,b4⟩:=hok.sm
   obtain ⟨b5,b6⟩:=hok.le1
   have b7:=hok.2.1
   have hz1:IsZ M7 x1 q.1:=⟨hF.n,b3⟩
   have hz2:IsZ M7 x2 q.2:=⟨hF.d,b4⟩
   have q8:=hz1.one
   have q9:=hz2.one
   cases hb:s.testBit j with
   | true=>
    rw[hb]at ib
    rw[hb,if_pos rfl]at htj
    have hf:=A12 @bgC.eq_1 @bgHp.eq_1 @scC.eq_1 @sc0.eq_1 @SeV.c.eq_1 @nilE.eq_1 z2 q3 q4 sh ib (A12 hnn hat2 oo p1 p2 p3 q7 q8 q9 n4 s4 (A4 hE.all @cE_ment @cE_kill @hasK_nil));refine wS ?_;refine kN 64 (cMul g7 hz1 (sm_1000_9.le (Nat.mul_le_mul hsz b5)) (fun w8 M8 m8 g8 _=>sG ?_));all_goals clear hf
    have m8:Mem.le M7 M8:=m8
    have q10:=g8.one
    rw[←htj]at g8
    refine wG (A12 @scC.eq_1 @sc0.eq_1 @SeV.c.eq_1 @nilE.eq_1 wj oo p1 p2 p3 q8 q9 (A7 q10 n4 s4 hE.all @cE_ment @cE_kill @hasK_nil)) ?_
    exact ⟨P.length-(j+1),bgC M8 v us uv ui w8 s S.length k P.length (j+1) E,by omega,le_sub ⟨rfl,rfl,rfl,rfl,rfl,rfl,rfl,rfl,rfl,rfl,rfl,trivial⟩ ⟨rfl,rfl,rfl,rfl,trivial⟩ rfl rfl rfl (keepLt0 _),M8,w8,j+1,rfl,by omega,m7.trans m8,g8,rfl⟩
   | false=>
    rw[hb]at ib
    rw[hb,if_neg (by decide)]at htj
    have hf:=A12 @bgC.eq_1 @bgHp.eq_1 @scC.eq_1 @sc0.eq_1 @SeV.c.eq_1 @nilE.eq_1 z2 q3 q4 sh ib (A12 hnn hat2 oo p1 p2 p3 q7 q8 q9 n4 s4 (A4 hE.all @cE_ment @cE_kill @hasK_nil));refine wS ?_;refine kN 68 (cSub hz2 hz1 (by omega) (fun w8 M8 m8 g8 _=>sG ?_));all_goals clear hf
    have m8:Mem.le M7 M8:=m8
    have q10:=g8.one
    have hf:=A12 @scC.eq_1 @sc0.eq_1 @SeV.c.eq_1 @nilE.eq_1 oo p1 p2 p3 q7 q8 q9 (A7 q10 n4 s4 hE.all @cE_ment @cE_kill @hasK_nil);refine wH ?_;refine kN 64 (cMul (g7.le m8) g8 (sm_1000_9.le (Nat.mul_le_mul hsz (by omega))) (fun w9 M9 m9 g9 _=>sG ?_));all_goals clear hf
    have m9:Mem.le M8 M9:=m9
    have q11:=g9.one
    rw[←htj]at g9
    refine wG (A12 @scC.eq_1 @sc0.eq_1 @SeV.c.eq_1 @nilE.eq_1 wj oo p1 p2 p3 q8 q9 (A8 q10 q11 n4 s4 hE.all @cE_ment @cE_kill @hasK_nil)) ?_
    exact ⟨P.length-(j+1),bgC M9 v us uv ui w9 s S.length k P.length (j+1) E,by omega,le_sub ⟨rfl,rfl,rfl,rfl,rfl,rfl,rfl,rfl,rfl,rfl,rfl,trivial⟩ ⟨rfl,rfl,rfl,rfl,trivial⟩ rfl rfl rfl (keepLt0 _),M9,w9,j+1,rfl,by omega,m7.trans (m8.trans m9),g9,rfl⟩
  ·rintro z ⟨M5,E,m5,hE,hEv,rfl⟩
   have hEl:E.length=S.length:=by have:=congrArg List.length hEv;rw[List.length_map,List.length_map]at this;exact this
   refine Fz.cellI (k:=85) (j:=3) (p0:=12) (n:=S.length) (q:=1) (off:=0) (T:=30) (T0:=88) (E.map NR.v) [(3,.own 3 0),(2,.own 2 0),(1,.own 1 0)] [(2,88,sc0),(1,37,v.c)] rfl rfl rfl (by rw[List.length_map];omega) (Nat.zero_le _) (by decide) ⟨rfl,rfl,rfl,trivial⟩ (by simp[mentE,AV.ment]) ⟨rfl,rfl,trivial⟩ (by simp[mentH,mentL,AV.ment,sc0,SeV.c,nilE]) (keepLt0 _) (fun j hj _=>absurd hj (Nat.not_lt_zero _)) (fun M6 uw m6 huw _=>?_)
   have m6:Mem.le M5 M6:=m6
   rw[List.drop_zero,List.take_of_length_le (by rw[List.length_map];omega)]at huw
   have huw:IsL M6 NR.v uw E:=by unfold IsL;rw[hEl];exact huw
   have q4:=huw.one
   have m46:=m5.trans m6
   have m06:=m04.trans m46
   have hW:IsW M6 uw E (startX l N):=⟨huw,hE.le m6,by rw[hEv];unfold startX;rw[hS]⟩
   (try with_reducible refine Fz.of ?_);have hf:=A9 @scC.eq_1 @sc0.eq_1 @SeV.c.eq_1 @nilE.eq_1 oo p1 p2 p3 q4;refine sF ?_;(repeat' ((first|((with_reducible refine yM ?_);refine kS 62 (whole_ok (fun w1 w2 M7 m7 g7 _ _=>Stop.mk ?_)))|((with_reducible refine isE 89 (by decide) ?_);refine dR ((1,[]) :: (2,[]) :: (0,[2]) :: (rP 3 6 [] [])) (rgL 89 3 (rgL 93 3 [])) [] ?_)|refine oB ?_|fail)<;>refine sF ?_<;>try with_reducible exact tT))<;>try clear hf
   have m7:Mem.le M6 M7:=m7
   have q5:=g7.n.one
   have q6:=g7.d.one
   refine Stop.go ?_
   (try with_reducible refine Fz.of ?_);have hf:=A11 @scC.eq_1 @sc0.eq_1 @SeV.c.eq_1 @nilE.eq_1 oo p1 p2 p3 q4 q5 q6;refine sF ?_;(repeat' ((first|((with_reducible refine yM ?_);refine kS 41 (fsub_ok g7 (h.d.le (m06.trans m7)) (fun e1 e2 M8 m8 g8 g9 _ _=>Stop.mk ?_)))|((with_reducible refine isE 89 (by decide) ?_);refine dR ((1,[]) :: (2,[]) :: (0,[2]) :: (rP 3 6 [] [])) (rgL 89 3 (rgL 93 3 [])) [] ?_)|refine oB ?_|fail)<;>refine sF ?_<;>try with_reducible exact tT))<;>try clear hf
   have m8:Mem.le M7 M8:=m8
   obtain ⟨b1,b2,b3,b4⟩:=h.do_.sm
   have hsub:=sub_1r (x:=dl.1) (d:=dl.2) b2 b3 b4 (by have:=h.do_.2.1;omega)
   rw[red_okn h.do_,red_okn h.do_.oth]at hsub
   rw[hsub]at g8 g9
   have q7:=g8.one
   have q8:=g9.one
   refine Stop.go ?_
   (try with_reducible refine Fz.of ?_);have hf:=A12 @scC.eq_1 @sc0.eq_1 @SeV.c.eq_1 @nilE.eq_1 hsub oo p1 p2 p3 q4 q5 (A3 q6 q7 q8);refine sF ?_;(repeat' ((first|((with_reducible refine isE 89 (by decide) ?_);refine dR ((1,[]) :: (2,[]) :: (0,[2]) :: (rP 3 6 [] [])) (rgL 89 3 (rgL 93 3 [])) [] ?_)|refine oB ?_|fail)<;>refine sF ?_<;>try with_reducible exact tT))<;>try clear hf
   have hd8:IsZ M8 e1 (dl.2-dl.1):=⟨g8,b4.le (by omega)⟩
   obtain ⟨hX,hx0,hs0⟩:=start_sum h.c h.no h.nl
   have hsx:Sm (lsum (startX l N)*1000000):=(smC (j:=1) (by decide)).le (Nat.mul_le_mul hX (by decide))
   rw[hS]at hs0
   have hXl:(startX l N).length=S.length:=by unfold startX;rw[List.length_map,hS]
   have m68:=m7.trans m8
   have m08:=m06.trans m68
   have hf:=A12 @scC.eq_1 @sc0.eq_1 @SeV.c.eq_1 @nilE.eq_1 oo p1 p2 p3 q4 q5 q6 (A2 q7 q8);refine wS ?_;refine yH 105 ?_;refine sF ?_;refine CallS.borBoxM (cs:=scL v ⟨us,uw,uv,ui,.slice none 0 0,e1,e2,E⟩) (fun U M9 m9 hU=>staA_ok (boxS_of hU) ((g2.le (m46.trans m68)).le m9) ((hW.le m68).le m9) hXl hsl (hsx.le (by omega)) (fun w9 M10 m10 g10 fr=>⟨fun _ _=>rfl,fun M11 m11 k11 _=>sG ?_⟩));all_goals clear hf
   have m9:Mem.le M8 M11:=m11
   have hz9:IsZ M11 w9 (lsum (startX l N)):=by
    rw[show totX (startX l N) S (fun _=>true)=lsum (startX l N) from by unfold totX;rw[filtX_true hXl]]at g10
    exact ⟨g10.l.move (fr.le (Mem.le.refl _)) k11,g10.s⟩
   have q9:=hz9.one
   have hk:=hK ⟨us,uw,uv,ui,w9,e1,e2,E⟩ M11 (m08.trans m9) ⟨(g2.le (m46.trans m68)).le m9,(hW.le m68).le m9,hXl,hsl,hs0,hS8,by rw[hPI];exact (g1.le (m24.trans (m46.trans m68))).le m9,by rw[hPI];exact (hui.le (m46.trans m68)).le m9,hz9,hd8.le m9,⟨g9.le m9,b4⟩,h.c,by have:=h.do_.le1.2;omega,hx0,hsx⟩
   refine wG (A12 @scC.eq_1 @sc0.eq_1 @SeV.c.eq_1 @nilE.eq_1 @scL_ext oo p1 p2 p3 q4 q5 (A4 q6 q7 q8 q9)) ?_
   exact hk
end
end Go.Proofs.YtiipiciemgdaeaaGreat.Sx
namespace Go.Proofs.YtiipiciemgdaeaaGreat.Sx
set_option linter.unusedVariables false
open Go Go.RowKit Go.ChangeShapes Go.WideShapes Go.ChangeAt
section
variable {H:Type}{enc:TypeId×Value→H}{P:Program}{W:World}{base:Nat}{spare:Nat→Bool}{held:Bool}
end
structure RawF (M:Mem) (x:FR):Prop where
 n:IsL M u32V x.u1 x.l1
 d:IsL M u32V x.u2 x.l2
 on:okN x.l1
 od:okN x.l2
 bn:x.l1.length≤140737488351232
 bd:x.l2.length≤140737488351232
section
variable {H:Type}{enc:TypeId×Value→H}{P:Program}{W:World}{base:Nat}{spare:Nat→Bool}{held:Bool}
end
end Go.Proofs.YtiipiciemgdaeaaGreat.Sx
namespace Go.Proofs.YtiipiciemgdaeaaGreat.Sx
open Go Go.RowKit
set_option linter.unusedVariables false
set_option linter.unusedSimpArgs false
set_option maxRecDepth 100000
set_option maxHeartbeats 8000000
attribute [local congr] fin_congr finG_congr stepG_congr step1_congr runOps_congr brv_congr obl_congr condK_congr LoopK_congr seqK_congr CutK_congr vc_congr DrawK_congr regK_congr CallK_congr AskK_congr newK_congr retC_congr ret1_congr retK_congr outV_congr closeK_congr genR_congr appR_congr finD_congr finGD_congr stepGD_congr stepD_congr CallK0_congr runD_congr okR_congr CallS_congr vcX_congr
attribute [local congr] Stop_congr
set_option exponentiation.threshold 5000
theorem cmpN_le1{x y:Nat}(h:decide (cmpN x y≤0)=true):x≤y:=by
 rw[decide_eq_true_eq]at h
 unfold cmpN at h
 (repeat' split at h)<;>omega
theorem cmpN_lt1{x y:Nat}(h:decide (cmpN x y<0)=true):x<y:=by
 rw[decide_eq_true_eq]at h
 unfold cmpN at h
 (repeat' split at h)<;>omega
theorem chkN_1000:chkN (ofN 1000)=true:=chkN_ofN (sm1000 (by decide)).len
theorem chkF_11:chkF (ofN 1) (ofN 1)=true:=by decide +kernel
theorem inn_okn{a b:List Nat}(ha:okN a)(hb:okN b)(h:innF a b=true):∃p:Nat×Nat,OkN p∧(a,b)=opN p:=by
 unfold innF chaF at h
 simp only[Bool.and_eq_true]at h
 obtain ⟨⟨hc,_,h1000⟩,h0,hlt⟩:=h
 obtain ⟨e1,e2,b1,b2,hd,hg⟩:=chkF_ok ha hb hc
 refine ⟨(valN a,valN b),⟨?_,?_,?_,hg⟩,?_⟩
 ·rw[decide_eq_true_eq]at h0
  rcases Nat.eq_zero_or_pos (valN a) with e|e
  ·have:=(nil_iff e1).2 e;omega
  ·exact e
 ·unfold cmpF at hlt
  rw[hc,chkF_11,Bool.and_self,if_pos rfl,valN_ofN,Nat.mul_one,Nat.one_mul]at hlt
  exact cmpN_lt1 hlt
 ·unfold cmpR at h1000
  have hcb:chkN b=true:=by
   unfold chkF at hc
   simp only[Bool.and_eq_true]at hc
   exact hc.1.1.2
  rw[hcb,chkN_1000,Bool.and_self,if_pos rfl,valN_ofN]at h1000
  exact cmpN_le1 h1000
 ·unfold opN
  rw[←e1,←e2]
theorem all_okn:∀{P:List FR},(∀x∈P,okN x.l1∧okN x.l2)→P.all (fun x=>innF x.l1 x.l2)=true→∃N:List (Nat×Nat),P.map prV=N.map opN∧∀p∈N,OkN p
 | [],_,_=>⟨[],rfl,by simp⟩
 | x :: r,hP,h=>by
  rw[List.all_cons,Bool.and_eq_true]at h
  obtain ⟨N,h1,h2⟩:=all_okn (P:=r) (fun y hy=>hP y (List.mem_cons_of_mem _ hy)) h.2
  obtain ⟨h3,h4⟩:=hP x (List.mem_cons_self ..)
  obtain ⟨p,h5,h6⟩:=inn_okn h3 h4 h.1
  refine ⟨p :: N,?_,?_⟩
  ·rw[List.map_cons,List.map_cons,h1,←h6];rfl
  ·intro q hq
   rcases List.mem_cons.1 hq with rfl|hq
   ·exact h5
   ·exact h2 q hq
theorem prod_few{P:List FR}(hP:∀x∈P,okN x.l1∧okN x.l2):P.all (fun x=>innF x.l1 x.l2)=true→P.length≤8→∀s,(prodV 1 1 (facG s 0 P)).1=0:=fun h h8 s=>by
 obtain ⟨N,h1,h2⟩:=all_okn hP h
 exact (newW_red h1 h2 (by have:=congrArg List.length h1;simp at this;omega) s).1
structure NewP (r:BR):Prop where
 chk:∀L:List FR,L.map prV=r.q.map (fun q=>(ofN q.1,ofN q.2))→chkB r.l (r.s.map fun (x:Nat)=>(x:Int)) L=decide (r.e=0)
 l:r.l.length<1000000
 s:r.s.length<1000000
 q:r.q.length<1000000
section
variable {M:Mem}{K:AV→Hp→Mem→Prop}{ur up:Value}{l:List Int}{P:List FR}
end
section
variable {M:Mem}{K:AV→Hp→Mem→Prop}{u1 u2:Value}{l1 l2:List Nat}
theorem cinner_ok(hu:IsF M u1 u2 l1 l2)(hK:∀M',Mem.le M M'→K (.ext (.bool (innF l1 l2))) [] M'):CallS Tryz.prog 83 [.ext (.agg #[u1,u2])] [] M [] K:=by
 refine inlS (cs:=[]) Tryz.mixed Tryz.func83 rfl (by kernel_rfl) 0 rfl rfl ?_
 simp only[Tryz.f83]
 have h1:=hu.n.one
 have h2:=hu.d.one
 have h3:=hu.n.len
 have h4:=hu.n.sl
 unfold innF at hK
 have hf:=A2 h1 h2;refine sF ?_;(repeat' ((first|((with_reducible refine yM ?_);refine kS 126 (cha_ok hu (fun M1 m1=>Stop.mk ?_)))|((with_reducible refine isE 3 (by decide) ?_);refine dR (rP 0 10 [] ((10,[9]) :: (rP 11 4 [] []))) [12,13] [] ?_)|refine oB ?_|fail)<;>refine sF ?_<;>try with_reducible exact tT))<;>try clear hf
 have m1:Mem.le M M1:=m1
 cases hc:chaF l1 l2 with
 | false=>
  rw[hc]at hK
  have hk:=hK M1 m1
  refine wG (A5 h1 h2 h3 h4 hc) ?_
  exact hk
 | true=>
  rw[hc]at hK
  have hu1:=hu.le m1
  rw[←lenI]at hK
  cases hc0:decide ((0:Int)<(l1.length:Int)) with
  | false=>
   rw[hc0]at hK
   have hk:=hK M1 m1
   refine wG (A6 h1 h2 h3 h4 hc hc0) ?_
   exact hk
  | true=>
   rw[hc0]at hK
   have hf:=A6 h1 h2 h3 h4 hc hc0;refine wH ?_;refine kM 62 (whole_ok (fun w1 w2 M2 a1 a2 _ _=>sG ?_));all_goals clear hf
   have a1:Mem.le M1 M2:=a1
   have b2:=a2.n.one
   have b3:=a2.d.one
   have hf:=A6 h1 h2 hc hc0 b2 b3;refine wH ?_;refine kM 26 (fcmp_ok (hu1.le a1) a2 (fun M3 m3=>sG ?_));all_goals clear hf
   have m3:Mem.le M2 M3:=m3
   have hk:=hK M3 (m1.trans (a1.trans m3))
   refine wG (A6 h1 h2 hc hc0 b2 b3) ?_
   exact hk
end
structure SeR (M:Mem) (v:SeV) (l:List Int) (P:List FR) (fl dt d:LP) (u:List Int) (b:List Bool):Prop where
 r:IsL M intV64 v.ur l
 p:IsR M 2 FR.c v.up P
 o:okFL M P
 y:IsF M v.y1 v.y2 fl.1 fl.2
 x:IsF M v.x1 v.x2 dt.1 dt.2
 d:IsF M v.d1 v.d2 d.1 d.2
 lb:l.length<1000000
 pb:P.length<1000000
 q:IsL M intV64 v.uq u
 f:IsL M Value.bool v.uf b
 qb:u.length<1000000
 fb:b.length<1000000
theorem SeR.le{M M':Mem}{v:SeV}{l:List Int}{P:List FR}{fl dt d:LP}{u:List Int}{b:List Bool}(h:SeR M v l P fl dt d u b)(hM:Mem.le M M'):SeR M' v l P fl dt d u b:=
 ⟨h.r.le hM,h.p.le hM,h.o.le hM,h.y.le hM,h.x.le hM,h.d.le hM,h.lb,h.pb,h.q.le hM,h.f.le hM,h.qb,h.fb⟩
theorem SeR.ones{M:Mem}{v:SeV}{l:List Int}{P:List FR}{fl dt d:LP}{u:List Int}{b:List Bool}(h:SeR M v l P fl dt d u b):v.ur.oneCell'=true∧v.up.oneCell'=true∧v.y1.oneCell'=true∧v.y2.oneCell'=true∧v.x1.oneCell'=true∧v.x2.oneCell'=true∧v.d1.oneCell'=true∧v.d2.oneCell'=true∧v.uq.oneCell'=true∧v.uf.oneCell'=true:=
 ⟨h.r.one,h.p.one,h.y.n.one,h.y.d.one,h.x.n.one,h.x.d.one,h.d.n.one,h.d.d.one,h.q.one,h.f.one⟩
def chkC(l:List Int)(P:List FR)(fl dt d:LP)(most:Int):Int:=
 if (newB l P 2).e=0 then (if noiF fl.1 fl.2 dt.1 dt.2 then (if innF d.1 d.2 then (if most<1∨16<most then 3 else 0) else 41) else 1) else (newB l P 2).e
section
variable {M:Mem}{K:AV→Hp→Mem→Prop}{v:SeV}{l u:List Int}{P:List FR}{fl dt d:LP}{b:List Bool}
theorem ccheck_ok(h:SeR M v l P fl dt d u b)(hK:∀M',Mem.le M M'→K (.ext (.int .i64 (chkC l P fl dt d v.most))) [] M'):CallS Tryz.prog 43 [.ext v.v] [] M [] K:=by
 refine inlS (cs:=[]) Tryz.mixed Tryz.func43 rfl (by kernel_rfl) 0 rfl rfl ?_
 simp only[Tryz.f43]
 have oo:=h.ones
 unfold chkC at hK
 have hf:=A2 @SeV.v.eq_1 oo;refine wS ?_;refine kN 81 (pnew_ok 2 h.r h.p h.o h.lb h.pb (prod_few fun x hx=>⟨(h.o x hx).on,(h.o x hx).od⟩) (fun wr ws ww M1 m1 g1 g2 g3=>sG ?_));all_goals clear hf
 have m1:Mem.le M M1:=m1
 have p1:=g1.one
 have p2:=g2.one
 have p3:=g3.one
 by_cases he:(newB l P 2).e=0
 case neg=>
  rw[if_neg he]at hK
  have hk:=hK M1 m1
  have z1:decide ((newB l P 2).e=0)=false:=decide_eq_false he
  refine wG (A5 oo p1 p2 p3 z1) ?_
  exact hk
 rw[if_pos he]at hK
 have h1:=h.le m1
 have hf:=A5 oo p1 p2 p3 he;refine wH ?_;refine kN 82 (noi_ok h1.y h1.x (fun M2 m2=>sG ?_));all_goals clear hf
 have m2:Mem.le M1 M2:=m2
 cases hn:noiF fl.1 fl.2 dt.1 dt.2 with
 | false=>
  rw[hn]at hK
  have hk:=hK M2 (m1.trans m2)
  refine wG (A5 oo p1 p2 p3 hn) ?_
  exact hk
 | true=>
 rw[hn,if_pos rfl]at hK
 have h2:=h1.le m2
 have hf:=A5 oo p1 p2 p3 hn;refine wH ?_;refine kN 83 (cinner_ok h2.d (fun M3 m3=>sG ?_));all_goals clear hf
 have m3:Mem.le M2 M3:=m3
 cases hi:innF d.1 d.2 with
 | false=>
  rw[hi]at hK
  have hk:=hK M3 (m1.trans (m2.trans m3))
  refine wG (A5 oo p1 p2 p3 hi) ?_
  exact hk
 | true=>
 rw[hi,if_pos rfl]at hK
 have hk:=hK M3 (m1.trans (m2.trans m3))
 by_cases z1:v.most<1
 ·rw[if_pos (.inl z1)]at hk
  have z2:decide (v.most<1)=true:=decide_eq_true z1
  refine wG (A6 oo p1 p2 p3 hi z2) ?_
  exact hk
 ·have z2:decide (v.most<1)=false:=decide_eq_false z1
  by_cases z3:16<v.most
  ·rw[if_pos (.inr z3)]at hk
   have z4:decide (16<v.most)=true:=decide_eq_true z3
   refine wG (A7 oo p1 p2 p3 hi z2 z4) ?_
   exact hk
  ·rw[if_neg (fun h=>h.elim z1 z3)]at hk
   have z4:decide (16<v.most)=false:=decide_eq_false z3
   refine wG (A7 oo p1 p2 p3 hi z2 z4) ?_
   exact hk
end
end Go.Proofs.YtiipiciemgdaeaaGreat.Sx
