/- Part 37 of the texts of this claim: a symbolic executor and contracts of functions. -/
import Derived.Test.YtbclgnojcnkehaaGreatPuCRP3
namespace Go.Proofs.YtbclgnojcnkehaaGreat.Sx
open Go Go.RowKit
set_option exponentiation.threshold 5000
def red(x d:Nat):Nat×Nat:=(x / Nat.gcd x d,d / Nat.gcd x d)
def Sm(x:Nat):Prop:=x<2^4000
theorem Sm.le{x y:Nat}(h:Sm x)(hy:y≤x):Sm y:=Nat.lt_of_le_of_lt hy h
theorem Sm.len{x:Nat}(h:Sm x):(ofN x).length≤128:=ofN_len_le (by
 rw[wN_pow2]
 exact Nat.lt_of_lt_of_le h (Nat.pow_le_pow_right (by decide) (by decide)))
structure RedP (x d:Nat):Prop where
 eq:(red x d).1*d=x*(red x d).2
 gcd:Nat.gcd (red x d).1 (red x d).2=1
 pos:0<(red x d).2
 le1:(red x d).1≤x
 le2:(red x d).2≤d
theorem red_p{x d:Nat}(h:0<d):RedP x d:=by
 have hg:0<Nat.gcd x d:=Nat.gcd_pos_of_pos_right _ h
 refine ⟨?_,Nat.gcd_div_gcd_div_gcd_of_pos_right h,Nat.div_pos (Nat.gcd_le_right x h) hg,Nat.div_le_self _ _,Nat.div_le_self _ _⟩
 unfold red
 have h1:=Nat.div_mul_cancel (Nat.gcd_dvd_left x d)
 have h2:=Nat.div_mul_cancel (Nat.gcd_dvd_right x d)
 generalize x / Nat.gcd x d=a at *
 generalize d / Nat.gcd x d=b at *
 generalize Nat.gcd x d=g at *
 subst h1 h2
 grind
theorem red_num{x d:Nat}(h:0<d)(hx:0<x):0<(red x d).1:=by
 have h1:=(red_p (x:=x) h).eq
 rcases Nat.eq_zero_or_pos (red x d).1 with h0|h0
 ·rw[h0,Nat.zero_mul]at h1
  have:=Nat.mul_pos hx (red_p (x:=x) h).pos
  omega
 ·exact h0
theorem chk_of{n d:Nat}(h1:Sm n)(h2:Sm d)(h0:0<d)(hg:Nat.gcd n d=1):chkF (ofN n) (ofN d)=true:=by
 unfold chkF
 rw[chkN_ofN h1.len,chkN_ofN h2.len,valN_ofN,valN_ofN,hg,decide_eq_false (by omega)]
 rfl
theorem chk_red{x d:Nat}(hx:Sm x)(hd:Sm d)(h0:0<d):chkF (ofN (red x d).1) (ofN (red x d).2)=true:=by
 have h:=red_p (x:=x) h0
 exact chk_of (hx.le h.le1) (hd.le h.le2) h.pos h.gcd
theorem ex_red{a b x d:Nat}(hb:0<b)(hd:0<d)(h:a*d=x*b)(hx:Sm x)(hds:Sm d):exF a b=(0,red x d):=by
 have hr:=red_p (x:=x) hd
 have he:a*(red x d).2=(red x d).1*b:=by
  refine Nat.eq_of_mul_eq_mul_right hd ?_
  calc a*(red x d).2*d=(a*d)*(red x d).2:=by grind
   _=x*b*(red x d).2:=by rw[h]
   _=(x*(red x d).2)*b:=by grind
   _=(red x d).1*d*b:=by rw[hr.eq]
   _=(red x d).1*b*d:=by grind
 rw[exF_eq hb hr.pos he hr.gcd (hx.le hr.le1).len (hds.le hr.le2).len]
theorem red_zero{d:Nat}(h:0<d):red 0 d=(0,1):=by
 unfold red
 rw[Nat.gcd_zero_left,Nat.zero_div,Nat.div_self h]
theorem red_self{d:Nat}(h:0<d):red d d=(1,1):=by
 unfold red
 rw[Nat.gcd_self,Nat.div_self h]
theorem add_red{a x d:Nat}(hd:0<d)(hds:Sm d)(hs:Sm (a+x)):addF (ofN (red a d).1) (ofN (red a d).2) (ofN (red x d).1) (ofN (red x d).2)=(0,red (a+x) d):=by
 have h1:=red_p (x:=a) hd
 have h2:=red_p (x:=x) hd
 rw[addF_of (chk_red (hs.le (by omega)) hds hd) (chk_red (hs.le (by omega)) hds hd)]
 refine ex_red (Nat.mul_pos h1.pos h2.pos) hd ?_ hs hds
 have e1:=h1.eq
 have e2:=h2.eq
 generalize (red a d).1=n1 at *
 generalize (red a d).2=d1 at *
 generalize (red x d).1=n2 at *
 generalize (red x d).2=d2 at *
 calc (n1*d2+n2*d1)*d=(n1*d)*d2+(n2*d)*d1:=by grind
  _=a*d1*d2+x*d2*d1:=by rw[e1,e2]
  _=(a+x)*(d1*d2):=by grind
def lsum:List Nat→Nat
 | []=>0
 | x :: r=>x+lsum r
theorem sumG_red{d:Nat}(hd:0<d)(hds:Sm d):∀(X:List Nat) (a:Nat),Sm (a+lsum X)→sumG (red a d).1 (red a d).2 ((X.map fun x=>red x d).map qFR)=(0,red (a+lsum X) d)
 | [],a,_=>rfl
 | x :: r,a,h=>by
  rw[List.map_cons,List.map_cons,sumG_cons]
  have h1:Sm (a+x):=h.le (by rw[lsum];omega)
  have h2:=add_red (a:=a) (x:=x) hd hds h1
  show (if (addF (ofN (red a d).1) (ofN (red a d).2) (ofN (red x d).1) (ofN (red x d).2)).1=0 then _ else _)=_
  rw[show (qFR (red x d)).l1=ofN (red x d).1 from rfl,show (qFR (red x d)).l2=ofN (red x d).2 from rfl,h2,if_pos rfl,sumG_red hd hds r (a+x) (by rw[Nat.add_assoc];exact h),Nat.add_assoc]
  rfl
theorem lsum_mem:∀{X:List Nat} {x:Nat},x∈X→x≤lsum X
 | y :: r,x,h=>by
  rw[lsum]
  rcases List.mem_cons.1 h with h|h
  ·omega
  ·have:=lsum_mem h;omega
theorem sumF_red{d:Nat}(hd:0<d)(hds:Sm d){X:List Nat}(hs:Sm (lsum X)):sumF ((X.map fun x=>red x d).map qFR)=(0,red (lsum X) d):=by
 unfold sumF
 rw[if_pos (by
  rw[List.all_eq_true]
  intro x hx
  obtain ⟨q,hq,rfl⟩:=List.mem_map.1 hx
  obtain ⟨y,hy,rfl⟩:=List.mem_map.1 hq
  exact chk_red (hs.le (lsum_mem hy)) hds hd)]
 have:=sumG_red hd hds X 0 (by rw[Nat.zero_add];exact hs)
 rw[red_zero hd,Nat.zero_add]at this
 exact this
theorem div_red{x s d:Nat}(hd:0<d)(hs0:0<s)(hds:Sm d)(hx:Sm x)(hs:Sm s):divF (ofN (red x d).1) (ofN (red x d).2) (ofN (red s d).1) (ofN (red s d).2)=(0,red x s):=by
 have h1:=red_p (x:=x) hd
 have h2:=red_p (x:=s) hd
 have h3:=red_num hd hs0
 rw[divF_of (chk_red hx hds hd) (chk_red hs hds hd) h3]
 refine ex_red (Nat.mul_pos h3 h1.pos) hs0 ?_ hx hs
 have e1:=h1.eq
 have e2:=h2.eq
 generalize (red x d).1=n1 at *
 generalize (red x d).2=d1 at *
 generalize (red s d).1=n2 at *
 generalize (red s d).2=d2 at *
 refine Nat.eq_of_mul_eq_mul_right hd ?_
 calc n1*d2*s*d=(n1*d)*(s*d2):=by grind
  _=x*d1*(n2*d):=by rw[e1,e2]
  _=x*(n2*d1)*d:=by grind
theorem divG_red{s d:Nat}(hd:0<d)(hs0:0<s)(hds:Sm d)(hs:Sm s):∀(X:List Nat),(∀x∈X,x≤s)→divG (red s d).1 (red s d).2 ((X.map fun x=>red x d).map qFR)=(0,X.map fun x=>red x s)
 | [],_=>rfl
 | x :: r,h=>by
  have ih:=divG_red hd hs0 hds hs r fun y hy=>h y (List.mem_cons_of_mem _ hy)
  have hx:=h x (List.mem_cons_self ..)
  rw[List.map_cons,List.map_cons,divG_cons,ih,show (qFR (red x d)).l1=ofN (red x d).1 from rfl,show (qFR (red x d)).l2=ofN (red x d).2 from rfl,div_red hd hs0 hds (hs.le hx) hs]
  rfl
theorem normQ_red{d:Nat}(hd:0<d)(hds:Sm d){X:List Nat}(hs:Sm (lsum X))(h0:0<lsum X):normQ (X.map fun x=>red x d)=(0,X.map fun x=>red x (lsum X)):=by
 unfold normQ normF
 rw[sumF_red hd hds hs,if_pos rfl]
 exact divG_red hd h0 hds hs X fun x hx=>lsum_mem hx
structure BX (l:List Int) (s:List Nat) (q:List (Nat×Nat)) (b:Nat):Prop where
 cl:chkL l=true
 st:∃m:Int,(m=1∨m=2)∧s=setsL l m
 ex:∃X:List Nat,q=(X.map fun x=>red x (lsum X))∧X.length=s.length∧(∀x∈X,0<x)∧0<lsum X∧lsum X≤b
theorem cmp_11:cmpF (ofN 1) (ofN 1) (ofN 1) (ofN 1)=0:=by decide +kernel
theorem BX.chk{l:List Int}{s:List Nat}{q:List (Nat×Nat)}{b:Nat}(h:BX l s q b)(hb:Sm b){L:List FR}(hL:L.map prV=q.map fun q=>(ofN q.1,ofN q.2)):chkB l (s.map fun (x:Nat)=>(x:Int)) L=true:=by
 obtain ⟨m,hm,hs⟩:=h.st
 obtain ⟨X,hq,hn,hx,h0,hle⟩:=h.ex
 have hsm:=hb.le hle
 have hlq:L.length=q.length:=by have:=congrArg List.length hL;simpa using this
 have hLq:L.map prV=(q.map qFR).map prV:=by rw[hL,List.map_map];rfl
 have h1:chkS l (s.map fun (x:Nat)=>(x:Int))=true:=by
  unfold chkS
  rw[Bool.or_eq_true,decide_eq_true_eq,decide_eq_true_eq,hs]
  rcases hm with rfl|rfl
  ·exact .inl rfl
  ·exact .inr rfl
 have h2:L.all (fun x=>posF x.l1 x.l2)=true:=by
  rw[all_cong posF L _ hLq,hq,List.all_eq_true]
  intro x hx'
  obtain ⟨p,hp,rfl⟩:=List.mem_map.1 hx'
  obtain ⟨y,hy,rfl⟩:=List.mem_map.1 hp
  show posF (ofN (red y (lsum X)).1) (ofN (red y (lsum X)).2)=true
  unfold posF
  rw[chk_red (hsm.le (lsum_mem hy)) hsm h0,Bool.true_and,decide_eq_true_eq]
  have:=red_num h0 (hx y hy)
  rcases Nat.eq_zero_or_pos (ofN (red y (lsum X)).1).length with e|e
  ·have e2:=(nil_iff (l:=ofN (red y (lsum X)).1) (by rw[valN_ofN])).1 e
   rw[valN_ofN]at e2;omega
  ·exact e
 have h3:oneS L=true:=by
  unfold oneS
  rw[sumF_cong hLq,hq,sumF_red h0 hsm hsm,red_self h0,cmp_11]
  rfl
 unfold chkB
 rw[h.cl,h1,h2,h3,List.length_map,hlq,hq,List.length_map,hn,decide_eq_true rfl]
 rfl
structure Cha (a:LP) (n d:Nat):Prop where
 eq:a=(ofN n,ofN d)
 n0:0<n
 lt:n<d
 le:d≤1000
 gcd:Nat.gcd n d=1
theorem sm1000{n:Nat}(h:n≤1000000000000):Sm n:=Nat.lt_of_le_of_lt h (by
 have:2^40≤2^4000:=Nat.pow_le_pow_right (by decide) (by decide)
 omega)
theorem Cha.chk{a:LP}{n d:Nat}(h:Cha a n d):chkF (ofN n) (ofN d)=true:=by
 have:=h.lt
 have:=h.le
 exact chk_of (sm1000 (by omega)) (sm1000 (by omega)) (by omega) h.gcd
theorem gcd_comp{n d:Nat}(h:n≤d)(hg:Nat.gcd n d=1):Nat.gcd (d-n) d=1:=by
 rw[Nat.gcd_comm,Nat.gcd_comm]at *
 have h1:Nat.gcd (d-n) d∣n:=by
  have h2:=Nat.gcd_dvd_left (d-n) d
  have h3:=Nat.gcd_dvd_right (d-n) d
  have:=Nat.dvd_sub h3 h2
  rwa[show d-(d-n)=n by omega]at this
 have h4:Nat.gcd (d-n) d∣Nat.gcd n d:=Nat.dvd_gcd h1 (Nat.gcd_dvd_right _ _)
 first
  | (rw[hg]at h4;exact Nat.dvd_one.1 h4)
  | (rw[Nat.gcd_comm]at hg;rw[hg]at h4;exact Nat.dvd_one.1 h4)
theorem Cha.oth{a:LP}{n d:Nat}(h:Cha a n d):Cha (ofN (othF a.1 a.2).1,ofN (othF a.1 a.2).2) (d-n) d:=by
 have h1:=h.lt
 have h2:=h.le
 have h0:=h.n0
 have hg:=gcd_comp (Nat.le_of_lt h1) h.gcd
 have hs:subF (ofN 1) (ofN 1) (ofN n) (ofN d)=(0,d-n,d):=by
  rw[subF_of (by decide +kernel) h.chk (by omega),Nat.one_mul,Nat.mul_one]
  exact exF_eq (by omega) (by omega) rfl hg (sm1000 (by omega)).len (sm1000 (by omega)).len
 refine ⟨?_,by omega,by omega,h2,hg⟩
 rw[h.eq]
 unfold othF
 rw[hs]
def opN(p:Nat×Nat):LP:=(ofN p.1,ofN p.2)
def OkN(p:Nat×Nat):Prop:=0<p.1∧p.1<p.2∧p.2≤1000∧Nat.gcd p.1 p.2=1
theorem Cha.okn{a:LP}{n d:Nat}(h:Cha a n d):OkN (n,d)∧a=opN (n,d):=⟨⟨h.n0,h.lt,h.le,h.gcd⟩,h.eq⟩
theorem OkN.cha{p:Nat×Nat}(h:OkN p):Cha (opN p) p.1 p.2:=⟨rfl,h.1,h.2.1,h.2.2.1,h.2.2.2⟩
def pn:List (Nat×Nat)→Nat
 | []=>1
 | p :: r=>p.1*pn r
def pd:List (Nat×Nat)→Nat
 | []=>1
 | p :: r=>p.2*pd r
theorem pn_pos:∀{N:List (Nat×Nat)},(∀p∈N,OkN p)→0<pn N
 | [],_=>by decide
 | p :: r,h=>Nat.mul_pos (h p (List.mem_cons_self ..)).1 (pn_pos fun q hq=>h q (List.mem_cons_of_mem _ hq))
theorem pd_pos:∀{N:List (Nat×Nat)},(∀p∈N,OkN p)→0<pd N
 | [],_=>by decide
 | p :: r,h=>Nat.mul_pos (by have:=h p (List.mem_cons_self ..);have:=this.1;have:=(h p (List.mem_cons_self ..)).2.1;omega) (pd_pos fun q hq=>h q (List.mem_cons_of_mem _ hq))
theorem pn_le:∀{N:List (Nat×Nat)},(∀p∈N,OkN p)→pn N≤pd N
 | [],_=>by decide
 | p :: r,h=>Nat.mul_le_mul (Nat.le_of_lt (h p (List.mem_cons_self ..)).2.1) (pn_le fun q hq=>h q (List.mem_cons_of_mem _ hq))
theorem pd_le:∀{N:List (Nat×Nat)},(∀p∈N,OkN p)→pd N≤1000^N.length
 | [],_=>by decide
 | p :: r,h=>by
  rw[pd,List.length_cons,Nat.pow_succ,Nat.mul_comm]
  exact Nat.mul_le_mul (pd_le fun q hq=>h q (List.mem_cons_of_mem _ hq)) (h p (List.mem_cons_self ..)).2.2.1
theorem mul_redN{x d:Nat}{p:Nat×Nat}{y e:Nat}(hp:OkN p)(hd:0<d)(hx:Sm x)(hds:Sm d)(he:0<e)(h:x*p.1*e=y*(d*p.2))(hy:Sm y)(hes:Sm e) :
  mulF (ofN (red x d).1) (ofN (red x d).2) (opN p).1 (opN p).2=(0,red y e):=by
 have h1:=red_p (x:=x) hd
 have h0:=hp.1
 have h2:=hp.2.1
 unfold opN
 rw[mulF_of (chk_red hx hds hd) hp.cha.chk]
 refine ex_red (Nat.mul_pos h1.pos (by omega)) he ?_ hy hes
 have e1:=h1.eq
 generalize (red x d).1=n1 at *
 generalize (red x d).2=d1 at *
 refine Nat.eq_of_mul_eq_mul_right hd ?_
 calc n1*p.1*e*d=(n1*d)*p.1*e:=by grind
  _=(x*p.1*e)*d1:=by rw[e1];grind
  _=y*(d*p.2)*d1:=by rw[h]
  _=y*(d1*p.2)*d:=by grind
theorem prodV_red:∀(N:List (Nat×Nat)) (n d:Nat),(∀p∈N,OkN p)→0<d→Sm (n*pn N)→Sm (d*pd N)→prodV (red n d).1 (red n d).2 (N.map opN)=(0,red (n*pn N) (d*pd N))
 | [],n,d,_,_,_,_=>by rw[pn,pd,Nat.mul_one,Nat.mul_one];rfl
 | p :: r,n,d,h,hd,hn,hs=>by
  have hp:=h p (List.mem_cons_self ..)
  have h0:=hp.1
  have h2:=hp.2.1
  have hr:=fun q hq=>h q (List.mem_cons_of_mem _ hq)
  have p1:=pn_pos hr
  have p2:=pd_pos hr
  rw[pn,←Nat.mul_assoc]at hn
  rw[pd,←Nat.mul_assoc]at hs
  have q1:Sm (n*p.1):=hn.le (Nat.le_mul_of_pos_right _ p1)
  have q2:Sm (d*p.2):=hs.le (Nat.le_mul_of_pos_right _ p2)
  have hm:=mul_redN (x:=n) (d:=d) (y:=n*p.1) (e:=d*p.2) hp hd (q1.le (Nat.le_mul_of_pos_right _ h0)) (q2.le (Nat.le_mul_of_pos_right _ (by omega))) (Nat.mul_pos hd (by omega)) rfl q1 q2
  rw[List.map_cons,prodV,hm,if_pos rfl,prodV_red r _ _ hr (Nat.mul_pos hd (by omega)) hn hs,pn,pd,Nat.mul_assoc,Nat.mul_assoc]
def facN(s:Nat):Nat→List (Nat×Nat)→List (Nat×Nat)
 | _,[]=>[]
 | j,p :: r=>(if s.testBit j then p else (p.2-p.1,p.2)) :: facN s (j+1) r
theorem OkN.oth{p:Nat×Nat}(h:OkN p):OkN (p.2-p.1,p.2):=(h.cha.oth).okn.1
theorem facN_ok(s:Nat):∀(N:List (Nat×Nat)) (j:Nat),(∀p∈N,OkN p)→∀p∈facN s j N,OkN p
 | [],_,_,p,h=>by cases h
 | q :: r,j,hN,p,h=>by
  rw[facN]at h
  rcases List.mem_cons.1 h with h|h
  ·rw[h]
   have:=hN q (List.mem_cons_self ..)
   split
   ·exact this
   ·exact this.oth
  ·exact facN_ok s r (j+1) (fun q hq=>hN q (List.mem_cons_of_mem _ hq)) p h
theorem facN_pd(s:Nat):∀(N:List (Nat×Nat)) (j:Nat),pd (facN s j N)=pd N
 | [],_=>rfl
 | q :: r,j=>by
  rw[facN,pd,pd,facN_pd s r]
  split<;>rfl
theorem facG_N(s:Nat):∀(P:List FR) (N:List (Nat×Nat)) (j:Nat),P.map prV=N.map opN→(∀p∈N,OkN p)→facG s j P=(facN s j N).map opN
 | [],[],_,_,_=>rfl
 | [],_ :: _,_,h,_=>by simp at h
 | _ :: _,[],_,h,_=>by simp at h
 | x :: r,p :: q,j,h,hN=>by
  rw[List.map_cons,List.map_cons,List.cons.injEq]at h
  have hp:=hN p (List.mem_cons_self ..)
  have h1:x.l1=ofN p.1∧x.l2=ofN p.2:=Prod.mk.injEq ..▸h.1
  rw[facG,facN,List.map_cons,facG_N s r q (j+1) h.2 fun q hq=>hN q (List.mem_cons_of_mem _ hq)]
  congr 1
  unfold facE
  split
  ·exact h.1
  ·have:=hp.cha.oth.eq
   rw[h1.1,h1.2]
   exact this
theorem newW_red{P:List FR}{N:List (Nat×Nat)}(h:P.map prV=N.map opN)(hN:∀p∈N,OkN p)(hl:N.length≤8)(s:Nat):(prodV 1 1 (facG s 0 P)).1=0∧newW P s=red (pn (facN s 0 N)) (pd N):=by
 have hok:=facN_ok s N 0 hN
 have h1:pd N≤1000^8:=Nat.le_trans (pd_le hN) (Nat.pow_le_pow_right (by decide) hl)
 have h8:Sm (1000^8):=Nat.lt_of_lt_of_le (show 1000^8<2^100 by decide) (Nat.pow_le_pow_right (by decide) (by decide))
 have h2:=pn_le hok
 rw[facN_pd]at h2
 have hv:=prodV_red (facN s 0 N) 1 1 hok (by decide) (h8.le (by omega)) (h8.le (by rw[facN_pd];omega))
 rw[red_self (by decide),←facG_N s P N 0 h hN,Nat.one_mul,Nat.one_mul,facN_pd]at hv
 refine ⟨by rw[hv],?_⟩
 have hI:=prodV_I _ _ _ (show (prodV 1 1 (facG s 0 P)).1=0 by rw[hv])
 rw[hv]at hI
 exact (congrArg Prod.snd hI).symm
theorem cmpF_N{a b:Nat×Nat}(h1:OkN a)(h2:OkN b):cmpF (ofN a.1) (ofN a.2) (ofN b.1) (ofN b.2)=cmpN (a.1*b.2) (b.1*a.2):=cmpF_of h1.cha.chk h2.cha.chk
theorem cmpF_1{a:Nat×Nat}(h1:OkN a):cmpF (ofN a.1) (ofN a.2) (ofN 1) (ofN 1)=-1:=by
 rw[cmpF_of h1.cha.chk (by decide +kernel),Nat.mul_one,Nat.one_mul]
 exact cmpN_lt h1.2.1
theorem OkN.chaF{a:Nat×Nat}(h:OkN a):chaF (ofN a.1) (ofN a.2)=true:=by
 unfold Sx.chaF
 have h3:=h.2.2.1
 have hl:(ofN a.2).length≤128:=(sm1000 (by omega)).len
 rw[h.cha.chk,cmpF_1 h]
 unfold cmpR
 rw[chkN_ofN hl,chkN_ofN (sm1000 (by decide)).len,valN_ofN,valN_ofN,Bool.and_self,if_pos rfl,cmpN_le (by omega)]
 rfl
theorem ofN_pos'{n:Nat}(h:0<n):decide (0<(ofN n).length)=true:=by
 rw[decide_eq_true_eq]
 rcases Nat.eq_zero_or_pos (ofN n).length with e|e
 ·have e2:=(nil_iff (l:=ofN n) (by rw[valN_ofN])).1 e
  rw[valN_ofN]at e2;omega
 ·exact e
theorem OkN.innF{a:Nat×Nat}(h:OkN a):innF (ofN a.1) (ofN a.2)=true:=by
 unfold Sx.innF
 rw[h.chaF,ofN_pos' h.1,cmpF_1 h]
 rfl
theorem noiF_N{a b:Nat×Nat}(h1:OkN a)(h2:OkN b)(h:a.1*b.2<b.1*a.2):noiF (ofN a.1) (ofN a.2) (ofN b.1) (ofN b.2)=true:=by
 unfold noiF
 rw[h1.chaF,h2.chaF,ofN_pos' h1.1,cmpF_N h1 h2,cmpF_1 h2,cmpN_lt h]
 rfl
theorem setsL_one{l:List Int}{m:Int}(hc:chkL l=true)(hm:m=1∨m=2):1∈setsL l m:=by
 have hl:=chk_len hc
 have he:setsE l m=0:=by
  unfold setsE
  rw[if_pos hc,if_pos]
  rw[decide_eq_true_eq];omega
 unfold setsL
 rw[if_pos he]
 unfold hyps hypTo
 rw[List.mem_filter,List.mem_range]
 have h2:2^1≤2^l.length:=Nat.pow_le_pow_right (by decide) hl.1
 exact ⟨by omega,by rcases hm with rfl|rfl<;>rfl⟩
theorem setsL_len{l:List Int}{m:Int}(hc:chkL l=true):(setsL l m).length≤256:=by
 unfold setsL
 split
 ·have:=hypTo_len m.toNat (2^l.length)
  have h2:2^l.length≤2^8:=Nat.pow_le_pow_right (by decide) (chk_len hc).2
  unfold hyps
  omega
 ·exact Nat.zero_le _
theorem lsum_le{b:Nat}:∀{X:List Nat},(∀x∈X,x≤b)→lsum X≤X.length*b
 | [],_=>Nat.zero_le _
 | x :: r,h=>by
  rw[lsum,List.length_cons,Nat.succ_mul]
  have:=h x (List.mem_cons_self ..)
  have:=lsum_le (b:=b) fun y hy=>h y (List.mem_cons_of_mem _ hy)
  omega
def b0:Nat:=256*1000^8
theorem newB_law{l:List Int}{P:List FR}{N:List (Nat×Nat)}{m:Int}(hc:chkL l=true)(hm:m=1∨m=2)(hl:P.length=l.length)(h:P.map prV=N.map opN)(hN:∀p∈N,OkN p) :
  ∃q,newB l P m=⟨0,l,setsL l m,q⟩∧BX l (setsL l m) q b0:=by
 have hnl:N.length=P.length:=by have:=congrArg List.length h;simpa using this.symm
 have hl8:=(chk_len hc).2
 have he:setsE l m=0:=by
  unfold setsE
  rw[if_pos hc,if_pos]
  rw[decide_eq_true_eq];omega
 have hin:P.all (fun x=>innF x.l1 x.l2)=true:=by
  rw[List.all_eq_true]
  intro x hx
  have:prV x∈N.map opN:=by rw[←h];exact List.mem_map_of_mem hx
  obtain ⟨p,hp,e⟩:=List.mem_map.1 this
  have h1:ofN p.1=x.l1∧ofN p.2=x.l2:=Prod.mk.injEq ..▸e
  rw[←h1.1,←h1.2]
  exact (hN p hp).innF
 have hw:(setsL l m).map (newW P)=((setsL l m).map fun s=>pn (facN s 0 N)).map fun x=>red x (pd N):=by
  rw[List.map_map]
  exact List.map_congr_left fun s _=>(newW_red h hN (by omega) s).2
 have h1:pd N≤1000^8:=Nat.le_trans (pd_le hN) (Nat.pow_le_pow_right (by decide) (by omega))
 have hb:lsum ((setsL l m).map fun s=>pn (facN s 0 N))≤b0:=by
  refine Nat.le_trans (lsum_le (b:=1000^8) fun x hx=>?_) ?_
  ·obtain ⟨s,_,rfl⟩:=List.mem_map.1 hx
   have h2:=pn_le (facN_ok s N 0 hN)
   rw[facN_pd]at h2
   omega
  ·rw[List.length_map]
   exact Nat.mul_le_mul_right _ (setsL_len hc)
 have hbs:Sm b0:=Nat.lt_of_lt_of_le (show 256*1000^8<2^100 by decide) (Nat.pow_le_pow_right (by decide) (by decide))
 have hpos:∀x∈(setsL l m).map fun s=>pn (facN s 0 N),0<x:=fun x hx=>by
  obtain ⟨s,_,rfl⟩:=List.mem_map.1 hx
  exact pn_pos (facN_ok s N 0 hN)
 have h0:0<lsum ((setsL l m).map fun s=>pn (facN s 0 N)):=by
  have hx:pn (facN 1 0 N)∈(setsL l m).map fun s=>pn (facN s 0 N):=List.mem_map.2 ⟨1,setsL_one hc hm,rfl⟩
  exact Nat.lt_of_lt_of_le (hpos _ hx) (lsum_mem hx)
 have hpd:=pd_pos hN
 refine ⟨_,?_,⟨hc,⟨m,hm,rfl⟩,⟨_,rfl,List.length_map ..,hpos,h0,hb⟩⟩⟩
 unfold newB
 rw[if_pos he,if_pos hl,if_pos hin,hw,normQ_red hpd (hbs.le (Nat.le_trans h1 (by decide))) (hbs.le hb) h0]
 rfl
def mulX(eff:Nat)(f g:Nat×Nat):List Nat→List Nat→List Nat
 | x :: r,s :: t=>(if eff &&& s=0 then x*f.1*g.2 else x*g.1*f.2) :: mulX eff f g r t
 | _,_=>[]
theorem mulX_len{eff:Nat}{f g:Nat×Nat}:∀{X S:List Nat},X.length=S.length→(mulX eff f g X S).length=S.length
 | [],[],_=>rfl
 | x :: r,s :: t,h=>by rw[mulX,List.length_cons,List.length_cons,mulX_len (by simpa using h)]
theorem mulX_pos{eff:Nat}{f g:Nat×Nat}(hf:OkN f)(hg:OkN g):∀{X S:List Nat},(∀x∈X,0<x)→∀y∈mulX eff f g X S,0<y
 | [],_,_,y,h=>by rw[mulX]at h;cases h;simp
 | _ :: _,[],_,y,h=>by rw[mulX]at h;cases h;simp
 | x :: r,s :: t,hX,y,h=>by
  rw[mulX]at h
  have hx:=hX x (List.mem_cons_self ..)
  have f1:=hf.1
  have f2:=hf.2.1
  have g1:=hg.1
  have g2:=hg.2.1
  rcases List.mem_cons.1 h with h|h
  ·rw[h]
   split
   ·exact Nat.mul_pos (Nat.mul_pos hx f1) (by omega)
   ·exact Nat.mul_pos (Nat.mul_pos hx g1) (by omega)
  ·exact mulX_pos hf hg (fun z hz=>hX z (List.mem_cons_of_mem _ hz)) y h
theorem OkN.le1{f:Nat×Nat}(h:OkN f):f.1≤1000∧f.2≤1000:=⟨by have:=h.2.1;have:=h.2.2.1;omega,h.2.2.1⟩
theorem mul_le6{x a b:Nat}(ha:a≤1000)(hb:b≤1000):x*a*b≤x*1000000:=by
 rw[Nat.mul_assoc]
 exact Nat.mul_le_mul_left _ (Nat.le_trans (Nat.mul_le_mul ha hb) (by decide))
theorem mulX_le{eff:Nat}{f g:Nat×Nat}(hf:OkN f)(hg:OkN g):∀{X S:List Nat},lsum (mulX eff f g X S)≤lsum X*1000000
 | [],_=>by rw[mulX]<;>simp[lsum]
 | _ :: _,[]=>by rw[mulX]<;>simp[lsum]
 | x :: r,s :: t=>by
  rw[mulX,lsum,lsum,Nat.add_mul]
  have ih:=mulX_le (eff:=eff) hf hg (X:=r) (S:=t)
  have h1:=mul_le6 (x:=x) hf.le1.1 hg.le1.2
  have h2:=mul_le6 (x:=x) hg.le1.1 hf.le1.2
  split<;>omega
theorem updL_law{eff s0:Nat}{f g:Nat×Nat}(hf:OkN f)(hg:OkN g)(h0:0<s0)(hsm:Sm (s0*1000000)):∀(X S:List Nat) (L:List FR),X.length=S.length→(∀x∈X,x≤s0)→L.map prV=(X.map fun x=>red x s0).map (fun q=>(ofN q.1,ofN q.2))→
  updL L S eff (opN f) (opN g)=(0,(mulX eff f g X S).map fun x=>red x (s0*f.2*g.2))
 | [],[],[],_,_,_=>rfl
 | [],[],_ :: _,_,_,h=>by simp at h
 | _ :: _,_,[],_,_,h=>by simp at h
 | [],_ :: _,_,h,_,_=>by simp at h
 | _ :: _,[],_,h,_,_=>by simp at h
 | x :: r,s :: t,y :: L,hl,hX,h=>by
  have f1:=hf.1
  have f2:=hf.2.1
  have g1:=hg.1
  have g2:=hg.2.1
  rw[List.map_cons,List.map_cons,List.map_cons,List.cons.injEq]at h
  have h1:y.l1=ofN (red x s0).1∧y.l2=ofN (red x s0).2:=Prod.mk.injEq ..▸h.1
  have ih:=updL_law (eff:=eff) hf hg h0 hsm r t L (by simpa using hl) (fun z hz=>hX z (List.mem_cons_of_mem _ hz)) h.2
  have hx:=hX x (List.mem_cons_self ..)
  have hs0:Sm s0:=hsm.le (by omega)
  have he:Sm (s0*f.2*g.2):=hsm.le (mul_le6 hf.le1.2 hg.le1.2)
  have he0:0<s0*f.2*g.2:=Nat.mul_pos (Nat.mul_pos h0 (by omega)) (by omega)
  unfold updL at ih ⊢
  rw[List.zip_cons_cons,mapG_cons,ih,mulX,List.map_cons]
  have key:updF eff (opN f) (opN g) (y,s)=(0,red (if eff &&& s=0 then x*f.1*g.2 else x*g.1*f.2) (s0*f.2*g.2)):=by
   unfold updF facU
   simp only[h1.1,h1.2]
   have hxs:x*1000000≤s0*1000000:=Nat.mul_le_mul_right _ hx
   split
   ·exact mul_redN hf h0 (hs0.le hx) hs0 he0 (by grind) (hsm.le (Nat.le_trans (mul_le6 hf.le1.1 hg.le1.2) hxs)) he
   ·exact mul_redN hg h0 (hs0.le hx) hs0 he0 (by grind) (hsm.le (Nat.le_trans (mul_le6 hg.le1.1 hf.le1.2) hxs)) he
  rw[key]
  rfl
theorem upd_law{l:List Int}{s:List Nat}{q:List (Nat×Nat)}{b eff:Nat}{f g:Nat×Nat}{L:List FR}(h:BX l s q b)(hf:OkN f)(hg:OkN g)(hb:Sm (b*1000000))(hL:L.map prV=q.map fun q=>(ofN q.1,ofN q.2)) :
  ∃q',thenN l s (updL L s eff (opN f) (opN g))=⟨0,l,s,q'⟩∧BX l s q' (b*1000000):=by
 obtain ⟨X,hq,hn,hx,h0,hle⟩:=h.ex
 have hs:Sm (lsum X*1000000):=hb.le (Nat.mul_le_mul_right _ hle)
 rw[hq]at hL
 have hu:=updL_law (eff:=eff) hf hg h0 hs X s L hn (fun x hx=>lsum_mem hx) hL
 have hpos:=mulX_pos (eff:=eff) (S:=s) hf hg hx
 have hmle:=mulX_le (eff:=eff) hf hg (X:=X) (S:=s)
 have hml:=mulX_len (eff:=eff) (f:=f) (g:=g) hn
 have hne:0<(mulX eff f g X s).length:=by
  rw[hml,←hn]
  cases X with
  | nil=>exact absurd h0 (by decide)
  | cons x r=>simp
 have h0':0<lsum (mulX eff f g X s):=by
  cases hm:mulX eff f g X s with
  | nil=>rw[hm]at hne;exact absurd hne (by decide)
  | cons y r=>
   have:=hpos y (by rw[hm];exact List.mem_cons_self ..)
   rw[lsum];omega
 have f1:=hf.1
 have f2:=hf.2.1
 have g2:=hg.2.1
 have he0:0<lsum X*f.2*g.2:=Nat.mul_pos (Nat.mul_pos h0 (by omega)) (by omega)
 refine ⟨_,?_,⟨h.cl,h.st,⟨_,rfl,hml,hpos,h0',Nat.le_trans hmle (Nat.mul_le_mul_right _ hle)⟩⟩⟩
 unfold thenN
 rw[hu,if_pos rfl,normQ_red he0 (hs.le (mul_le6 hf.le1.2 hg.le1.2)) (hs.le hmle) h0']
 rfl
def outN(failed:Bool)(a:Nat×Nat):Nat×Nat:=if failed then a else (a.2-a.1,a.2)
theorem outF_N{failed:Bool}{a:Nat×Nat}(h:OkN a):outF failed (opN a)=opN (outN failed a):=by
 cases failed with
 | true=>rfl
 | false=>exact h.cha.oth.eq
theorem OkN.out{failed:Bool}{a:Nat×Nat}(h:OkN a):OkN (outN failed a):=by
 cases failed with
 | true=>exact h
 | false=>exact h.oth
theorem updL_cong{eff:Nat}{fl dt:LP}:∀(L L':List FR) (S:List Nat),L.map prV=L'.map prV→updL L S eff fl dt=updL L' S eff fl dt
 | [],[],_,_=>rfl
 | [],_ :: _,_,h=>by simp at h
 | _ :: _,[],_,h=>by simp at h
 | _ :: _,_ :: _,[],_=>rfl
 | x :: r,y :: t,s :: S,h=>by
  rw[List.map_cons,List.map_cons,List.cons.injEq]at h
  have h1:x.l1=y.l1∧x.l2=y.l2:=Prod.mk.injEq ..▸h.1
  have ih:=updL_cong (eff:=eff) (fl:=fl) (dt:=dt) r t S h.2
  unfold updL at ih ⊢
  rw[List.zip_cons_cons,List.zip_cons_cons,mapG_cons,mapG_cons,ih]
  unfold updF
  simp only[h1.1,h1.2]
theorem toN_map(s:List Nat):toN (s.map fun (x:Nat)=>(x:Int))=s:=by
 unfold toN
 rw[List.map_map]
 exact List.map_id'' (fun x=>rfl) _
theorem BX.mono{l:List Int}{s:List Nat}{q:List (Nat×Nat)}{b c:Nat}(h:BX l s q b)(hc:b≤c):BX l s q c:=by
 obtain ⟨X,h1,h2,h3,h4,h5⟩:=h.ex
 exact ⟨h.cl,h.st,X,h1,h2,h3,h4,Nat.le_trans h5 hc⟩
theorem BX.upd{l:List Int}{s:List Nat}{q:List (Nat×Nat)}{b:Nat}{f g:Nat×Nat}{pool:Int}{failed:Bool}(h:BX l s q b)(hf:OkN f)(hg:OkN g)(hfg:f.1*g.2<g.1*f.2)(hb:Sm (b*1000000))(hp:setB l pool=true) :
  ∃q',BX l s q' (b*1000000)∧∀L:List FR,L.map prV=q.map (fun q=>(ofN q.1,ofN q.2))→updB l (s.map fun (x:Nat)=>(x:Int)) L (opN f) (opN g) pool failed=⟨0,l,s,q'⟩:=by
 have hc:(q.map qFR).map prV=q.map fun q=>(ofN q.1,ofN q.2):=by rw[List.map_map];rfl
 obtain ⟨q',h1,h2⟩:=upd_law (eff:=effN l pool.toNat) h (hf.out (failed:=failed)) (hg.out (failed:=failed)) hb hc
 refine ⟨q',h2,fun L hL=>?_⟩
 have hk:=h.chk (hb.le (by omega)) hL
 have hn:noiF (opN f).1 (opN f).2 (opN g).1 (opN g).2=true:=noiF_N hf hg hfg
 unfold updB
 rw[hk,hn,Bool.and_self,if_pos rfl,if_pos hp,toN_map,outF_N hf,outF_N hg,updL_cong L (q.map qFR) s (hL.trans hc.symm),h1]
theorem BX.len{l:List Int}{s:List Nat}{q:List (Nat×Nat)}{b:Nat}(h:BX l s q b):l.length≤8∧s.length≤256∧q.length=s.length∧(∀x∈s,x<256):=by
 obtain ⟨m,hm,rfl⟩:=h.st
 obtain ⟨X,h1,h2,_⟩:=h.ex
 refine ⟨(chk_len h.cl).2,setsL_len h.cl,by rw[h1,List.length_map,h2],fun x hx=>?_⟩
 have:=(hI_ok h.cl m).2 x
 rw[toN_hI]at this
 exact this hx
theorem smB{j:Nat}(h:j≤10):Sm (b0*1000000^j):=by
 have h1:1000000^j≤1000000^10:=Nat.pow_le_pow_right (by decide) h
 have h2:b0*1000000^j≤b0*1000000^10:=Nat.mul_le_mul_left _ h1
 exact Nat.lt_of_le_of_lt h2 (Nat.lt_of_lt_of_le (show b0*1000000^10<2^400 by decide) (Nat.pow_le_pow_right (by decide) (by decide)))
theorem setB_of{l:List Int}{x:Int}(h0:0≤x)(h:x<((2^l.length:Nat):Int)):setB l x=true:=by
 unfold setB
 rw[decide_eq_true_eq]
 refine ⟨h0,?_⟩
 have e:((2^l.length:Nat):Int)=2^l.length:=by simp
 rw[←e];exact h
def qX(X:List Nat):List (Nat×Nat):=X.map fun x=>red x (lsum X)
structure PX (s X:List Nat) (b:Nat):Prop where
 len:X.length=s.length
 pos:∀x∈X,0<x
 sum:0<lsum X
 le:lsum X≤b
theorem PX.bx{l:List Int}{s X:List Nat}{b:Nat}(h:PX s X b)(hc:chkL l=true)(hs:∃m:Int,(m=1∨m=2)∧s=setsL l m):BX l s (qX X) b:=⟨hc,hs,X,rfl,h.len,h.pos,h.sum,h.le⟩
theorem BX.px{l:List Int}{s:List Nat}{q:List (Nat×Nat)}{b:Nat}(h:BX l s q b):∃X,q=qX X∧PX s X b:=by
 obtain ⟨X,h1,h2,h3,h4,h5⟩:=h.ex
 exact ⟨X,h1,h2,h3,h4,h5⟩
theorem PX.upd{s X:List Nat}{b eff:Nat}{f g:Nat×Nat}(h:PX s X b)(hf:OkN f)(hg:OkN g):PX s (mulX eff f g X s) (b*1000000):=by
 have hpos:=mulX_pos (eff:=eff) (S:=s) hf hg h.pos
 have hml:=mulX_len (eff:=eff) (f:=f) (g:=g) h.len
 refine ⟨hml,hpos,?_,Nat.le_trans (mulX_le (eff:=eff) hf hg (X:=X) (S:=s)) (Nat.mul_le_mul_right _ h.le)⟩
 have hne:0<(mulX eff f g X s).length:=by
  rw[hml,←h.len]
  have:=h.sum
  cases X with
  | nil=>exact absurd this (by decide)
  | cons x r=>simp
 cases hm:mulX eff f g X s with
 | nil=>rw[hm]at hne;exact absurd hne (by decide)
 | cons y r=>
  have:=hpos y (by rw[hm];exact List.mem_cons_self ..)
  rw[lsum];omega
theorem PX.then{l:List Int}{s X:List Nat}{b eff:Nat}{f g:Nat×Nat}{L:List FR}(h:PX s X b)(hf:OkN f)(hg:OkN g)(hb:Sm (b*1000000))(hL:L.map prV=(qX X).map fun q=>(ofN q.1,ofN q.2)) :
  thenN l s (updL L s eff (opN f) (opN g))=⟨0,l,s,qX (mulX eff f g X s)⟩:=by
 have hs:Sm (lsum X*1000000):=hb.le (Nat.mul_le_mul_right _ h.le)
 have hu:=updL_law (eff:=eff) hf hg h.sum hs X s L h.len (fun x hx=>lsum_mem hx) hL
 have hn:=h.upd (eff:=eff) hf hg
 have f1:=hf.1
 have f2:=hf.2.1
 have g2:=hg.2.1
 have he0:0<lsum X*f.2*g.2:=Nat.mul_pos (Nat.mul_pos h.sum (by omega)) (by omega)
 unfold thenN
 rw[hu,if_pos rfl,normQ_red he0 (hs.le (mul_le6 hf.le1.2 hg.le1.2)) (hb.le hn.le) hn.sum]
 rfl
theorem PX.updB{l:List Int}{s X:List Nat}{b:Nat}{f g:Nat×Nat}{pool:Int}{failed:Bool}{L:List FR}(h:PX s X b)(hc:chkL l=true)(hm:∃m:Int,(m=1∨m=2)∧s=setsL l m)(hf:OkN f)(hg:OkN g)(hfg:f.1*g.2<g.1*f.2)(hb:Sm (b*1000000))(hp:setB l pool=true)
  (hL:L.map prV=(qX X).map fun q=>(ofN q.1,ofN q.2)) :
  Sx.updB l (s.map fun (x:Nat)=>(x:Int)) L (opN f) (opN g) pool failed=⟨0,l,s,qX (mulX (effN l pool.toNat) (outN failed f) (outN failed g) X s)⟩:=by
 have hk:=(h.bx hc hm).chk (hb.le (by omega)) hL
 have hn:noiF (opN f).1 (opN f).2 (opN g).1 (opN g).2=true:=noiF_N hf hg hfg
 unfold Sx.updB
 rw[hk,hn,Bool.and_self,if_pos rfl,if_pos hp,toN_map,outF_N hf,outF_N hg]
 exact h.then hf.out hg.out hb hL
set_option linter.unusedVariables false
set_option linter.unusedSimpArgs false
set_option maxRecDepth 100000
set_option maxHeartbeats 8000000
attribute [local congr] fin_congr finG_congr stepG_congr step1_congr runOps_congr brv_congr obl_congr condK_congr LoopK_congr seqK_congr CutK_congr vc_congr DrawK_congr regK_congr CallK_congr AskK_congr newK_congr retC_congr ret1_congr retK_congr outV_congr closeK_congr genR_congr appR_congr finD_congr finGD_congr stepGD_congr stepD_congr CallK0_congr runD_congr okR_congr CallS_congr vcX_congr
theorem le_nilC{s:St}(j k:Nat)(T T':TypeId)(zz:Nat)(h1:lkH s.hp j=some (T,[.ext (.slice none 0 0)]))(h2:awayP k s):Le s {env:=s.env,hp:=(k,T',[]) :: upH s.hp j [.slo k 0 0 zz],M:=s.M,kb:=s.kb,fx:=s.fx,fr:=s.fr}:=fun c n ρ av w g=>by
 have hlk:∀i x,lkH ((k,T',[]) :: upH s.hp j [.slo k 0 0 zz]) i=some x→(i=k∧x=(T',[]))∨(i≠k∧((i=j∧x=(T,[.slo k 0 0 zz]))∨(i≠j∧lkH s.hp i=some x))):=fun i x hi=>by
  by_cases e:k=i
  ·subst e;simp[lkH]at hi;exact .inl ⟨rfl,hi.symm⟩
  ·simp only[lkH,if_neg e,lkH_upH]at hi
   refine .inr ⟨fun e2=>e e2.symm,?_⟩
   by_cases e2:j=i
   ·subst e2;rw[if_pos rfl,h1]at hi;simp at hi;exact .inl ⟨rfl,hi.symm⟩
   ·rw[if_neg e2]at hi;exact .inr ⟨fun e3=>e2 e3.symm,hi⟩
 have hsome:∀i x,lkH ((k,T',[]) :: upH s.hp j [.slo k 0 0 zz]) i=some x→i≠k→(lkH s.hp i).isSome=true:=fun i x hi hne=>by
  rcases hlk i x hi with ⟨e,_⟩|⟨_,⟨rfl,_⟩|⟨_,h⟩⟩
  ·exact absurd e hne
  ·rw[h1];rfl
  ·rw[h];rfl
 refine ⟨upd ρ k none,{df:=g.df,sz:=g.sz,env:=fun t=>is_upd (awayP_env h2 t) (g.env t),hp:=fun i T2 cs b hi hb=>?_,no:=fun i T2 cs hi hb=>?_,inj:=fun i i' b b' hi hi' hb hb' e=>?_,os:=g.os,tape:=g.tape,output:=g.output,size:=g.size,block:=g.block,sub:=g.sub,le:=g.le,mf:=g.mf,fix:=fun i hi=>?_,fx:=fun i hi=>?_,kl:=g.kl,fr:=g.fr}⟩
 ·rcases hlk i _ hi with ⟨rfl,hx⟩|⟨hne,⟨rfl,hx⟩|⟨hnj,hx⟩⟩
  ·rw[upd_self]at hb;cases hb
  ·rw[upd_ne _ _ hne]at hb
   cases hx
   obtain ⟨⟨arr,f1⟩,f2⟩:=g.hp i T _ b h1 hb
   refine ⟨⟨arr,f1.there,f1.size,f1.le,fun q v hv=>?_⟩,f2⟩
   cases q with
   | zero=>
    simp at hv;subst hv
    exact .inr ⟨rfl,none,(fun x e=>by cases e),f1.is 0 _ rfl⟩
   | succ q=>simp at hv
  ·rw[upd_ne _ _ hne]at hb
   obtain ⟨⟨arr,f1⟩,f2⟩:=g.hp i T2 cs b hx hb
   exact ⟨⟨arr,f1.there,f1.size,f1.le,fun q v hv=>is_upd (fun hm=>(awayP_hp h2 i T2 cs hx).2 (mentL_get hv hm)) (f1.is q v hv)⟩,f2⟩
 ·rcases hlk i _ hi with ⟨rfl,hx⟩|⟨hne,⟨rfl,hx⟩|⟨hnj,hx⟩⟩
  ·cases hx;rfl
  ·rw[upd_ne _ _ hne]at hb
   have:=g.no i T _ h1 hb
   cases this
  ·rw[upd_ne _ _ hne]at hb;exact g.no i T2 cs hx hb
 ·obtain ⟨x,hx⟩:=Option.isSome_iff_exists.1 hi
  obtain ⟨x',hx'⟩:=Option.isSome_iff_exists.1 hi'
  have hne:i≠k:=fun e=>by subst e;rw[upd_self]at hb;cases hb
  have hne':i'≠k:=fun e=>by subst e;rw[upd_self]at hb';cases hb'
  rw[upd_ne _ _ hne]at hb
  rw[upd_ne _ _ hne']at hb'
  exact g.inj i i' b b' (hsome i x hx hne) (hsome i' x' hx' hne') hb hb' e
 ·simp only[lkH,lkH_upH]
  split
  ·rfl
  ·split
   ·rename_i e;subst e;rw[h1];rfl
   ·exact g.fix i hi
 ·rw[upd_ne _ _ fun e=>awayP_fx h2 (by rw[←e];exact hi)];exact g.fx i hi
section
variable {M:Mem}{K:AV→Hp→Mem→Prop}
def plnSt(M:Mem)(n i m:Nat)(L:List Int):St:={env:=[(4,.ext (.int .i64 (i:Int))),(3,.own 3 0),(2,.own 2 0),(0,.ext (.int .i64 (n:Int)))],hp:=[(190,3,cE intV64 L),(3,33,[.slo 190 0 m 1]),(2,33,[.ext (.slice none 0 0)])],M:=M,kb:=0,fx:=[]}
theorem repl_succ(i:Nat):List.replicate (i+1) (-1:Int)=List.replicate i (-1)++[-1]:=by rw[List.replicate_succ']
theorem plain_own(n:Nat)(hn:n≤100)(hK:K (.ag false [.slo 190 0 n 1]) [(190,3,cE intV64 (List.replicate n (-1)))] M):CallS Tryz.prog 42 [.ext (.int .i64 (n:Int))] [] M [] K:=by
 refine inlS (cs:=[]) Tryz.mixed Tryz.func42 rfl (by kernel_rfl) 0 rfl rfl ?_
 simp only[Tryz.f42]
 refine sU ?_;(repeat' ((first|refine oB ?_|fail)<;>refine sU ?_<;>try with_reducible exact tT))
 refine ⟨fun d z=>∃i m,i≤n∧m=i∧d=n-i∧z=plnSt M n i m (List.replicate i (-1)),⟨n,plnSt M n 0 0 [],(le_nilC 3 190 33 3 1 rfl (.inl rfl)).trans (le_sub ⟨rfl,rfl,rfl,rfl,trivial⟩ ⟨rfl,rfl,rfl,trivial⟩ rfl rfl rfl (keepLt0 _)),⟨0,0,by omega,rfl,by omega,rfl⟩⟩,?_⟩
 rintro d z ⟨i,m,hi,hm,rfl,rfl⟩
 by_cases hlt:i<n
 ·have d1:decide ((i:Int)<(n:Int))=true:=by simp;omega
  have hw:IntKind.i64.wrap ((i:Int)+1)=((i+1:Nat):Int):=by rw[wrap_id (by omega) (by omega)];omega
  have hlen:(cE intV64 (List.replicate i (-1))).length=m:=by rw[cE_len,List.length_replicate];exact hm.symm
  have hsn:cE intV64 (List.replicate i (-1))++[.ext (.int .i64 (-1))]=cE intV64 (List.replicate (i+1) (-1)):=by
   rw[repl_succ];exact cE_snoc intV64 _ (-1)
  have hkl:killL 190 (cE intV64 (List.replicate i (-1)))=cE intV64 (List.replicate i (-1)):=by
   unfold cE
   generalize (List.replicate i (-1)).map intV64=vs
   induction vs with
   | nil=>rfl
   | cons a t ih=>simp only[List.map_cons,killL,AV.kill,ih]
  have hf:=A7 d1 hw hlen hsn @cE_ment @hasK_nil @plnSt.eq_1;refine sF ?_;(repeat' ((first|refine oB ?_|fail)<;>refine sF ?_<;>try with_reducible exact tT))<;>try clear hf
  exact ⟨n-(i+1),plnSt M n (i+1) (m+1) (List.replicate (i+1) (-1)),by omega,le_sub ⟨rfl,rfl,rfl,rfl,trivial⟩ ⟨rfl,rfl,rfl,trivial⟩ rfl rfl rfl (keepLt0 _),i+1,m+1,by omega,by omega,rfl,rfl⟩
 ·have d1:decide ((i:Int)<(n:Int))=false:=by simp;omega
  have ei:i=n:=by omega
  subst ei
  subst hm
  have hf:=A4 d1 @cE_ment @hasK_nil @plnSt.eq_1;refine sF ?_;(repeat' ((first|refine oB ?_|fail)<;>refine sF ?_<;>try with_reducible exact tT))<;>try clear hf
  exact hK
end
attribute [local congr] Stop_congr
theorem redN_ok{n d:Nat}(h0:0<n)(h:n<d)(hd:d≤1000):OkN (red n d):=by
 have hp:=red_p (x:=n) (d:=d) (by omega)
 refine ⟨red_num (by omega) h0,?_,Nat.le_trans hp.le2 hd,hp.gcd⟩
 unfold red
 exact low_lt h
theorem two_lt{n n2 y a b c d:Nat}(h:n<n2)(hy:0<y)(e1:a*y=n*b)(e2:c*y=n2*d)(hb:0<b)(hd:0<d):a*d<c*b:=by
 refine Nat.lt_of_mul_lt_mul_right (a:=y) ?_
 calc a*d*y=n*b*d:=by rw[←e1];grind
  _=n*(b*d):=by grind
  _<n2*(b*d):=Nat.mul_lt_mul_of_pos_right h (Nat.mul_pos hb hd)
  _=n2*d*b:=by grind
  _=c*b*y:=by rw[←e2];grind
section
variable {M:Mem}{K:AV→Hp→Mem→Prop}
theorem pick9k38_ok(u:Value)(l:List Int)(p:Nat)(L:List Int)(hL:L.length=9)(hu:IsL M intV64 u l)(hp:p<1000000)(hK:∀x∈L,K (.ext (.int .i64 x)) [(38,31,[.ext u,.ext (.int .i64 ((p+1:Nat):Int))]),(105,3,cE intV64 L)] M) :
  CallS Tryz.prog 94 [.own 38 0,.slo 105 0 9 1] [(105,3,cE intV64 L),(38,31,[.ext u,.ext (.int .i64 ((p:Nat):Int))])] M [] K:=by
 refine inlS (cs:=[]) Tryz.mixed Tryz.func94 rfl (by kernel_rfl) 200 rfl rfl ?_
 simp only[Tryz.f94]
 have hf:=A6 @cE_ment @cE_len @cE_kill @hasK_nil @Nat.mul_one hu.one;refine sF ?_;(repeat' ((first|((with_reducible first|refine yA ?_|refine yC ?_);first|refine kH 14 ?_|refine kS 14 (nextI_ok 38 u l p 9 hu (by omega) (by omega) (by omega) (fun x hx0 hx1=>Stop.mk ?_)))|refine oB ?_|fail)<;>refine sF ?_<;>try with_reducible exact tT))<;>try clear hf
 obtain ⟨j,rfl⟩:=Int.eq_ofNat_of_zero_le hx0
 have hj:j<L.length:=by omega
 have hat:=cE_at intV64 hj
 have hm:L[j]∈L:=List.getElem_mem hj
 have a1:(0:Int)≤(j:Int):=by omega
 have a2:(j:Int)<9:=by omega
 have a3:(j:Int)<((9:Nat):Int):=by omega
 generalize L[j]=y at *
 refine Stop.go ?_
 have hf:=A11 @cE_ment @cE_len @cE_kill @hasK_nil @Nat.mul_one hu.one hat a1 a2 a3 @intV64.eq_1;refine sF ?_;(repeat' ((first|refine oB ?_|fail)<;>refine sF ?_<;>try with_reducible exact tT))<;>try clear hf
 exact hK _ hm
theorem pick8k38_ok(u:Value)(l:List Int)(p:Nat)(L:List Int)(hL:L.length=8)(hu:IsL M intV64 u l)(hp:p<1000000)(hK:∀x∈L,K (.ext (.int .i64 x)) [(38,31,[.ext u,.ext (.int .i64 ((p+1:Nat):Int))]),(107,3,cE intV64 L)] M) :
  CallS Tryz.prog 94 [.own 38 0,.slo 107 0 8 1] [(107,3,cE intV64 L),(38,31,[.ext u,.ext (.int .i64 ((p:Nat):Int))])] M [] K:=by
 refine inlS (cs:=[]) Tryz.mixed Tryz.func94 rfl (by kernel_rfl) 200 rfl rfl ?_
 simp only[Tryz.f94]
 have hf:=A6 @cE_ment @cE_len @cE_kill @hasK_nil @Nat.mul_one hu.one;refine sF ?_;(repeat' ((first|((with_reducible first|refine yA ?_|refine yC ?_);first|refine kH 14 ?_|refine kS 14 (nextI_ok 38 u l p 8 hu (by omega) (by omega) (by omega) (fun x hx0 hx1=>Stop.mk ?_)))|refine oB ?_|fail)<;>refine sF ?_<;>try with_reducible exact tT))<;>try clear hf
 obtain ⟨j,rfl⟩:=Int.eq_ofNat_of_zero_le hx0
 have hj:j<L.length:=by omega
 have hat:=cE_at intV64 hj
 have hm:L[j]∈L:=List.getElem_mem hj
 have a1:(0:Int)≤(j:Int):=by omega
 have a2:(j:Int)<8:=by omega
 have a3:(j:Int)<((8:Nat):Int):=by omega
 generalize L[j]=y at *
 refine Stop.go ?_
 have hf:=A11 @cE_ment @cE_len @cE_kill @hasK_nil @Nat.mul_one hu.one hat a1 a2 a3 @intV64.eq_1;refine sF ?_;(repeat' ((first|refine oB ?_|fail)<;>refine sF ?_<;>try with_reducible exact tT))<;>try clear hf
 exact hK _ hm
theorem inner38_ok(u:Value)(l:List Int)(p:Nat)(hu:IsL M intV64 u l)(hp:p<100000)(hK:∀(a:Nat×Nat) w1 w2 M',Mem.le M M'→IsF M' w1 w2 (ofN a.1) (ofN a.2)→OkN a→K (.ext (.agg #[w1,w2])) [(38,31,[.ext u,.ext (.int .i64 ((p+2:Nat):Int))])] M') :
  CallS Tryz.prog 40 [.own 38 0] [(38,31,[.ext u,.ext (.int .i64 ((p:Nat):Int))])] M [] K:=by
 refine inlS (cs:=[]) Tryz.mixed Tryz.func40 rfl (by kernel_rfl) 100 rfl rfl ?_
 simp only[Tryz.f40]
 have hr:∀x∈([2,3,4,5,10,20,100,1000,997]:List Int),2≤x∧x≤1000:=by decide
 have hf:=hu.one;refine sF ?_;(repeat' ((first|((with_reducible first|refine yA ?_|refine yC ?_);first|refine kH 94 ?_|refine kS 94 (pick9k38_ok u l p [2,3,4,5,10,20,100,1000,997] rfl hu (by omega) (fun x hx=>Stop.mk ?_)))|refine oB ?_|fail)<;>refine sF ?_<;>try with_reducible exact tT))<;>try clear hf
 obtain ⟨x0,x1⟩:=hr x hx
 obtain ⟨y,rfl⟩:=Int.eq_ofNat_of_zero_le (show 0≤x by omega)
 clear hx hr
 have w1:IntKind.i64.wrap ((y:Int)-1)=((y-1:Nat):Int):=pred_i (by omega) (by omega)
 refine Stop.go ?_
 have hf:=A5 @cE_ment @cE_kill @hasK_nil hu.one w1;refine sF ?_;(repeat' ((first|((with_reducible first|refine yA ?_|refine yC ?_);first|refine kH 14 ?_|refine kS 14 (nextI_ok 38 u l (p+1) ((y-1:Nat):Int) hu (by omega) (by omega) (by omega) (fun z hz0 hz1=>Stop.mk ?_)))|refine oB ?_|fail)<;>refine sF ?_<;>try with_reducible exact tT))<;>try clear hf
 obtain ⟨m,rfl⟩:=Int.eq_ofNat_of_zero_le hz0
 obtain ⟨n,hnm⟩:∃n,n=m+1:=⟨_,rfl⟩
 have w2:IntKind.i64.wrap (1+(m:Int))=(n:Int):=by rw[wrap_id (by omega) (by omega)];omega
 have hok:=redN_ok (n:=n) (d:=y) (by omega) (by omega) (by omega)
 refine Stop.go ?_
 have hf:=A5 @cE_ment @cE_kill @hasK_nil hu.one w2;refine sF ?_;(repeat' ((first|((with_reducible refine yN ?_);refine kS 13 (sml_ok n y (by omega) (by omega) (by omega) (fun v1 v2 M1 a1 a2 a3 _ _=>Stop.mk ?_)))|refine oB ?_|fail)<;>refine sF ?_<;>try with_reducible exact tT))<;>try clear hf
 have a1:Mem.le M M1:=a1
 have p1:=a2.one
 have p2:=a3.one
 have hf:IsF M1 v1 v2 (ofN (red n y).1) (ofN (red n y).2):=isF_ofN a2 a3 ⟨(sm1000 (by have:=hok.le1;omega)).len,(sm1000 (by have:=hok.le1;omega)).len⟩
 have hk:=hK (red n y) v1 v2 M1 a1 hf hok
 refine Stop.go ?_
 have hf:=A6 @cE_ment @cE_kill @hasK_nil hu.one p1 p2;refine sF ?_;(repeat' ((first|refine oB ?_|fail)<;>refine sF ?_<;>try with_reducible exact tT))<;>try clear hf
 exact hk
theorem two38_ok(u:Value)(l:List Int)(p:Nat)(hu:IsL M intV64 u l)(hp:p<100000)(hK:∀(a b:Nat×Nat) w1 w2 w3 w4 M',Mem.le M M'→IsF M' w1 w2 (ofN a.1) (ofN a.2)→IsF M' w3 w4 (ofN b.1) (ofN b.2)→OkN a→OkN b→a.1*b.2<b.1*a.2→K (.ext (.tuple #[.agg #[w1,w2],.agg #[w3,w4]])) [(38,31,[.ext u,.ext (.int .i64 ((p+3:Nat):Int))])] M') :
  CallS Tryz.prog 114 [.own 38 0] [(38,31,[.ext u,.ext (.int .i64 ((p:Nat):Int))])] M [] K:=by
 refine inlS (cs:=[]) Tryz.mixed Tryz.func114 rfl (by kernel_rfl) 100 rfl rfl ?_
 simp only[Tryz.f114]
 have hr:∀x∈([3,4,5,10,20,100,1000,997]:List Int),3≤x∧x≤1000:=by decide
 have hf:=hu.one;refine sF ?_;(repeat' ((first|((with_reducible first|refine yA ?_|refine yC ?_);first|refine kH 94 ?_|refine kS 94 (pick8k38_ok u l p [3,4,5,10,20,100,1000,997] rfl hu (by omega) (fun x hx=>Stop.mk ?_)))|refine oB ?_|fail)<;>refine sF ?_<;>try with_reducible exact tT))<;>try clear hf
 obtain ⟨x0,x1⟩:=hr x hx
 obtain ⟨y,rfl⟩:=Int.eq_ofNat_of_zero_le (show 0≤x by omega)
 clear hx hr
 have w1:IntKind.i64.wrap ((y:Int)-2)=((y-2:Nat):Int):=by rw[wrap_id (by omega) (by omega)];omega
 refine Stop.go ?_
 have hf:=A5 @cE_ment @cE_kill @hasK_nil hu.one w1;refine sF ?_;(repeat' ((first|((with_reducible first|refine yA ?_|refine yC ?_);first|refine kH 14 ?_|refine kS 14 (nextI_ok 38 u l (p+1) ((y-2:Nat):Int) hu (by omega) (by omega) (by omega) (fun z hz0 hz1=>Stop.mk ?_)))|refine oB ?_|fail)<;>refine sF ?_<;>try with_reducible exact tT))<;>try clear hf
 obtain ⟨m,rfl⟩:=Int.eq_ofNat_of_zero_le hz0
 obtain ⟨n,hnm⟩:∃n,n=m+1:=⟨_,rfl⟩
 have w2:IntKind.i64.wrap (1+(m:Int))=(n:Int):=by rw[wrap_id (by omega) (by omega)];omega
 have w3:IntKind.i64.wrap ((n:Int)+1)=((n+1:Nat):Int):=succ_i (by omega)
 have w4:IntKind.i64.wrap ((y:Int)-1)=((y-1:Nat):Int):=pred_i (by omega) (by omega)
 have w5:IntKind.i64.wrap (((y-1:Nat):Int)-(n:Int))=((y-1-n:Nat):Int):=by rw[wrap_id (by omega) (by omega)];omega
 have hok:=redN_ok (n:=n) (d:=y) (by omega) (by omega) (by omega)
 refine Stop.go ?_
 have hf:=A8 @cE_ment @cE_kill @hasK_nil hu.one w2 w3 w4 w5;refine sF ?_;(repeat' ((first|((with_reducible refine yN ?_);refine kS 13 (sml_ok n y (by omega) (by omega) (by omega) (fun v1 v2 M1 a1 a2 a3 _ _=>Stop.mk ?_)))|refine oB ?_|fail)<;>refine sF ?_<;>try with_reducible exact tT))<;>try clear hf
 have a1:Mem.le M M1:=a1
 have p1:=a2.one
 have p2:=a3.one
 have hf:IsF M1 v1 v2 (ofN (red n y).1) (ofN (red n y).2):=isF_ofN a2 a3 ⟨(sm1000 (by have:=hok.le1;omega)).len,(sm1000 (by have:=hok.le1;omega)).len⟩
 have hu1:=hu.le a1
 refine Stop.go ?_
 have hf:=A10 @cE_ment @cE_kill @hasK_nil hu.one p1 p2 w2 w3 w4 w5;refine sF ?_;(repeat' ((first|((with_reducible first|refine yA ?_|refine yC ?_);first|refine kH 14 ?_|refine kS 14 (nextI_ok 38 u l (p+1+1) ((y-1-n:Nat):Int) hu1 (by omega) (by omega) (by omega) (fun z hz0 hz1=>Stop.mk ?_)))|refine oB ?_|fail)<;>refine sF ?_<;>try with_reducible exact tT))<;>try clear hf
 obtain ⟨m2,rfl⟩:=Int.eq_ofNat_of_zero_le hz0
 obtain ⟨n2,hnm2⟩:∃n2,n2=n+1+m2:=⟨_,rfl⟩
 have w6:IntKind.i64.wrap (((n+1:Nat):Int)+(m2:Int))=(n2:Int):=by rw[wrap_id (by omega) (by omega)];omega
 have hok2:=redN_ok (n:=n2) (d:=y) (by omega) (by omega) (by omega)
 refine Stop.go ?_
 have hf:=A7 @cE_ment @cE_kill @hasK_nil hu.one p1 p2 w6;refine sF ?_;(repeat' ((first|((with_reducible refine yN ?_);refine kS 13 (sml_ok n2 y (by omega) (by omega) (by omega) (fun v3 v4 M2 b1 b2 b3 _ _=>Stop.mk ?_)))|refine oB ?_|fail)<;>refine sF ?_<;>try with_reducible exact tT))<;>try clear hf
 have b1:Mem.le M1 M2:=b1
 have p3:=b2.one
 have p4:=b3.one
 have hf2:IsF M2 v3 v4 (ofN (red n2 y).1) (ofN (red n2 y).2):=isF_ofN b2 b3 ⟨(sm1000 (by have:=hok2.le1;omega)).len,(sm1000 (by have:=hok2.le1;omega)).len⟩
 have hk:=hK (red n y) (red n2 y) v1 v2 v3 v4 M2 (a1.trans b1) (hf.le b1) hf2 hok hok2 (by
  have e1:=(red_p (x:=n) (d:=y) (by omega)).eq
  have e2:=(red_p (x:=n2) (d:=y) (by omega)).eq
  have q1:=(red_p (x:=n) (d:=y) (by omega)).pos
  have q2:=(red_p (x:=n2) (d:=y) (by omega)).pos
  exact two_lt (show n<n2 by omega) (show 0<y by omega) e1 e2 q1 q2)
 refine Stop.go ?_
 have hf:=A8 @cE_ment @cE_kill @hasK_nil hu.one p1 p2 p3 p4;refine sF ?_;(repeat' ((first|refine oB ?_|fail)<;>refine sF ?_<;>try with_reducible exact tT))<;>try clear hf
 exact hk
theorem noise38_ok(u:Value)(l:List Int)(p:Nat)(hu:IsL M intV64 u l)(hp:p<100000)(hK:∀(a b:Nat×Nat) w1 w2 w3 w4 M',Mem.le M M'→IsF M' w1 w2 (ofN a.1) (ofN a.2)→IsF M' w3 w4 (ofN b.1) (ofN b.2)→OkN a→OkN b→a.1*b.2<b.1*a.2→K (.ext (.agg #[w1,w2,w3,w4])) [(38,31,[.ext u,.ext (.int .i64 ((p+3:Nat):Int))])] M') :
  CallS Tryz.prog 67 [.own 38 0] [(38,31,[.ext u,.ext (.int .i64 ((p:Nat):Int))])] M [] K:=by
 refine inlS (cs:=[]) Tryz.mixed Tryz.func67 rfl (by kernel_rfl) 100 rfl rfl ?_
 simp only[Tryz.f67]
 have hf:=hu.one;refine sF ?_;(repeat' ((first|((with_reducible first|refine yA ?_|refine yC ?_);first|refine kH 114 ?_|refine kS 114 (two38_ok u l p hu hp (fun a b w1 w2 w3 w4 M1 m1 h1 h2 h3 h4 h5=>Stop.mk ?_)))|refine oB ?_|fail)<;>refine sF ?_<;>try with_reducible exact tT))<;>try clear hf
 have p1:=h1.n.one
 have p2:=h1.d.one
 have p3:=h2.n.one
 have p4:=h2.d.one
 have hk:=hK a b w1 w2 w3 w4 M1 m1 h1 h2 h3 h4 h5
 refine Stop.go ?_
 have hf:=A5 hu.one p1 p2 p3 p4;refine sF ?_;(repeat' ((first|refine oB ?_|fail)<;>refine sF ?_<;>try with_reducible exact tT))<;>try clear hf
 exact hk
theorem model38_ok(u:Value)(l:List Int)(p:Nat)(hu:IsL M intV64 u l)(hp:p<10000)(hK:∀(a b:Nat×Nat) w1 w2 w3 w4 (q:Nat) M',Mem.le M M'→IsF M' w1 w2 (ofN a.1) (ofN a.2)→IsF M' w3 w4 (ofN b.1) (ofN b.2)→OkN a→OkN b→a.1*b.2<b.1*a.2→q≤p+4→K (.ext (.agg #[w1,w2,w3,w4])) [(38,31,[.ext u,.ext (.int .i64 ((q:Nat):Int))])] M') :
  CallS Tryz.prog 20 [.own 38 0] [(38,31,[.ext u,.ext (.int .i64 ((p:Nat):Int))])] M [] K:=by
 refine inlS (cs:=[]) Tryz.mixed Tryz.func20 rfl (by kernel_rfl) 100 rfl rfl ?_
 simp only[Tryz.f20]
 have hf:=hu.one;refine sF ?_;(repeat' ((first|((with_reducible first|refine yA ?_|refine yC ?_);first|refine kH 30 ?_|refine kS 30 (chance_ok 38 u l p 1 4 hu (by omega) (by omega) (by omega) (fun b=>Stop.mk ?_)))|refine oB ?_|fail)<;>refine sF ?_<;>try with_reducible exact tT))<;>try clear hf
 cases b with
 | true=>
  refine Stop.go ?_
  have hf:=hu.one;refine sF ?_;(repeat' ((first|((with_reducible first|refine yA ?_|refine yC ?_);first|refine kH 67 ?_|refine kS 67 (noise38_ok u l (p+1) hu (by omega) (fun a b w1 w2 w3 w4 M1 m1 h1 h2 h3 h4 h5=>Stop.mk ?_)))|refine oB ?_|fail)<;>refine sF ?_<;>try with_reducible exact tT))<;>try clear hf
  have p1:=h1.n.one
  have p2:=h1.d.one
  have p3:=h2.n.one
  have p4:=h2.d.one
  have hk:=hK a b w1 w2 w3 w4 (p+1+3) M1 m1 h1 h2 h3 h4 h5 (by omega)
  refine Stop.go ?_
  have hf:=A5 hu.one p1 p2 p3 p4;refine sF ?_;(repeat' ((first|refine oB ?_|fail)<;>refine sF ?_<;>try with_reducible exact tT))<;>try clear hf
  exact hk
 | false=>
  refine Stop.go ?_
  have hf:=hu.one;refine sF ?_;(repeat' ((first|((with_reducible first|refine yA ?_|refine yC ?_);first|refine kH 14 ?_|refine kS 14 (nextI_ok 38 u l (p+1) 8 hu (by omega) (by omega) (by omega) (fun z hz0 hz1=>Stop.mk ?_)))|refine oB ?_|fail)<;>refine sF ?_<;>try with_reducible exact tT))<;>try clear hf
  obtain ⟨m,rfl⟩:=Int.eq_ofNat_of_zero_le hz0
  obtain ⟨n,hnm⟩:∃n,n=m+1:=⟨_,rfl⟩
  have w2:IntKind.i64.wrap (1+(m:Int))=(n:Int):=by rw[wrap_id (by omega) (by omega)];omega
  have w3:IntKind.i64.wrap ((n:Int)+1)=((n+1:Nat):Int):=succ_i (by omega)
  have w5:IntKind.i64.wrap (9-(n:Int))=((9-n:Nat):Int):=by rw[wrap_id (by omega) (by omega)];omega
  have hok:=redN_ok (n:=n) (d:=10) (by omega) (by omega) (by omega)
  refine Stop.go ?_
  have hf:=A4 hu.one w2 w3 w5;refine sF ?_;(repeat' ((first|((with_reducible refine yN ?_);refine kS 13 (sml_ok n 10 (by omega) (by omega) (by omega) (fun v1 v2 M1 a1 a2 a3 _ _=>Stop.mk ?_)))|refine oB ?_|fail)<;>refine sF ?_<;>try with_reducible exact tT))<;>try clear hf
  have a1:Mem.le M M1:=a1
  have p1:=a2.one
  have p2:=a3.one
  have hf:IsF M1 v1 v2 (ofN (red n 10).1) (ofN (red n 10).2):=isF_ofN a2 a3 ⟨(sm1000 (by have:=hok.le1;omega)).len,(sm1000 (by have:=hok.le1;omega)).len⟩
  have hu1:=hu.le a1
  refine Stop.go ?_
  have hf:=A6 hu.one p1 p2 w2 w3 w5;refine sF ?_;(repeat' ((first|((with_reducible first|refine yA ?_|refine yC ?_);first|refine kH 14 ?_|refine kS 14 (nextI_ok 38 u l (p+1+1) ((9-n:Nat):Int) hu1 (by omega) (by omega) (by omega) (fun z hz0 hz1=>Stop.mk ?_)))|refine oB ?_|fail)<;>refine sF ?_<;>try with_reducible exact tT))<;>try clear hf
  obtain ⟨m2,rfl⟩:=Int.eq_ofNat_of_zero_le hz0
  obtain ⟨n2,hnm2⟩:∃n2,n2=n+1+m2:=⟨_,rfl⟩
  have w6:IntKind.i64.wrap (((n+1:Nat):Int)+(m2:Int))=(n2:Int):=by rw[wrap_id (by omega) (by omega)];omega
  have hok2:=redN_ok (n:=n2) (d:=10) (by omega) (by omega) (by omega)
  refine Stop.go ?_
  have hf:=A4 hu.one p1 p2 w6;refine sF ?_;(repeat' ((first|((with_reducible refine yN ?_);refine kS 13 (sml_ok n2 10 (by omega) (by omega) (by omega) (fun v3 v4 M2 b1 b2 b3 _ _=>Stop.mk ?_)))|refine oB ?_|fail)<;>refine sF ?_<;>try with_reducible exact tT))<;>try clear hf
  have b1:Mem.le M1 M2:=b1
  have p3:=b2.one
  have p4:=b3.one
  have hf2:IsF M2 v3 v4 (ofN (red n2 10).1) (ofN (red n2 10).2):=isF_ofN b2 b3 ⟨(sm1000 (by have:=hok2.le1;omega)).len,(sm1000 (by have:=hok2.le1;omega)).len⟩
  have hk:=hK (red n 10) (red n2 10) v1 v2 v3 v4 (p+1+1+1) M2 (a1.trans b1) (hf.le b1) hf2 hok hok2 (two_lt (show n<n2 by omega) (show 0<10 by omega) (red_p (x:=n) (d:=10) (by omega)).eq (red_p (x:=n2) (d:=10) (by omega)).eq (red_p (x:=n) (d:=10) (by omega)).pos (red_p (x:=n2) (d:=10) (by omega)).pos) (by omega)
  refine Stop.go ?_
  have hf:=A5 hu.one p1 p2 p3 p4;refine sF ?_;(repeat' ((first|refine oB ?_|fail)<;>refine sF ?_<;>try with_reducible exact tT))<;>try clear hf
  exact hk
end
theorem Fz.bind{z:St}{B:St→Prop}(h:Fz z (fun y=>Fz y B)):Fz z B:=fun c n a w hcx g=>by
 obtain ⟨y,g1,h1⟩:=h c n a w hcx g
 exact h1 c n a w hcx g1
open Classical in
theorem Fz.cell{z:St}{B:St→Prop}{j k n q:Nat}{T T0:TypeId}(cs:List Value)(E:Env)(R:Hp)(hj:lkH z.hp j=some (T0,[.slo k 0 n q]))(hk:lkH z.hp k=some (T,cs.map .ext))(hn:cs.length=n*q)(hkb:z.kb≤k)(hjk:j≠k)
  (hE:subE E z.env) (hE2:k∉mentE E) (hR:subHp R z.hp) (hR2:k∉mentH R) (hkeep:keepLt z.kb R z.hp) (hfx:∀k,k<z.kb→(lkH z.hp k).isSome=true→k∈z.fx)
  (h:∀M' U,Mem.le z.M M'→SlM M' q U n cs→FreshS z.M U→B {env:=E,hp:=(j,T0,[.ext U]) :: R,M:=M',kb:=z.kb,fx:=z.fx,fr:=z.fr}):Fz z B:=fun c n0 a w hcx ⟨ρ,g⟩=>by
 obtain ⟨bj,hbj⟩:∃b,ρ j=some b:=by
  cases hb:ρ j with
  | none=>have:=g.no j _ _ hj hb;cases this
  | some b=>exact ⟨b,rfl⟩
 obtain ⟨⟨arr0,row0⟩,fj2,fj3⟩:=g.hp j _ _ bj hj hbj
 have hU:=row0.is 0 (.slo k 0 n q) rfl
 generalize hUe:arr0.getD 0 undef=U at hU
 let D:Nat→Prop:=fun b=>∃x,ρ k=some x∧x.b=b
 let M':Mem:=fun b=>if D b then w.heap[b]? else z.M b
 have hRz:∀k x,lkH R k=some x→lkH z.hp k=some x:=subHp_lk hR
 have hRF:∀i x,lkH R i=some x→i≠k:=fun i x hx e=>by
  subst e
  exact hR2 (mentH_lk (T:=x.1) (cs:=x.2) hx (.inl rfl))
 have hMD:∀b,D b→z.M b=none:=fun b ⟨x,hx,e⟩=>by
  rw[←e];exact (g.hp k _ _ x hk hx).2.2
 have hle:Mem.le z.M M':=fun b o hb=>by
  by_cases hD:D b
  ·rw[hMD b hD]at hb;cases hb
  ·simp only[M',if_neg hD];exact hb
 have hlk:∀j x,lkH [(k,T,cs.map AV.ext)] j=some x→j=k∧x=(T,cs.map .ext):=fun j x h=>by
  simp only[lkH]at h
  split at h
  ·rename_i e;cases h;exact ⟨e.symm,rfl⟩
  ·cases h
 have hc:closedH [(k,T,cs.map AV.ext)]:=fun j T' ds q hj hq=>by
  obtain ⟨_,e⟩:=hlk j _ hj
  cases e
  rw[mentL_ext]at hq;cases hq
 have hhold:HoldH ρ z.M M' [(k,T,cs.map AV.ext)] w:=fun i T' ds b hi hb=>by
  obtain ⟨rfl,e⟩:=hlk i _ hi
  cases e
  obtain ⟨⟨arr,h1⟩,_,h2⟩:=g.hp _ _ _ b hk hb
  have hD:D b.b:=⟨b,hb,rfl⟩
  exact ⟨⟨arr,by simp only[M',if_pos hD];exact h1.there,h1⟩,h2⟩
 have hB:B {env:=E,hp:=(j,T0,[.ext U]) :: R,M:=M',kb:=z.kb,fx:=z.fx,fr:=z.fr}:=by
  have h2:=borI_is hhold (.slo k 0 n q) U (fun i hi=>by
   have:i=k:=by simpa [AV.ment] using hi
   subst this
   simp[lkH]) hU
  obtain ⟨h3,h4⟩:=h2
  have h5:=h4 T cs (by simp[lkH]) (by omega)
  rw[List.drop_zero,List.take_of_length_le (by omega)]at h5
  exact h M' U hle h5 h3
 have hlk2:∀i x,lkH ((j,T0,[AV.ext U]) :: R) i=some x→(i=j∧x=(T0,[.ext U]))∨(i≠j∧lkH R i=some x):=fun i x hx=>by
  simp only[lkH]at hx
  split at hx
  ·rename_i e;cases hx;exact .inl ⟨e.symm,rfl⟩
  ·rename_i e;exact .inr ⟨fun e2=>e e2.symm,hx⟩
 have hsome:∀i,(lkH ((j,T0,[AV.ext U]) :: R) i).isSome=true→(lkH z.hp i).isSome=true:=fun i hi=>by
  obtain ⟨x,hx⟩:=Option.isSome_iff_exists.1 hi
  rcases hlk2 i x hx with ⟨rfl,_⟩|⟨_,hx⟩
  ·rw[hj];rfl
  ·rw[hRz i x hx];rfl
 have hnk:∀i,(lkH ((j,T0,[AV.ext U]) :: R) i).isSome=true→i≠k:=fun i hi=>by
  obtain ⟨x,hx⟩:=Option.isSome_iff_exists.1 hi
  rcases hlk2 i x hx with ⟨rfl,_⟩|⟨_,hx⟩
  ·exact hjk
  ·exact hRF i x hx
 have hnD:∀i b,(lkH ((j,T0,[AV.ext U]) :: R) i).isSome=true→ρ i=some b→¬D b.b:=fun i b hi hb ⟨x,hx,e⟩=>by
  exact hnk i hi (g.inj k i x b (by rw[hk];rfl) (hsome i hi) hx hb e).symm
 refine ⟨_,⟨ρ,?_⟩,hB⟩
 refine {df:=g.df,sz:=g.sz,env:=fun t=>?_,hp:=fun i T' ds b hi hb=>?_,no:=fun i T' ds hi hb=>?_,inj:=fun i i' b b' hi hi' hb hb' e=>g.inj i i' b b' (hsome i hi) (hsome i' hi') hb hb' e,os:=g.os,tape:=g.tape,output:=g.output,size:=g.size,block:=g.block,sub:=fun b o hb=>?_,le:=g.le.trans hle,mf:=fun b hb=>?_,fix:=fun i hi=>?_,fx:=g.fx,kl:=g.kl,fr:=g.fr}
 ·show (lk E t).is ρ _
  rcases subE_lk hE t with e2|e2
  ·rw[e2];trivial
  ·rw[e2];exact g.env t
 ·have hD:=hnD i b (by rw[hi];rfl) hb
  rcases hlk2 i _ hi with ⟨rfl,e⟩|⟨_,hi⟩
  ·cases e
   rw[hbj]at hb;cases hb
   refine ⟨⟨arr0,row0.there,row0.size,row0.le,fun p v hv=>?_⟩,fj2,?_⟩
   ·cases p with
    | zero=>cases hv;exact hUe
    | succ p=>cases hv
   ·show M' bj.b=none
    simp only[M',if_neg hD];exact fj3
  ·obtain ⟨f1,f2,f3⟩:=g.hp i T' ds b (hRz i _ hi) hb
   refine ⟨f1,f2,?_⟩
   show M' b.b=none
   simp only[M',if_neg hD];exact f3
 ·rcases hlk2 i _ hi with ⟨rfl,e⟩|⟨_,hi⟩
  ·rw[hbj]at hb;cases hb
  ·exact g.no i T' ds (hRz i _ hi) hb
 ·have hb:M' b=some o:=hb
  by_cases hD:D b
  ·simp only[M',if_pos hD]at hb;exact hb
  ·simp only[M',if_neg hD]at hb;exact g.sub b o hb
 ·have hb:M' b≠none:=hb
  by_cases hD:D b
  ·obtain ⟨x,hx,e⟩:=hD
   rcases (g.hp k _ _ x hk hx).2.1 with h5|h5
   ·rw[←e];exact .inr h5
   ·exfalso
    obtain ⟨k',y',h6,h7,h8⟩:=hcx.x _ h5
    have h9:=g.fix k' h6
    have h10:=g.kl k' h6
    have h11:=g.fx k' (hfx k' h10 h9)
    rw[h7]at h11
    have:=g.inj k' k y' x h9 (by rw[hk];rfl) h11 hx h8
    omega
  ·simp only[M',if_neg hD]at hb;exact g.mf b hb
 ·have h1:=keepLt_ok hkeep i (g.kl i hi) (g.fix i hi)
  simp only[lkH]
  split
  ·rfl
  ·exact h1
theorem rOK_set{L:List Int}{i:Nat}{x:Int}(h:rOK L L.length)(h1 : -1≤x)(h2:x<(i:Int)):rOK (L.set i x) (L.set i x).length:=fun j hj _=>by
 rw[List.length_set]at hj
 rw[List.getElem_set]
 split
 ·rename_i e;subst e;exact ⟨h1,h2⟩
 ·exact h j hj hj
theorem rOK_repl(n:Nat):rOK (List.replicate n (-1)) (List.replicate n (-1)).length:=fun j hj _=>by
 rw[List.getElem_replicate];omega
structure PriI (M:Mem) (D:List FR) (i:Nat):Prop where
 len:D.length=i
 ok:okFL M D
 val:∃N:List (Nat×Nat),D.map prV=N.map opN∧∀p∈N,OkN p
theorem PriI.le{M M':Mem}{D:List FR}{i:Nat}(h:PriI M D i)(hM:Mem.le M M'):PriI M' D i:=⟨h.len,h.ok.le hM,h.val⟩
theorem PriI.snoc{M:Mem}{D:List FR}{i:Nat}(h:PriI M D i){w1 w2:Value}{a:Nat×Nat}(hf:IsF M w1 w2 (ofN a.1) (ofN a.2))(ha:OkN a):PriI M (D++[⟨w1,w2,ofN a.1,ofN a.2⟩]) (i+1):=by
 obtain ⟨N,h1,h2⟩:=h.val
 refine ⟨by rw[List.length_append,h.len];rfl,fun x hx=>?_,N++[a],by rw[List.map_append,List.map_append,h1];rfl,fun p hp=>?_⟩
 ·rcases List.mem_append.1 hx with hx|hx
  ·exact h.ok x hx
  ·rw[List.mem_singleton.1 hx];exact hf
 ·rcases List.mem_append.1 hp with hp|hp
  ·exact h2 p hp
  ·rw[List.mem_singleton.1 hp];exact ha
theorem frC_last(D:List FR)(x y:FR):(frC (D++[x])).take (D.length*2)++(.ext y.u1 :: .ext y.u2 :: (frC (D++[x])).drop (D.length*2+2))=frC (D++[y]):=by
 have h:=frC_setF (L:=D++[x]) (i:=D.length) (by simp) y
 rw[h]
 congr 1
 simp
section
variable {M:Mem}{K:AV→Hp→Mem→Prop}
def s35Hp(u:Value)(p n:Nat)(L:List Int):Hp:=[(190,3,cE intV64 L),(106,33,[.slo 190 0 n 1]),(104,33,[.ext (.slice none 0 0)]),(38,31,[.ext u,.ext (.int .i64 (p:Int))])]
def s35St(M:Mem)(u:Value)(p i n:Nat)(L:List Int)(D:List FR):St:={env:=[(8,.ext (.int .i64 (i:Int))),(7,.slo 107 0 i 2),(6,.own 106 0),(4,.own 104 0),(0,.own 38 0)],hp:=(107,27,frC D) :: s35Hp u p n L,M:=M,kb:=100,fx:=[38]}
theorem some38_ok(u:Value)(l:List Int)(m:Nat)(hm0:0<m)(hm:m≤8)(hu:IsL M intV64 u l)
  (hK:∀(L:List Int) (n p:Nat) v w M' D,chkL L=true→L.length=n→p≤100→Mem.le M M'→IsL M' intV64 v L→IsR M' 2 FR.c w D→PriI M' D n→K (.ext (.tuple #[.agg #[v],w])) [(38,31,[.ext u,.ext (.int .i64 (p:Int))])] M') :
  CallS Tryz.prog 11 [.own 38 0,.ext (.int .i64 (m:Int))] [(38,31,[.ext u,.ext (.int .i64 (0:Int))])] M [] K:=by
 refine CallS.frzF ?_
 refine inlS (cs:=[8,11]) Tryz.mixed Tryz.func11 rfl (by kernel_rfl) 100 rfl rfl ?_
 simp only[Tryz.f11]
 have e0:keysH [(38,31,[AV.ext u,AV.ext (.int .i64 (0:Int))])]=[38]:=rfl
 (try with_reducible refine Fz.of ?_);have hf:=hu.one;refine sF ?_;(repeat' ((first|((with_reducible first|refine yA ?_|refine yB ?_|refine yC ?_);first|refine kH 14 ?_|refine kG 14 ?_|refine kS 14 (nextI_ok 38 u l 0 (m:Int) hu (by omega) (by omega) (by omega) (fun x hx0 hx1=>Stop.mk ?_)))|refine oB ?_|fail)<;>refine sF ?_<;>try with_reducible exact tT))<;>try clear hf
 obtain ⟨q,rfl⟩:=Int.eq_ofNat_of_zero_le hx0
 have hwq:IntKind.i64.wrap (1+(q:Int))=((q+1:Nat):Int):=by rw[wrap_id (by omega) (by omega)];omega
 refine Stop.go ?_
 (try with_reducible refine Fz.of ?_);have hf:=A4 hwq hu.one @cE_ment @hasK_nil;refine sF ?_;(repeat' ((first|((with_reducible refine yN ?_);refine kS 42 (plain_own (q+1) (by omega) (Stop.mk ?_)))|refine oB ?_|fail)<;>refine sF ?_<;>try with_reducible exact tT))<;>try clear hf
 have hq8:q+1≤8:=by omega
 refine Stop.go ?_
 (try with_reducible refine Fz.of ?_);have hf:=A3 hu.one @cE_ment @hasK_nil;refine sF ?_;(repeat' ((first|refine oB ?_|fail)<;>refine sF ?_<;>try with_reducible exact tT))<;>try clear hf
 obtain ⟨n,hn⟩:∃n,n=q+1:=⟨_,rfl⟩
 rw[←hn]at hq8 ⊢
 have hn1:1≤n:=by omega
 clear hwq hx0 hx1
 refine ⟨fun z=>∃M' p L D,p≤60∧Mem.le M M'∧L.length=n∧rOK L L.length∧PriI M' D n∧z=s35St M' u p n n L D,?_,?_⟩
 ·(try with_reducible refine Fz.of ?_);have hf:=A3 hu.one @cE_ment @hasK_nil;refine sF ?_;(repeat' ((first|refine oB ?_|fail)<;>refine sF ?_<;>try with_reducible exact tT))<;>try clear hf
  refine ⟨fun d z=>∃M' p L D i,d=n-i∧i≤n∧p≤6*i+1∧Mem.le M M'∧L.length=n∧rOK L L.length∧PriI M' D i∧z=s35St M' u p i n L D,
   ⟨n,s35St M u 1 0 n (List.replicate n (-1)) [],(le_nil 7 107 27 2 rfl (.inl (by simp[awayB,mentE,mentH,mentL,AV.ment,hasK,cE_ment]))).trans (le_sub ⟨rfl,rfl,rfl,rfl,rfl,trivial⟩ ⟨rfl,rfl,rfl,rfl,rfl,trivial⟩ rfl rfl rfl (keepLt_of rfl)),⟨M,1,_,[],0,by omega,by omega,by omega,Mem.le.refl _,List.length_replicate,rOK_repl _,⟨rfl,fun x hx=>(by cases hx),[],rfl,fun p hp=>(by cases hp)⟩,rfl⟩⟩,?_⟩
  rintro d z ⟨M1,p,L,D,i,rfl,hi,hp,hM,hL,hr,hD,rfl⟩
  have hu1:=hu.le hM
  by_cases hlt:i<n
  case neg=>
   obtain rfl:i=n:=by omega
   have d1:decide ((i:Int)<(i:Int))=false:=by simp
   (try with_reducible refine Fz.of ?_);have hf:=A9 @s35St.eq_1 @s35Hp.eq_1 d1 hu.one @cE_ment @frC_ment @frC_kill @cE_kill @hasK_nil;refine sF ?_;(repeat' ((first|refine oB ?_|fail)<;>refine sF ?_<;>try with_reducible exact tT))<;>try clear hf
   exact ⟨s35St M1 u p i i L D,le_sub ⟨rfl,rfl,rfl,rfl,rfl,trivial⟩ ⟨rfl,rfl,rfl,rfl,rfl,trivial⟩ rfl rfl rfl (keepLt_of rfl),M1,p,L,D,by omega,hM,hL,hr,hD,rfl⟩
  have d1:decide ((i:Int)<(n:Int))=true:=by rw[decide_eq_true_eq];omega
  have d2:(i:Int)<(n:Int):=by omega
  have d3:(0:Int)≤(i:Int):=by omega
  have hw:IntKind.i64.wrap ((i:Int)+1)=((i+1:Nat):Int):=succ_i (by omega)
  have hlen:(cE intV64 L).length=n:=by rw[cE_len];exact hL
  (try with_reducible refine Fz.of ?_);have hf:=A9 @s35St.eq_1 @s35Hp.eq_1 d1 hu.one @cE_ment @frC_ment @frC_kill @cE_kill @hasK_nil;refine sF ?_;(repeat' ((first|refine oB ?_|fail)<;>refine sF ?_<;>try with_reducible exact tT))<;>try clear hf
  refine ⟨fun z=>∃p' L',L'.length=n∧rOK L' L'.length∧p'≤p+2∧z=s35St M1 u p' i n L' D,?_,?_⟩
  ·rcases Nat.eq_zero_or_pos i with hi0|hi0
   ·have g0:decide ((0:Int)<(i:Int))=false:=by rw[decide_eq_false_iff_not];omega
    (try with_reducible refine Fz.of ?_);have hf:=A7 g0 hu.one @cE_ment @frC_ment @frC_kill @cE_kill @hasK_nil;refine sF ?_;(repeat' ((first|((with_reducible refine isE 27 (by decide) ?_);refine dR ((0,[]) :: (1,[]) :: (rP 2 4 [1] [(6,[]),(7,[])])) (rgL 27 6 []) [] ?_)|refine oB ?_|fail)<;>refine sF ?_<;>try with_reducible exact tT))<;>try clear hf
    exact ⟨s35St M1 u p i n L D,le_sub ⟨rfl,rfl,rfl,rfl,rfl,trivial⟩ ⟨rfl,rfl,rfl,rfl,rfl,trivial⟩ rfl rfl rfl (keepLt_of rfl),p,L,hL,hr,by omega,rfl⟩
   have g0:decide ((0:Int)<(i:Int))=true:=by rw[decide_eq_true_eq];omega
   (try with_reducible refine Fz.of ?_);have hf:=A7 g0 hu.one @cE_ment @frC_ment @frC_kill @cE_kill @hasK_nil;refine sF ?_;(repeat' ((first|((with_reducible first|refine yA ?_|refine yC ?_);first|refine kH 30 ?_|refine kS 30 (chance_ok 38 u l p 1 4 hu1 (by omega) (by omega) (by omega) (fun b=>Stop.mk ?_)))|((with_reducible refine isE 27 (by decide) ?_);refine dR ((0,[]) :: (1,[]) :: (rP 2 4 [1] [(6,[]),(7,[])])) (rgL 27 6 []) [] ?_)|refine oB ?_|fail)<;>refine sF ?_<;>try with_reducible exact tT))<;>try clear hf
   cases b with
   | false=>
    refine Stop.go ?_
    (try with_reducible refine Fz.of ?_);have hf:=A7 g0 hu.one @cE_ment @frC_ment @frC_kill @cE_kill @hasK_nil;refine sF ?_;(repeat' ((first|refine oB ?_|fail)<;>refine sF ?_<;>try with_reducible exact tT))<;>try clear hf
    exact ⟨s35St M1 u (p+1) i n L D,le_sub ⟨rfl,rfl,rfl,rfl,rfl,trivial⟩ ⟨rfl,rfl,rfl,rfl,rfl,trivial⟩ rfl rfl rfl (keepLt_of rfl),p+1,L,hL,hr,by omega,rfl⟩
   | true=>
    refine Stop.go ?_
    (try with_reducible refine Fz.of ?_);have hf:=A11 g0 d2 d3 hlen hu.one @cE_ment @frC_ment @frC_kill @cE_kill @hasK_nil @Nat.mul_one;refine sF ?_;(repeat' ((first|((with_reducible first|refine yA ?_|refine yB ?_|refine yC ?_);first|refine kH 14 ?_|refine kG 14 ?_|refine kS 14 (nextI_ok 38 u l (p+1) (i:Int) hu1 (by omega) (by omega) (by omega) (fun x hx0 hx1=>Stop.mk ?_)))|((with_reducible refine isE 27 (by decide) ?_);refine dR ((0,[]) :: (1,[]) :: (rP 2 4 [1] [(6,[]),(7,[])])) (rgL 27 6 []) [] ?_)|refine oB ?_|fail)<;>refine sF ?_<;>try with_reducible exact tT))<;>try clear hf
    have hset:(cE intV64 L).set i (.ext (.int .i64 x))=cE intV64 (L.set i x):=cE_set intV64 L i x
    refine Stop.go ?_
    (try with_reducible refine Fz.of ?_);have hf:=A12 g0 d2 d3 hlen hset hu.one @cE_ment @frC_ment @frC_kill @cE_kill @hasK_nil @Nat.mul_one;refine sF ?_;(repeat' ((first|refine oB ?_|fail)<;>refine sF ?_<;>try with_reducible exact tT))<;>try clear hf
    exact ⟨s35St M1 u (p+1+1) i n (L.set i x) D,le_sub ⟨rfl,rfl,rfl,rfl,rfl,trivial⟩ ⟨rfl,rfl,rfl,rfl,rfl,trivial⟩ rfl rfl rfl (keepLt_of rfl),p+1+1,L.set i x,by rw[List.length_set];exact hL,rOK_set hr (by omega) hx1,by omega,rfl⟩
  clear hL hr hlen
  rintro z ⟨p',L',hL,hr,hp',rfl⟩
  have hlD:(frC D).length=i*2:=by rw[frC_len,hD.len]
  (try with_reducible refine Fz.of ?_);have hf:=A8 @s35St.eq_1 @s35Hp.eq_1 hu.one @cE_ment @frC_ment @frC_kill @cE_kill @hasK_nil;refine sF ?_;(repeat' ((first|((with_reducible first|refine yA ?_|refine yB ?_|refine yC ?_);first|refine kH 14 ?_|refine kG 14 ?_|refine kS 14 (nextI_ok 38 u l p' 9 hu1 (by omega) (by omega) (by omega) (fun x hx0 hx1=>Stop.mk ?_)))|refine oB ?_|fail)<;>refine sF ?_<;>try with_reducible exact tT))<;>try clear hf
  obtain ⟨a,rfl⟩:=Int.eq_ofNat_of_zero_le hx0
  obtain ⟨b,hb⟩:∃b,b=a+1:=⟨_,rfl⟩
  have w2:IntKind.i64.wrap (1+(a:Int))=(b:Int):=by rw[wrap_id (by omega) (by omega)];omega
  have hok:=redN_ok (n:=b) (d:=10) (by omega) (by omega) (by omega)
  refine Stop.go ?_
  (try with_reducible refine Fz.of ?_);have hf:=A7 w2 hu.one @cE_ment @frC_ment @frC_kill @cE_kill @hasK_nil;refine sF ?_;(repeat' ((first|((with_reducible refine yN ?_);refine kS 13 (sml_ok b 10 (by omega) (by omega) (by omega) (fun v1 v2 M2 a1 a2 a3 _ _=>Stop.mk ?_)))|refine oB ?_|fail)<;>refine sF ?_<;>try with_reducible exact tT))<;>try clear hf
  have a1:Mem.le M1 M2:=a1
  have p1:=a2.one
  have p2:=a3.one
  have hf:IsF M2 v1 v2 (ofN (red b 10).1) (ofN (red b 10).2):=isF_ofN a2 a3 ⟨(sm1000 (by have:=hok.le1;omega)).len,(sm1000 (by have:=hok.le1;omega)).len⟩
  have hD2:=(hD.le a1).snoc hf hok
  have hu2:=hu1.le a1
  have ap:frC D++[.ext v1,.ext v2]=frC (D++[⟨v1,v2,ofN (red b 10).1,ofN (red b 10).2⟩]):=by simp[frC,FR.c]
  refine Stop.go ?_
  (try with_reducible refine Fz.of ?_);have hf:=A10 p1 p2 ap hlD hu.one @cE_ment @frC_ment @frC_kill @cE_kill @hasK_nil;refine sF ?_;(repeat' ((first|((with_reducible first|refine yA ?_|refine yC ?_);first|refine kH 30 ?_|refine kS 30 (chance_ok 38 u l (p'+1) 1 6 hu2 (by omega) (by omega) (by omega) (fun c=>Stop.mk ?_)))|refine oB ?_|fail)<;>refine sF ?_<;>try with_reducible exact tT))<;>try clear hf
  cases c with
  | false=>
   refine Stop.go ?_
   (try with_reducible refine Fz.of ?_);have hf:=A7 hw hu.one @cE_ment @frC_ment @frC_kill @cE_kill @hasK_nil;refine sF ?_;(repeat' ((first|refine oB ?_|fail)<;>refine sF ?_<;>try with_reducible exact tT))<;>try clear hf
   exact ⟨n-(i+1),s35St M2 u (p'+1+1) (i+1) n L' (D++[⟨v1,v2,ofN (red b 10).1,ofN (red b 10).2⟩]),by omega,le_sub ⟨rfl,rfl,rfl,rfl,rfl,trivial⟩ ⟨rfl,rfl,rfl,rfl,rfl,trivial⟩ rfl rfl rfl (keepLt_of rfl),M2,_,L',_,i+1,rfl,by omega,by omega,hM.trans a1,hL,hr,hD2,rfl⟩
  | true=>
   refine Stop.go ?_
   (try with_reducible refine Fz.of ?_);have hf:=A6 hu.one @cE_ment @frC_ment @frC_kill @cE_kill @hasK_nil;refine sF ?_;(repeat' ((first|((with_reducible first|refine yA ?_|refine yC ?_);first|refine kH 40 ?_|refine kS 40 (inner38_ok u l (p'+1+1) hu2 (by omega) (fun e x1 x2 M3 c1 c2 c3=>Stop.mk ?_)))|refine oB ?_|fail)<;>refine sF ?_<;>try with_reducible exact tT))<;>try clear hf
   have c1:Mem.le M2 M3:=c1
   have p3:=c2.n.one
   have p4:=c2.d.one
   have hD3:=((hD.le a1).le c1).snoc c2 c3
   have hst:=frC_last D ⟨v1,v2,ofN (red b 10).1,ofN (red b 10).2⟩ ⟨x1,x2,ofN e.1,ofN e.2⟩
   rw[hD.len]at hst
   have hl2:(frC (D++[(⟨v1,v2,ofN (red b 10).1,ofN (red b 10).2⟩:FR)])).length=(i+1)*2:=by rw[frC_len,List.length_append,hD.len];rfl
   have hin:i*2+2≤(i+1)*2:=by omega
   have d4:(i:Int)<((i+1:Nat):Int):=by omega
   refine Stop.go ?_
   (try with_reducible refine Fz.of ?_);have hf:=A12 hw p3 p4 hst hl2 hin d3 d4 hu.one @cE_ment @frC_ment (A4 @frC_kill @cE_kill @hasK_nil @Nat.zero_add);refine sF ?_;(repeat' ((first|refine oB ?_|fail)<;>refine sF ?_<;>try with_reducible exact tT))<;>try clear hf
   exact ⟨n-(i+1),s35St M3 u (p'+1+1+2) (i+1) n L' (D++[⟨x1,x2,ofN e.1,ofN e.2⟩]),by omega,le_sub ⟨rfl,rfl,rfl,rfl,rfl,trivial⟩ ⟨rfl,rfl,rfl,rfl,rfl,trivial⟩ rfl rfl rfl (keepLt_of rfl),M3,_,L',_,i+1,rfl,by omega,by omega,hM.trans (a1.trans c1),hL,hr,hD3,rfl⟩
 ·rintro z ⟨M1,p,L,D,hp,hM,hL,hr,hD,rfl⟩
  refine Fz.bind (Fz.cell (k:=190) (j:=106) (n:=n) (q:=1) (T:=3) (T0:=33) (L.map intV64) [(7,.slo 107 0 n 2),(6,.own 106 0),(4,.own 104 0),(0,.own 38 0)] [(107,27,frC D),(104,33,[.ext (.slice none 0 0)]),(38,31,[.ext u,.ext (.int .i64 (p:Int))])] rfl rfl (by rw[List.length_map,hL,Nat.mul_one]) (show 100≤190 by decide) (by decide) ⟨rfl,rfl,rfl,rfl,trivial⟩ (by simp[mentE,AV.ment]) ⟨rfl,rfl,rfl,trivial⟩ (by simp[mentH,mentL,AV.ment,frC_ment]) (keepLt_of rfl) (fun j hj hj2=>?_) (fun M2 v hM2 hv _=>?_))
  ·have hj:j<100:=hj
   show j∈[38]
   by_cases e1:j=38
   ·subst e1;decide
   exfalso
   simp only[s35St,s35Hp,lkH]at hj2
   rw[if_neg (by omega),if_neg (by omega),if_neg (by omega),if_neg (by omega),if_neg (by omega)]at hj2
   cases hj2
  have hM2:Mem.le M1 M2:=hM2
  refine Fz.flat (k:=107) (n:=n) (w:=2) (T:=27) 7 (D.flatMap FR.c) [(6,.own 106 0),(4,.own 104 0),(0,.own 38 0)] [(106,33,[.ext v]),(104,33,[.ext (.slice none 0 0)]),(38,31,[.ext u,.ext (.int .i64 (p:Int))])] rfl rfl (by rw[flat_len (z:=2) (f:=FR.c) (fun _=>rfl),hD.len]) (show 100≤107 by decide) ⟨rfl,rfl,rfl,trivial⟩ rfl ⟨rfl,rfl,rfl,trivial⟩ rfl (keepLt_of rfl) (fun j hj hj2=>?_) (fun M3 w hM3 hw _=>?_)
  ·have hj:j<100:=hj
   show j∈[38]
   by_cases e1:j=38
   ·subst e1;decide
   exfalso
   simp only[lkH]at hj2
   rw[if_neg (by omega),if_neg (by omega),if_neg (by omega),if_neg (by omega)]at hj2
   cases hj2
  have hM3:Mem.le M2 M3:=hM3
  have hv1:IsL M2 intV64 v L:=by unfold IsL;rw[hL];exact hv
  have hu2:IsR M3 2 FR.c w D:=by unfold IsR;rw[hD.len];exact hw
  have p1:=hu2.one
  have p2:=hv1.one
  have hk:=hK L n p v w M3 D (by simp only[chkL,decide_eq_true_eq];exact ⟨by omega,by omega,hr⟩) hL (by omega) (hM.trans (hM2.trans hM3)) (hv1.le hM3) hu2 (hD.le (hM2.trans hM3))
  (try with_reducible refine Fz.of ?_);have hf:=A9 @s35St.eq_1 @s35Hp.eq_1 p1 p2 hu.one @cE_ment @frC_ment @frC_kill @hasK_nil;refine sF ?_;(repeat' ((first|refine oB ?_|fail)<;>refine sF ?_<;>try with_reducible exact tT))<;>try clear hf
  exact .inl hk
end
section
variable {M:Mem}{K:AV→Hp→Mem→Prop}
def lvSt(M:Mem)(u ur wr ws ww vr vs vw y1 y2 x1 x2:Value)(p k:Nat):St:={env:=[(16,.ext (.int .i64 (k:Int))),(12,.ext (.int .i64 0)),(15,.own 115 0),(13,.own 113 0),(11,.own 111 0),(8,.own 108 0),(6,.own 106 0),(0,.own 38 0)],hp:=[(115,51,[.ext y1,.ext y2,.ext x1,.ext x2]),(113,40,[.ext vr,.ext vs,.ext vw]),(111,40,[.ext wr,.ext ws,.ext ww]),(108,33,[.ext ur]),(106,40,[.ext (.slice none 0 0),.ext (.slice none 0 0),.ext (.slice none 0 0)]),(38,31,[.ext u,.ext (.int .i64 (p:Int))])],M:=M,kb:=100,fx:=[38]}
theorem lived38_ok(u:Value)(t:List Int)(m most:Nat)(hm0:0<m)(hm:m≤8)(hs0:0<most)(hs:most≤7)(hu:IsL M intV64 u t)
  (hK:∀l s q wr ws ww M' (p:Nat),p≤200→Mem.le M M'→IsB M' wr ws ww l s q→BX l s q (b0*1000000^6)→K (.ext (.tuple #[.agg #[wr,ws,ww],.bool true])) [(38,31,[.ext u,.ext (.int .i64 (p:Int))])] M') :
  CallS Tryz.prog 19 [.own 38 0,.ext (.int .i64 (m:Int)),.ext (.int .i64 (most:Int))] [(38,31,[.ext u,.ext (.int .i64 (0:Int))])] M [] K:=by
 refine inlS (cs:=[]) Tryz.mixed Tryz.func19 rfl (by kernel_rfl) 100 rfl rfl ?_
 simp only[Tryz.f19]
 have hf:=hu.one;refine sF ?_;(repeat' ((first|((with_reducible first|refine yA ?_|refine yC ?_);first|refine kH 11 ?_|refine kS 11 (some38_ok u t m hm0 hm hu (fun l n p ur up M1 P hc hln hp m1 h1 h2 h3=>Stop.mk ?_)))|refine oB ?_|fail)<;>refine sF ?_<;>try with_reducible exact tT))<;>try clear hf
 have m1:Mem.le M M1:=m1
 subst hln
 have hl8:=chk_len hc
 have o1:=h1.one
 have o2:=h2.one
 have n1:=h1.len
 have s1:=h1.sl
 obtain ⟨N,hN1,hN2⟩:=h3.val
 have hu1:=hu.le m1
 have hPl:=h3.len
 refine Stop.go ?_
 have hf:=A3 o1 o2 hu.one;refine sF ?_;(repeat' ((first|((with_reducible first|refine yA ?_|refine yC ?_);first|refine kH 14 ?_|refine kS 14 (nextI_ok 38 u t p 2 hu1 (by omega) (by omega) (by omega) (fun x hx0 hx1=>Stop.mk ?_)))|refine oB ?_|fail)<;>refine sF ?_<;>try with_reducible exact tT))<;>try clear hf
 obtain ⟨a,rfl⟩:=Int.eq_ofNat_of_zero_le hx0
 obtain ⟨b,hb⟩:∃b:Nat,b=a+1:=⟨_,rfl⟩
 have w1:IntKind.i64.wrap (1+(a:Int))=(b:Int):=by rw[wrap_id (by omega) (by omega)];omega
 obtain ⟨q,hq,hB⟩:=newB_law (m:=(b:Int)) hc (by omega) hPl hN1 hN2
 have hpr:P.all (fun x=>innF x.l1 x.l2)=true→P.length≤8→∀s,(prodV 1 1 (facG s 0 P)).1=0:=fun _ h8 s=>(newW_red hN1 hN2 (by have:=congrArg List.length hN1;simp at this;omega) s).1
 have hlen:=hB.len
 generalize setsL l (b:Int)=S at *
 refine Stop.go ?_
 have hf:=A4 w1 o1 o2 hu.one;refine sF ?_;(repeat' ((first|((with_reducible refine yN ?_);refine kS 15 (pnew_ok (b:Int) h1 h2 h3.ok (by omega) (by omega) hpr (hq▸(fun wr ws ww M2 m2 g1 g2 g3=>Stop.mk ?_))))|refine oB ?_|fail)<;>refine sF ?_<;>try with_reducible exact tT))<;>try clear hf
 have m2:Mem.le M1 M2:=m2
 have gW:IsB M2 wr ws ww l S q:=⟨g1,g2,g3⟩
 clear g1 g2 g3
 have c1:=gW.l.one
 have c2:=gW.s.one
 have c3:=gW.q.one
 have h12:=h1.le m2
 have h22:=h2.le m2
 have h32:=h3.le m2
 refine Stop.go ?_
 have hf:=A6 o1 o2 c1 c2 c3 hu.one;refine sF ?_;(repeat' ((first|((with_reducible refine yN ?_);refine kS 16 (rnew_ok (b:Int) h12 h22 h32.ok (by omega) (by omega) (hq▸(fun vr vs vw M3 m3 g1 g2 g3=>Stop.mk ?_))))|refine oB ?_|fail)<;>refine sF ?_<;>try with_reducible exact tT))<;>try clear hf
 have m3:Mem.le M2 M3:=m3
 have gV:IsB M3 vr vs vw l S q:=⟨g1,g2,g3⟩
 clear g1 g2 g3
 have gW:=gW.le m3
 have d1:=gV.l.one
 have d2:=gV.s.one
 have d3:=gV.q.one
 refine Stop.go ?_
 have hf:=A9 o1 o2 c1 c2 c3 d1 d2 d3 hu.one;refine sF ?_;(repeat' ((first|((with_reducible refine yN ?_);refine kS 17 (same35_ok gW gV (by omega) (by omega) (by omega) (Stop.mk ?_)))|refine oB ?_|fail)<;>refine sF ?_<;>try with_reducible exact tT))<;>try clear hf
 have hu3:=(hu1.le m2).le m3
 refine Stop.go ?_
 have hf:=A9 o1 o2 c1 c2 c3 d1 d2 d3 hu.one;refine sF ?_;(repeat' ((first|((with_reducible first|refine yA ?_|refine yC ?_);first|refine kH 20 ?_|refine kS 20 (model38_ok u t (p+1) hu3 (by omega) (fun f g y1 y2 x1 x2 p2 M4 m4 k1 k2 k3 k4 k5 k6=>Stop.mk ?_)))|refine oB ?_|fail)<;>refine sF ?_<;>try with_reducible exact tT))<;>try clear hf
 have m4:Mem.le M3 M4:=m4
 have e1:=k1.n.one
 have e2:=k1.d.one
 have e3:=k2.n.one
 have e4:=k2.d.one
 have hu4:=hu3.le m4
 refine Stop.go ?_
 have hf:=A12 o1 o2 c1 c2 c3 d1 d2 d3 e1 e2 e3 (A2 e4 hu.one);refine sF ?_;(repeat' ((first|((with_reducible first|refine yA ?_|refine yC ?_);first|refine kH 14 ?_|refine kS 14 (nextI_ok 38 u t p2 (most:Int) hu4 (by omega) (by omega) (by omega) (fun x hx0 hx1=>Stop.mk ?_)))|refine oB ?_|fail)<;>refine sF ?_<;>try with_reducible exact tT))<;>try clear hf
 obtain ⟨k0,rfl⟩:=Int.eq_ofNat_of_zero_le hx0
 have gW4:=gW.le m4
 have gV4:=gV.le m4
 have hM4:Mem.le M M4:=m1.trans (m2.trans (m3.trans m4))
 have h14:=(h12.le m3).le m4
 refine Stop.go ?_
 have hf:=A12 o1 o2 c1 c2 c3 d1 d2 d3 e1 e2 e3 (A2 e4 hu.one);refine sF ?_;(repeat' ((first|refine oB ?_|fail)<;>refine sF ?_<;>try with_reducible exact tT))<;>try clear hf
 refine ⟨fun d z=>∃M' j k p q wr ws ww vr vs vw,d=k∧j+k≤6∧p≤106+2*j∧Mem.le M4 M'∧IsB M' wr ws ww l S q∧IsB M' vr vs vw l S q∧BX l S q (b0*1000000^j)∧z=lvSt M' u ur wr ws ww vr vs vw y1 y2 x1 x2 p k,
  ⟨k0,lvSt M4 u ur wr ws ww vr vs vw y1 y2 x1 x2 (p2+1) k0,le_sub ⟨rfl,rfl,rfl,rfl,rfl,rfl,rfl,rfl,trivial⟩ ⟨rfl,rfl,rfl,rfl,rfl,rfl,trivial⟩ rfl rfl rfl (keepLt_of rfl),⟨M4,0,k0,p2+1,q,wr,ws,ww,vr,vs,vw,rfl,by omega,by omega,Mem.le.refl _,gW4,gV4,by rw[Nat.pow_zero,Nat.mul_one];exact hB,rfl⟩⟩,?_⟩
 clear gW4 gV4 hB c1 c2 c3 d1 d2 d3 hlen hq
 rintro k z ⟨M5,j,_,p3,q,wr,ws,ww,vr,vs,vw,rfl,hjk,hp3,hM,gW,gV,hB,rfl⟩
 have c1:=gW.l.one
 have c2:=gW.s.one
 have c3:=gW.q.one
 have d1:=gV.l.one
 have d2:=gV.s.one
 have d3:=gV.q.one
 have hlen:=hB.len
 by_cases hk0:0<k
 case neg=>
  obtain rfl:k=0:=by omega
  have z0:decide ((0:Int)<((0:Nat):Int))=false:=by decide
  have hk:=hK l S q wr ws ww M5 p3 (by omega) (hM4.trans hM) gW (hB.mono (Nat.mul_le_mul_left _ (Nat.pow_le_pow_right (by decide) (by omega))))
  have hf:=A12 @lvSt.eq_1 z0 o1 c1 c2 c3 d1 d2 d3 e1 e2 (A3 e3 e4 hu.one);refine sF ?_;(repeat' ((first|refine oB ?_|fail)<;>refine sF ?_<;>try with_reducible exact tT))<;>try clear hf
  exact hk
 have z0:decide ((0:Int)<(k:Int))=true:=by rw[decide_eq_true_eq];omega
 have z1:IntKind.i64.wrap ((k:Int)-1)=((k-1:Nat):Int):=pred_i (by omega) (by omega)
 have sh:=shl_one (i:=l.length) (by omega)
 have hT:2^l.length≤2^8:=Nat.pow_le_pow_right (by decide) hl8.2
 have hT1:1≤2^l.length:=Nat.one_le_two_pow
 have hu5:=hu4.le hM
 have h15:=h14.le hM
 have n15:=h15.len
 have s15:=h15.sl
 have hf:=A12 @lvSt.eq_1 z0 sh n15 s15 o1 c1 c2 c3 d1 d2 (A6 d3 e1 e2 e3 e4 hu.one);refine sF ?_;(repeat' ((first|((with_reducible first|refine yA ?_|refine yC ?_);first|refine kH 14 ?_|refine kS 14 (nextI_ok 38 u t p3 ((2^l.length:Nat):Int) hu5 (by omega) (by omega) (by omega) (fun x hx0 hx1=>Stop.mk ?_)))|refine oB ?_|fail)<;>refine sF ?_<;>try with_reducible exact tT))<;>try clear hf
 have hset:=setB_of hx0 hx1
 refine Stop.go ?_
 have hf:=A12 n15 s15 o1 c1 c2 c3 d1 d2 d3 e1 e2 (A3 e3 e4 hu.one);refine sF ?_;(repeat' ((first|((with_reducible first|refine yA ?_|refine yC ?_);first|refine kH 30 ?_|refine kS 30 (chance_ok 38 u t (p3+1) 1 2 hu5 (by omega) (by omega) (by omega) (fun failed=>Stop.mk ?_)))|refine oB ?_|fail)<;>refine sF ?_<;>try with_reducible exact tT))<;>try clear hf
 obtain ⟨q',hB',hU⟩:=hB.upd (pool:=x) (failed:=failed) k3 k4 k5 (by rw[Nat.mul_assoc,←Nat.pow_succ];exact smB (by omega)) hset
 obtain ⟨LW,w1,w2,w3⟩:=gW.q
 obtain ⟨LV,v1,v2,v3⟩:=gV.q
 have lW:LW.length=q.length:=by have:=congrArg List.length w3;simpa using this
 have lV:LV.length=q.length:=by have:=congrArg List.length v3;simpa using this
 have uW:=hU LW w3
 have uV:=hU LV v3
 have k15:=(k1.le hM)
 have k25:=(k2.le hM)
 have hmap:(S.map fun (x:Nat)=>(x:Int)).length=S.length:=List.length_map ..
 refine Stop.go ?_
 have hf:=A12 o1 c1 c2 c3 d1 d2 d3 e1 e2 e3 e4 hu.one;refine sF ?_;(repeat' ((first|((with_reducible refine yN ?_);refine kS 21 (update_ok (fl:=opN f) (dt:=opN g) x failed gW.l gW.s.nat w1 w2 (by omega) (by omega) (by omega) k15 k25 (uW▸(fun ar at_ aw M6 m6 g1 g2 g3=>Stop.mk ?_))))|refine oB ?_|fail)<;>refine sF ?_<;>try with_reducible exact tT))<;>try clear hf
 have m6:Mem.le M5 M6:=m6
 have gA:IsB M6 ar at_ aw l S q':=⟨g1,g2,g3⟩
 clear g1 g2 g3
 have i1:=gA.l.one
 have i2:=gA.s.one
 have i3:=gA.q.one
 have gV6:=gV.le m6
 have k16:=k15.le m6
 have k26:=k25.le m6
 refine Stop.go ?_
 have hf:=A12 o1 c1 c2 c3 d1 d2 d3 e1 e2 e3 e4 (A4 i1 i2 i3 hu.one);refine sF ?_;(repeat' ((first|((with_reducible refine yN ?_);refine kS 66 (rupdate_ok (fl:=opN f) (dt:=opN g) x failed gV6.l gV6.s.nat (v1.le m6) (v2.le m6) (by omega) (by omega) (by omega) k16 k26 (uV▸(fun br bs bw M7 m7 g1 g2 g3=>Stop.mk ?_))))|refine oB ?_|fail)<;>refine sF ?_<;>try with_reducible exact tT))<;>try clear hf
 have m7:Mem.le M6 M7:=m7
 have gC:IsB M7 br bs bw l S q':=⟨g1,g2,g3⟩
 clear g1 g2 g3
 have gA:=gA.le m7
 have hlen':=hB'.len
 have r1:=gC.l.one
 have r2:=gC.s.one
 have r3:=gC.q.one
 refine Stop.go ?_
 have hf:=A12 z1 o1 e1 e2 e3 e4 i1 i2 i3 r1 r2 (A2 r3 hu.one);refine sF ?_;(repeat' ((first|((with_reducible refine yN ?_);refine kS 17 (same35_ok gA gC (by omega) (by omega) (by omega) (Stop.mk ?_)))|refine oB ?_|fail)<;>refine sF ?_<;>try with_reducible exact tT))<;>try clear hf
 refine Stop.go ?_
 have hf:=A12 z1 o1 e1 e2 e3 e4 i1 i2 i3 r1 r2 (A2 r3 hu.one);refine sF ?_;(repeat' ((first|refine oB ?_|fail)<;>refine sF ?_<;>try with_reducible exact tT))<;>try clear hf
 exact ⟨k-1,lvSt M7 u ur ar at_ aw br bs bw y1 y2 x1 x2 (p3+1+1) (k-1),by omega,le_sub ⟨rfl,rfl,rfl,rfl,rfl,rfl,rfl,rfl,trivial⟩ ⟨rfl,rfl,rfl,rfl,rfl,rfl,trivial⟩ rfl rfl rfl (keepLt_of rfl),M7,j+1,k-1,p3+1+1,q',ar,at_,aw,br,bs,bw,rfl,by omega,by omega,hM.trans (m6.trans m7),gA,gC,by rw[Nat.pow_succ,←Nat.mul_assoc];exact hB',rfl⟩
end
section
variable {M:Mem}{K:AV→Hp→Mem→Prop}{ur us uw x1 x2 y1 y2:Value}{l:List Int}{s X:List Nat}{b:Nat}{f g:Nat×Nat}
def afterX(l:List Int)(pool:Int)(failed:Bool)(f g:Nat×Nat)(X s:List Nat):List Nat:=mulX (effN l pool.toNat) (outN failed f) (outN failed g) X s
theorem PX.one{l:List Int}(h:PX s X b)(hf:OkN f)(hg:OkN g)(pool:Int)(failed:Bool):PX s (afterX l pool failed f g X s) (b*1000000):=h.upd hf.out hg.out
theorem smB7:Sm (b0*1000000^6*1000000):=by rw[Nat.mul_assoc,←Nat.pow_succ];exact smB (by omega)
theorem smB8:Sm (b0*1000000^6*1000000*1000000):=by
 have e:b0*1000000^6*1000000*1000000=b0*1000000^8:=by rw[Nat.pow_succ 1000000 7,Nat.pow_succ 1000000 6,Nat.mul_assoc,Nat.mul_assoc,Nat.mul_assoc]
 rw[e];exact smB (by omega)
theorem qX_len(X:List Nat):(qX X).length=X.length:=by unfold qX;rw[List.length_map]
theorem updX_ok(pool:Int)(failed:Bool)(h:IsB M ur us uw l s (qX X))(hP:PX s X b)(hc:chkL l=true)(hs:∃m:Int,(m=1∨m=2)∧s=setsL l m)(b1:l.length<1000000)(b2:s.length<1000000)
  (hf:OkN f) (hg:OkN g) (hfg:f.1*g.2<g.1*f.2) (hb:Sm (b*1000000)) (hp:setB l pool=true) (hy:IsF M y1 y2 (ofN f.1) (ofN f.2)) (hx:IsF M x1 x2 (ofN g.1) (ofN g.2))
  (hK:∀wr ws ww M',Mem.le M M'→IsB M' wr ws ww l s (qX (afterX l pool failed f g X s))→K (.ext (.tuple #[.agg #[wr,ws,ww],.int .i64 0])) [] M') :
  CallS Tryz.prog 21 [.ext (.agg #[ur,us,uw]),.ext (.agg #[y1,y2,x1,x2]),.ext (.int .i64 pool),.ext (.bool failed)] [] M [] K:=by
 obtain ⟨L,w1,w2,w3⟩:=h.q
 have lL:L.length=s.length:=by have:=congrArg List.length w3;rw[List.length_map,List.length_map,qX_len,hP.len]at this;exact this
 have hu:=hP.updB (pool:=pool) (failed:=failed) hc hs hf hg hfg hb hp w3
 refine update_ok (fl:=opN f) (dt:=opN g) pool failed h.l h.s.nat w1 w2 b1 (by rw[List.length_map];exact b2) (by omega) hy hx ?_
 rw[hu]
 exact fun wr ws ww M1 m1 g1 g2 g3=>hK wr ws ww M1 m1 ⟨g1,g2,g3⟩
end
theorem FQ.get{M:Mem}{u:Value}{qs:List (Nat×Nat)}(h:FQ M u qs){i:Nat}(hi:i<qs.length):∃v1 v2,nilS u=false∧lookM Tryz.prog 27 M (elemP u 2 i)=some (.agg #[v1,v2])∧IsF M v1 v2 (ofN qs[i].1) (ofN qs[i].2):=by
 obtain ⟨L,h3,h4,hq⟩:=h
 have hl:L.length=qs.length:=by have:=congrArg List.length hq;simpa using this
 have k1:i<L.length:=by omega
 have nn1:=h3.nn k1
 have a1:=h3.at (P:=Tryz.prog) (T:=27) (fun _=>rfl) tk27 tz27 k1
 have f1:=h4 _ (List.getElem_mem k1)
 have v1:prV L[i]=(ofN qs[i].1,ofN qs[i].2):=by
  have:=congrArg (fun X=>X[i]?) hq
  simp only[List.getElem?_map,List.getElem?_eq_getElem k1,List.getElem?_eq_getElem hi,Option.map_some]at this
  exact Option.some.inj this
 generalize L[i]=X at *
 obtain ⟨x1,x2,y1,y2⟩:=X
 unfold prV at v1
 simp only[Prod.mk.injEq]at v1
 obtain ⟨e1,e2⟩:=v1
 rw[←e1,←e2]
 exact ⟨x1,x2,nn1,a1,f1⟩
theorem FQ.sz{M:Mem}{u:Value}{qs:List (Nat×Nat)}(h:FQ M u qs):isSl u=true∧slen u=qs.length:=by
 obtain ⟨L,h3,h4,hq⟩:=h
 have hl:L.length=qs.length:=by have:=congrArg List.length hq;simpa using this
 exact ⟨h3.sl,hl▸h3.len⟩
theorem FracK.of{M:Mem}{K:AV→Hp→Mem→Prop}{v:Int×Nat×Nat}{r:Nat×Nat}(hr:v=(0,r))(b:Sm r.1∧Sm r.2)(h:∀w1 w2 M',Mem.le M M'→IsF M' w1 w2 (ofN r.1) (ofN r.2)→K (.ext (.tuple #[.agg #[w1,w2],.int .i64 0])) [] M'):FracK M K v:=by
 rw[hr]
 exact fun w1 w2 M' hM g1 g2 _ _=>h w1 w2 M' hM (isF_ofN g1 g2 ⟨b.1.len,b.2.len⟩)
theorem red_cross{x d y e:Nat}(hd:0<d)(he:0<e)(hx:Sm x)(hds:Sm d)(hy:Sm y)(hes:Sm e)(h:x*e=y*d):red x d=red y e:=by
 have h1:=ex_red (a:=x) (b:=d) hd hd rfl hx hds
 have h2:=ex_red (a:=x) (b:=d) hd he h hy hes
 exact congrArg Prod.snd (h1.symm.trans h2)
theorem red_okn{f:Nat×Nat}(h:OkN f):red f.1 f.2=f:=by
 unfold red
 rw[h.2.2.2,Nat.div_one,Nat.div_one]
theorem OkN.sm{f:Nat×Nat}(h:OkN f):0<f.1∧0<f.2∧Sm f.1∧Sm f.2:=by
 obtain ⟨h1,h2,h3,_⟩:=h
 exact ⟨h1,by omega,sm1000 (by omega),sm1000 (by omega)⟩
section
variable {x d y e z w:Nat}
theorem mul_rr(hd:0<d)(he:0<e)(hw:0<w)(hx:Sm x)(hds:Sm d)(hy:Sm y)(hes:Sm e)(hz:Sm z)(hws:Sm w)(h:z*(d*e)=x*y*w) :
  mulF (ofN (red x d).1) (ofN (red x d).2) (ofN (red y e).1) (ofN (red y e).2)=(0,red z w):=by
 have h1:=red_p (x:=x) hd
 have h2:=red_p (x:=y) he
 rw[mulF_of (chk_red hx hds hd) (chk_red hy hes he)]
 refine ex_red (Nat.mul_pos h1.pos h2.pos) hw ?_ hz hws
 have e1:=h1.eq
 have e2:=h2.eq
 generalize (red x d).1=n1 at *
 generalize (red x d).2=d1 at *
 generalize (red y e).1=n2 at *
 generalize (red y e).2=d2 at *
 refine Nat.eq_of_mul_eq_mul_right (Nat.mul_pos hd he) ?_
 calc n1*n2*w*(d*e)=(n1*d)*(n2*e)*w:=by grind
  _=x*d1*(y*d2)*w:=by rw[e1,e2]
  _=(x*y*w)*(d1*d2):=by grind
  _=z*(d*e)*(d1*d2):=by rw[h]
  _=z*(d1*d2)*(d*e):=by grind
theorem add_rr(hd:0<d)(he:0<e)(hw:0<w)(hx:Sm x)(hds:Sm d)(hy:Sm y)(hes:Sm e)(hz:Sm z)(hws:Sm w)(h:z*(d*e)=(x*e+y*d)*w) :
  addF (ofN (red x d).1) (ofN (red x d).2) (ofN (red y e).1) (ofN (red y e).2)=(0,red z w):=by
 have h1:=red_p (x:=x) hd
 have h2:=red_p (x:=y) he
 rw[addF_of (chk_red hx hds hd) (chk_red hy hes he)]
 refine ex_red (Nat.mul_pos h1.pos h2.pos) hw ?_ hz hws
 have e1:=h1.eq
 have e2:=h2.eq
 generalize (red x d).1=n1 at *
 generalize (red x d).2=d1 at *
 generalize (red y e).1=n2 at *
 generalize (red y e).2=d2 at *
 refine Nat.eq_of_mul_eq_mul_right (Nat.mul_pos hd he) ?_
 calc (n1*d2+n2*d1)*w*(d*e)=((n1*d)*d2*e+(n2*e)*d1*d)*w:=by grind
  _=(x*d1*d2*e+y*d2*d1*d)*w:=by rw[e1,e2]
  _=((x*e+y*d)*w)*(d1*d2):=by grind
  _=z*(d*e)*(d1*d2):=by rw[h]
  _=z*(d1*d2)*(d*e):=by grind
theorem sub_1r(hd:0<d)(hx:Sm x)(hds:Sm d)(h:x≤d):subF (ofN 1) (ofN 1) (ofN (red x d).1) (ofN (red x d).2)=(0,red (d-x) d):=by
 have h1:=red_p (x:=x) hd
 have e1:=h1.eq
 have hle:(red x d).1≤(red x d).2:=by
  refine Nat.le_of_mul_le_mul_right ?_ hd
  rw[e1,Nat.mul_comm (red x d).2]
  exact Nat.mul_le_mul_right _ h
 rw[subF_of (by decide +kernel) (chk_red hx hds hd) (by omega),Nat.one_mul,Nat.mul_one]
 refine ex_red h1.pos hd ?_ (hds.le (by omega)) hds
 rw[Nat.sub_mul,Nat.sub_mul,e1,Nat.mul_comm d]
end
def filtL:List FR→List Nat→(Nat→Bool)→List FR
 | x :: r,s :: t,c=>if c s then x :: filtL r t c else filtL r t c
 | _,_,_=>[]
theorem filtL_take(c:Nat→Bool):∀(L:List FR) (S:List Nat) (k:Nat) (h1:k<L.length) (h2:k<S.length),filtL (L.take (k+1)) (S.take (k+1)) c=filtL (L.take k) (S.take k) c++(if c S[k] then [L[k]] else [])
 | x :: r,s :: t,0,_,_=>by simp[filtL]
 | x :: r,s :: t,k+1,h1,h2=>by
  simp only[List.take_succ_cons,filtL,List.getElem_cons_succ]
  rw[filtL_take c r t k (by simpa using h1) (by simpa using h2)]
  split<;>simp
theorem filtL_len(c:Nat→Bool):∀(L:List FR) (S:List Nat),(filtL L S c).length≤L.length
 | [],_=>by simp[filtL]
 | _ :: _,[]=>by simp[filtL]
 | x :: r,s :: t=>by
  rw[filtL]
  have:=filtL_len c r t
  split<;>simp<;>omega
theorem filtL_mem(c:Nat→Bool):∀(L:List FR) (S:List Nat),∀x∈filtL L S c,x∈L
 | [],_,x,h=>by simp[filtL]at h
 | _ :: _,[],x,h=>by simp[filtL]at h
 | y :: r,s :: t,x,h=>by
  rw[filtL]at h
  split at h
  ·rcases List.mem_cons.1 h with h|h
   ·exact h▸List.mem_cons_self ..
   ·exact List.mem_cons_of_mem _ (filtL_mem c r t x h)
  ·exact List.mem_cons_of_mem _ (filtL_mem c r t x h)
def totF(L:List FR)(S:List Nat)(c:Nat→Bool):Int×Nat×Nat:=sumF (filtL L S c)
section
variable {M:Mem}{K:AV→Hp→Mem→Prop}{ur us uw x1 x2 y1 y2:Value}{l s:List Int}{S:List Nat}{L:List FR}{fl dt:LP}
def ttH(v:Int):Hp:=[(50,3,[.ext (.int .i64 v)])]
def ttSt(M:Mem)(fn:FuncId)(ur us uw:Value)(v:Int)(n k:Nat)(E:List FR):St:={env:=[(12,.ext (.int .i64 (k:Int))),(11,.ext (.int .i64 (n:Int))),(10,.ext us),(6,.slo 106 0 E.length 2),(5,.ext (.int .i64 0)),(4,.own 104 0),(2,.own 102 0),(1,.fn fn [.own 50 0])],hp:=(106,27,frC E) :: (104,27,[.ext (.slice none 0 0),.ext (.slice none 0 0)]) :: (102,40,[.ext ur,.ext us,.ext uw]) :: ttH v,M:=M,kb:=100,fx:=[50]}
theorem total_ok(fn:FuncId)(v:Int)(c:Nat→Bool)(hcb:callsB Tryz.prog fn=true)(hcl:∀(s:Nat) M' K',s<256→K' (.ext (.bool (c s))) (ttH v) M'→CallS Tryz.prog fn [.ext (.int .i64 (s:Int)),.own 50 0] (ttH v) M' [] K')
  (h1:IsL M intV64 ur l) (h2:IsL M natV us S) (h3:IsR M 2 FR.c uw L) (h4:okFL M L) (b2:S.length<1000000) (hl:S.length=L.length) (hS:∀s∈S,s<256)
  (hK:∀w1 w2 M',Mem.le M M'→IsL M' u32V w1 (ofN (totF L S c).2.1)→IsL M' u32V w2 (ofN (totF L S c).2.2)→K (.ext (.tuple #[.agg #[w1,w2],.int .i64 (totF L S c).1])) (ttH v) M') :
  CallS Tryz.prog 84 [.ext (.agg #[ur,us,uw]),.fn fn [.own 50 0]] (ttH v) M [] K:=by
 refine inlS (cs:=[]) Tryz.mixed Tryz.func84 rfl (by kernel_rfl) 100 rfl rfl ?_
 simp only[Tryz.f84]
 have o1:=h1.one
 have o2:=h2.one
 have o3:=h3.one
 have n2:=h2.len
 have s2:=h2.sl
 have s3:=h3.sl
 have n3:=h3.len
 rw[←hl]at n3
 have e0:keysH (ttH v)=[50]:=rfl
 have hf:=A7 @ttH.eq_1 o1 o2 o3 n2 s2 hcb;refine sF ?_;(repeat' ((first|refine oB ?_|fail)<;>refine sF ?_<;>try with_reducible exact tT))<;>try clear hf
 refine ⟨fun m z=>∃M' E k,m=S.length-k∧k≤S.length∧Mem.le M M'∧E=filtL (L.take k) (S.take k) c∧z=ttSt M' fn ur us uw v S.length k E,
  ⟨S.length,ttSt M fn ur us uw v S.length 0 [],(le_nil 6 106 27 2 rfl (.inl (by simp[awayB,mentE,mentH,mentL,AV.ment,hasK]))).trans (le_sub ⟨rfl,rfl,rfl,rfl,rfl,rfl,rfl,rfl,trivial⟩ ⟨rfl,rfl,rfl,rfl,trivial⟩ rfl rfl rfl (keepLt_of rfl)),⟨M,[],0,by omega,by omega,Mem.le.refl _,rfl,rfl⟩⟩,?_⟩
 rintro m z ⟨M2,E,k,rfl,hk,hM,hE,rfl⟩
 have hEl:E.length≤L.length:=by
  rw[hE]
  exact Nat.le_trans (filtL_len c _ _) (List.length_take_le' ..)
 have hEo:okFL M2 E:=fun x hx=>(h4.le hM) x (List.mem_of_mem_take (filtL_mem c _ _ x (hE▸hx)))
 by_cases hlt:k<S.length
 case neg=>
  obtain rfl:k=S.length:=by omega
  have d1:decide ((S.length:Int)<(S.length:Int))=false:=by simp
  rw[List.take_length,List.take_of_length_le (by omega)]at hE
  have hT:totF L S c=sumF E:=by unfold totF;rw[hE]
  rw[hT]at hK
  have hf:=A12 @ttSt.eq_1 @ttH.eq_1 d1 o1 o2 o3 n2 s2 hcb @frC_ment @frC_kill @hasK_nil;refine sF ?_;(repeat' ((first|((with_reducible first|refine yA ?_|refine yC ?_);first|refine kH 63 ?_|refine kS 63 (fsum_bor 106 E.length _ rfl hEo (by omega) (fun w1 w2 M3 m3 g1 g2=>Stop.mk ?_)))|refine oB ?_|fail)<;>refine sF ?_<;>try with_reducible exact tT))<;>try clear hf
  have m3:Mem.le M2 M3:=m3
  have p1:=g1.one
  have p2:=g2.one
  have hk:=hK w1 w2 M3 (hM.trans m3) g1 g2
  refine Stop.go ?_
  have hf:=A9 @ttH.eq_1 p1 p2 o1 o2 o3 @frC_ment @frC_kill @hasK_nil;refine sF ?_;(repeat' ((first|refine oB ?_|fail)<;>refine sF ?_<;>try with_reducible exact tT))<;>try clear hf
  exact hk
 have d1:decide ((k:Int)<(S.length:Int))=true:=by rw[decide_eq_true_eq];omega
 have q1:(0:Int)≤(k:Int):=by omega
 have q2:(k:Int)<(S.length:Int):=by omega
 have hkL:k<L.length:=by omega
 have f1:=(h2.le hM).idx (P:=Tryz.prog) (T:=3) tk3 tz3 (by omega) hlt
 have hs:=hS _ (List.getElem_mem hlt)
 have wk:IntKind.i64.wrap ((k:Int)+1)=((k+1:Nat):Int):=succ_i (by omega)
 have hu2:=h3.le hM
 have hnn:=hu2.nn hkL
 have hat:=hu2.at (P:=Tryz.prog) (T:=27) (fun _=>rfl) tk27 tz27 hkL
 have hF:=(h4.le hM) _ (List.getElem_mem hkL)
 have hst:=filtL_take c L S k hkL hlt
 rw[←hE]at hst
 have hlE:(frC E).length=E.length*2:=frC_len E
 generalize L[k]=x at *
 generalize S[k]=sk at *
 obtain ⟨v1,v2,w1,w2⟩:=x
 have hat:lookM Tryz.prog 27 M2 (elemP uw 2 k)=some (.agg #[v1,v2]):=hat
 have hF:IsF M2 v1 v2 w1 w2:=hF
 have p1:=hF.n.one
 have p2:=hF.d.one
 cases hc:c sk with
 | true=>
  rw[hc,if_pos rfl]at hst
  have ap:frC E++[.ext v1,.ext v2]=frC (E++[⟨v1,v2,w1,w2⟩]):=by simp[frC,FR.c]
  have hf:=A12 @ttSt.eq_1 @ttH.eq_1 @natV.eq_1 d1 q1 q2 f1 wk hcb hc hnn (A12 hat p1 p2 ap hlE o1 o2 o3 n2 s2 n3 (A4 s3 @frC_ment @frC_kill @hasK_nil));refine sF ?_;(repeat' ((first|(((with_reducible refine yA ?_);refine kH fn ?_))|(((with_reducible refine yC ?_);refine kS fn (hcl sk _ _ hs ?_)))|refine oB ?_|fail)<;>refine sF ?_<;>try with_reducible exact tT))<;>try clear hf
  exact ⟨S.length-(k+1),ttSt M2 fn ur us uw v S.length (k+1) (E++[⟨v1,v2,w1,w2⟩]),by omega,le_sub ⟨rfl,rfl,rfl,by rw[List.length_append];rfl,rfl,rfl,rfl,rfl,trivial⟩ ⟨rfl,rfl,rfl,rfl,trivial⟩ rfl rfl rfl (keepLt_of rfl),M2,_,k+1,rfl,by omega,hM,hst.symm,rfl⟩
 | false=>
  rw[hc,if_neg (by decide),List.append_nil]at hst
  have hf:=A12 @ttSt.eq_1 @ttH.eq_1 @natV.eq_1 d1 q1 q2 f1 wk hcb hc o1 (A7 o2 o3 n2 s2 @frC_ment @frC_kill @hasK_nil);refine sF ?_;(repeat' ((first|(((with_reducible refine yA ?_);refine kH fn ?_))|(((with_reducible refine yC ?_);refine kS fn (hcl sk _ _ hs ?_)))|refine oB ?_|fail)<;>refine sF ?_<;>try with_reducible exact tT))<;>try clear hf
  exact ⟨S.length-(k+1),ttSt M2 fn ur us uw v S.length (k+1) E,by omega,le_sub ⟨rfl,rfl,rfl,rfl,rfl,rfl,rfl,rfl,trivial⟩ ⟨rfl,rfl,rfl,rfl,trivial⟩ rfl rfl rfl (keepLt_of rfl),M2,_,k+1,rfl,by omega,hM,hst.symm,rfl⟩
def badC(eff s:Nat):Bool:=decide (¬eff &&& s=0)
theorem risk1_ok(eff s:Nat)(he:eff<256)(hs:s<256)(hK:K (.ext (.bool (badC eff s))) (ttH (eff:Int)) M) :
  CallS Tryz.prog 121 [.ext (.int .i64 (s:Int)),.own 50 0] (ttH (eff:Int)) M [] K:=by
 refine inlS (cs:=[]) Tryz.mixed Tryz.func121 rfl (by kernel_rfl) 100 rfl rfl ?_
 simp only[Tryz.f121]
 have ba:=bits_and (a:=eff) (b:=s) (by omega) (by omega)
 unfold badC at hK
 by_cases h:eff &&& s=0
 ·rw[decide_eq_false (by simp[h])]at hK
  have d1:decide (((eff &&& s:Nat):Int)=0)=true:=by rw[h];rfl
  have hf:=A3 @ttH.eq_1 ba d1;refine sF ?_;(repeat' ((first|refine oB ?_|fail)<;>refine sF ?_<;>try with_reducible exact tT))<;>try clear hf
  exact hK
 ·rw[decide_eq_true h]at hK
  have d1:decide (((eff &&& s:Nat):Int)=0)=false:=by rw[decide_eq_false_iff_not];omega
  have hf:=A3 @ttH.eq_1 ba d1;refine sF ?_;(repeat' ((first|refine oB ?_|fail)<;>refine sF ?_<;>try with_reducible exact tT))<;>try clear hf
  exact hK
def riskF(l s:List Int)(L:List FR)(p:Int):Int×Nat×Nat:=if setB l p then totF L (toN s) (badC (effN l p.toNat)) else (3,0,0)
theorem risk_ok(p:Int)(h1:IsL M intV64 ur l)(h2:IsL M intV64 us s)(h3:IsR M 2 FR.c uw L)(h4:okFL M L)(b1:l.length<1000000)(b2:s.length<1000000)(hcb:ChkB l s L)
  (hK:∀w1 w2 M',Mem.le M M'→IsL M' u32V w1 (ofN (riskF l s L p).2.1)→IsL M' u32V w2 (ofN (riskF l s L p).2.2)→K (.ext (.tuple #[.agg #[w1,w2],.int .i64 (riskF l s L p).1])) [] M') :
  CallS Tryz.prog 76 [.ext (.agg #[ur,us,uw]),.ext (.int .i64 p)] [] M [] K:=by
 refine inlS (cs:=[]) Tryz.mixed Tryz.func76 rfl (by kernel_rfl) 44 rfl rfl ?_
 simp only[Tryz.f76]
 have o1:=h1.one
 have o2:=h2.one
 have o3:=h3.one
 have hle:(toN s).length=s.length:=by unfold toN;rw[List.length_map]
 unfold riskF at hK
 cases hs:setB l p with
 | false=>
  rw[hs]at hK
  have hk:=hK (.slice none 0 0) (.slice none 0 0) M (Mem.le.refl _) (by rw[if_neg (by decide),ofN_zero];exact isL_nil _ _ _) (by rw[if_neg (by decide),ofN_zero];exact isL_nil _ _ _)
  rw[if_neg (by decide)]at hk
  have he:effR l p=(0,3):=by unfold effR;rw[hcb.cl,hs];rfl
  have hf:=A5 o1 o2 o3 @itup.eq_1 he;refine sF ?_;(repeat' ((first|((with_reducible refine yN ?_);refine kS 69 (Effective_ok ur l p h1 (by omega) ?_))|refine oB ?_|fail)<;>refine sF ?_<;>try with_reducible exact tT))<;>try clear hf
  exact hk
 | true=>
 rw[hs,if_pos rfl]at hK
 have he:effR l p=(((effN l p.toNat:Nat):Int),0):=by unfold effR;rw[hcb.cl,hs];rfl
 have hlt:=effN_lt (p:=p.toNat) hcb.cl
 generalize effN l p.toNat=eff at *
 have h2':IsL M natV us (toN s):=by
  have:=h2
  rw[hcb.cs]at this
  exact this.toNat
 have cb:=cb121
 have hf:=A6 o1 o2 o3 @itup.eq_1 he cb;refine sF ?_;(repeat' ((first|((with_reducible refine yN ?_);refine kS 69 (Effective_ok ur l p h1 (by omega) ?_))|((with_reducible first|refine yA ?_|refine yC ?_);first|refine kH 84 ?_|refine kS 84 (total_ok _ (eff:Int) (badC eff) cb (fun s' M' K' hs' hk'=>risk1_ok eff s' hlt hs' hk') h1 h2' h3 h4 (by omega) (by rw[hle];exact hcb.cn) hcb.cb (fun w1 w2 M3 m3 g1 g2=>Stop.mk ?_)))|refine oB ?_|fail)<;>refine sF ?_<;>try with_reducible exact tT))<;>try clear hf
 have m3:Mem.le M M3:=m3
 have p1:=g1.one
 have p2:=g2.one
 have hk:=hK w1 w2 M3 m3 g1 g2
 refine Stop.go ?_
 have hf:=A6 @ttH.eq_1 p1 p2 o1 o2 o3;refine sF ?_;(repeat' ((first|refine oB ?_|fail)<;>refine sF ?_<;>try with_reducible exact tT))<;>try clear hf
 exact hk
end
def FrE(M:Mem)(K:AV→Hp→Mem→Prop)(r:Int×Nat×Nat):Prop:=∀w1 w2 M',Mem.le M M'→IsF M' w1 w2 (ofN r.2.1) (ofN r.2.2)→K (.ext (.tuple #[.agg #[w1,w2],.int .i64 r.1])) [] M'
theorem FrE.err{M M':Mem}{K:AV→Hp→Mem→Prop}{e:Int}(h:FrE M K (e,0,0))(hM:Mem.le M M'):K (.ext (.tuple #[.agg #[.slice none 0 0,.slice none 0 0],.int .i64 e])) [] M':=h _ _ M' hM (isF_zero _)
def fewF(r:Int×Nat×Nat):Prop:=(ofN r.2.1).length≤128∧(ofN r.2.2).length≤128
theorem riskF_few(l s:List Int)(L:List FR)(p:Int):fewF (riskF l s L p):=by
 unfold riskF
 split
 ·exact sumF_len _
 ·exact ⟨ofN0_len,ofN0_len⟩
def failR(r:Int×Nat×Nat)(fl dt:LP):Int×Nat×Nat:=
 if r.1=0 then
  let x:=mulF (ofN r.2.1) (ofN r.2.2) dt.1 dt.2
  if x.1=0 then
   let o:=othF (ofN r.2.1) (ofN r.2.2)
   let y:=mulF (ofN o.1) (ofN o.2) fl.1 fl.2
   if y.1=0 then addF (ofN x.2.1) (ofN x.2.2) (ofN y.2.1) (ofN y.2.2) else (y.1,0,0)
  else (x.1,0,0)
 else (r.1,0,0)
def failF(l s:List Int)(L:List FR)(fl dt:LP)(p:Int):Int×Nat×Nat:=if chkB l s L&&noiF fl.1 fl.2 dt.1 dt.2 then failR (riskF l s L p) fl dt else (1,0,0)
def riskE(l s:List Int)(L:List FR)(p:Int):Int×Nat×Nat:=if chkB l s L then riskF l s L p else (1,0,0)
def hasC(i s:Nat):Bool:=s.testBit i
def guiltF(l s:List Int)(L:List FR)(i:Int):Int×Nat×Nat:=if chkB l s L then (if 0≤i∧i<l.length then totF L (toN s) (hasC i.toNat) else (3,0,0)) else (1,0,0)
section
variable {M:Mem}{K:AV→Hp→Mem→Prop}{ur us uw x1 x2 y1 y2:Value}{l s:List Int}{S:List Nat}{L:List FR}{fl dt:LP}
theorem pRisk_ok(p:Int)(h1:IsL M intV64 ur l)(h2:IsL M intV64 us s)(h3:IsR M 2 FR.c uw L)(h4:okFL M L)(b1:l.length<1000000)(b2:s.length<1000000)(b3:L.length<1000000)
  (hK:FrE M K (riskE l s L p)):CallS Tryz.prog 31 [.ext (.agg #[ur,us,uw]),.ext (.int .i64 p)] [] M [] K:=by
 refine inlS (cs:=[]) Tryz.mixed Tryz.func31 rfl (by kernel_rfl) 0 rfl rfl ?_
 simp only[Tryz.f31]
 have o1:=h1.one
 have o2:=h2.one
 have o3:=h3.one
 unfold riskE at hK
 have hf:=A3 o1 o2 o3;refine sF ?_;(repeat' ((first|((with_reducible refine yN ?_);refine kS 18 (pcheck_ok h1 h2 h3 h4 b1 b2 b3 (fun M1 m1=>Stop.mk ?_)))|refine oB ?_|fail)<;>refine sF ?_<;>try with_reducible exact tT))<;>try clear hf
 have m1:Mem.le M M1:=m1
 cases hc:chkB l s L with
 | false=>
  rw[hc]at hK
  have hk:=FrE.err hK m1
  refine Stop.go ?_
  have hf:=A4 o1 o2 o3 hc;refine sF ?_;(repeat' ((first|refine oB ?_|fail)<;>refine sF ?_<;>try with_reducible exact tT))<;>try clear hf
  exact hk
 | true=>
 rw[hc,if_pos rfl]at hK
 refine Stop.go ?_
 have hf:=A4 o1 o2 o3 hc;refine sF ?_;(repeat' ((first|((with_reducible refine yN ?_);refine kS 76 (risk_ok p (h1.le m1) (h2.le m1) (h3.le m1) (h4.le m1) b1 b2 (chkB_of hc) (fun w1 w2 M2 m2 g1 g2=>Stop.mk ?_)))|refine oB ?_|fail)<;>refine sF ?_<;>try with_reducible exact tT))<;>try clear hf
 have m2:Mem.le M1 M2:=m2
 have p1:=g1.one
 have p2:=g2.one
 have hk:=hK w1 w2 M2 (m1.trans m2) (isF_ofN g1 g2 (riskF_few ..))
 refine Stop.go ?_
 have hf:=A5 p1 p2 o1 o2 o3;refine sF ?_;(repeat' ((first|refine oB ?_|fail)<;>refine sF ?_<;>try with_reducible exact tT))<;>try clear hf
 exact hk
theorem pfailing_ok(p:Int)(h1:IsL M intV64 ur l)(h2:IsL M intV64 us s)(h3:IsR M 2 FR.c uw L)(h4:okFL M L)(b1:l.length<1000000)(b2:s.length<1000000)(b3:L.length<1000000)
  (hy:IsF M y1 y2 fl.1 fl.2) (hx:IsF M x1 x2 dt.1 dt.2) (hK:FrE M K (failF l s L fl dt p)) :
  CallS Tryz.prog 27 [.ext (.agg #[ur,us,uw]),.ext (.agg #[y1,y2,x1,x2]),.ext (.int .i64 p)] [] M [] K:=by
 refine inlS (cs:=[]) Tryz.mixed Tryz.func27 rfl (by kernel_rfl) 0 rfl rfl ?_
 simp only[Tryz.f27]
 have o1:=h1.one
 have o2:=h2.one
 have o3:=h3.one
 have p1:=hx.n.one
 have p2:=hx.d.one
 have p3:=hy.n.one
 have p4:=hy.d.one
 unfold failF at hK
 have hf:=A7 o1 o2 o3 p1 p2 p3 p4;refine sF ?_;(repeat' ((first|((with_reducible refine yN ?_);refine kS 18 (pcheck_ok h1 h2 h3 h4 b1 b2 b3 (fun M1 m1=>Stop.mk ?_)))|refine oB ?_|fail)<;>refine sF ?_<;>try with_reducible exact tT))<;>try clear hf
 have m1:Mem.le M M1:=m1
 cases hc:chkB l s L with
 | false=>
  rw[hc]at hK
  have hk:=FrE.err hK m1
  refine Stop.go ?_
  have hf:=A8 o1 o2 o3 p1 p2 p3 p4 hc;refine sF ?_;(repeat' ((first|refine oB ?_|fail)<;>refine sF ?_<;>try with_reducible exact tT))<;>try clear hf
  exact hk
 | true=>
 rw[hc,Bool.true_and]at hK
 refine Stop.go ?_
 have hf:=A8 o1 o2 o3 p1 p2 p3 p4 hc;refine sF ?_;(repeat' ((first|((with_reducible refine yN ?_);refine kS 68 (noi_ok (hy.le m1) (hx.le m1) (fun M2 m2=>Stop.mk ?_)))|refine oB ?_|fail)<;>refine sF ?_<;>try with_reducible exact tT))<;>try clear hf
 have m2:Mem.le M1 M2:=m2
 have hM2:Mem.le M M2:=m1.trans m2
 cases hn:noiF fl.1 fl.2 dt.1 dt.2 with
 | false=>
  rw[hn]at hK
  have hk:=FrE.err hK hM2
  refine Stop.go ?_
  have hf:=A8 o1 o2 o3 p1 p2 p3 p4 hn;refine sF ?_;(repeat' ((first|refine oB ?_|fail)<;>refine sF ?_<;>try with_reducible exact tT))<;>try clear hf
  exact hk
 | true=>
 rw[hn,if_pos rfl]at hK
 have hr0:=riskF_few l s L p
 refine Stop.go ?_
 have hf:=A8 o1 o2 o3 p1 p2 p3 p4 hn;refine sF ?_;(repeat' ((first|((with_reducible refine yN ?_);refine kS 76 (risk_ok p (h1.le hM2) (h2.le hM2) (h3.le hM2) (h4.le hM2) b1 b2 (chkB_of hc) (fun w1 w2 M3 m3 g1 g2=>Stop.mk ?_)))|refine oB ?_|fail)<;>refine sF ?_<;>try with_reducible exact tT))<;>try clear hf
 have m3:Mem.le M2 M3:=m3
 have g3:Mem.le M M3:=hM2.trans m3
 generalize riskF l s L p=r at *
 obtain ⟨e,n,d⟩:=r
 have hr:=isF_ofN g1 g2 hr0
 have q1:=g1.one
 have q2:=g2.one
 unfold failR at hK
 by_cases he:e=0
 case neg=>
  have hk:=FrE.err (by have:=hK;rw[if_neg he]at this;exact this) g3
  have d0:decide (e=0)=false:=decide_eq_false he
  refine Stop.go ?_
  have hf:=A10 o1 o2 o3 p1 p2 p3 p4 q1 q2 d0;refine sF ?_;(repeat' ((first|refine oB ?_|fail)<;>refine sF ?_<;>try with_reducible exact tT))<;>try clear hf
  exact hk
 subst he
 have hK:FrE M K (if (mulF (ofN n) (ofN d) dt.1 dt.2).1=0 then (if (mulF (ofN (othF (ofN n) (ofN d)).1) (ofN (othF (ofN n) (ofN d)).2) fl.1 fl.2).1=0 then addF (ofN (mulF (ofN n) (ofN d) dt.1 dt.2).2.1) (ofN (mulF (ofN n) (ofN d) dt.1 dt.2).2.2) (ofN (mulF (ofN (othF (ofN n) (ofN d)).1) (ofN (othF (ofN n) (ofN d)).2) fl.1 fl.2).2.1) (ofN (mulF (ofN (othF (ofN n) (ofN d)).1) (ofN (othF (ofN n) (ofN d)).2) fl.1 fl.2).2.2) else ((mulF (ofN (othF (ofN n) (ofN d)).1) (ofN (othF (ofN n) (ofN d)).2) fl.1 fl.2).1,0,0)) else ((mulF (ofN n) (ofN d) dt.1 dt.2).1,0,0)):=hK
 have hb1:=mulF_len' (ofN n) (ofN d) dt.1 dt.2
 refine Stop.go ?_
 have hf:=A9 o1 o2 o3 p1 p2 p3 p4 q1 q2;refine sF ?_;(repeat' ((first|((with_reducible first|refine yN ?_|refine yM ?_);refine kS 25 (fmul_ok hr (hx.le g3) (fun v1 v2 M4 m4 a1 a2 _ _=>Stop.mk ?_)))|refine oB ?_|fail)<;>refine sF ?_<;>try with_reducible exact tT))<;>try clear hf
 have m4:Mem.le M3 M4:=m4
 have g4:=g3.trans m4
 generalize mulF (ofN n) (ofN d) dt.1 dt.2=x at *
 obtain ⟨ex,xn,xd⟩:=x
 have hx':=isF_ofN a1 a2 hb1
 have q3:=a1.one
 have q4:=a2.one
 by_cases he:ex=0
 case neg=>
  rw[if_neg he]at hK
  have hk:=FrE.err hK g4
  have d0:decide (ex=0)=false:=decide_eq_false he
  refine Stop.go ?_
  have hf:=A12 o1 o2 o3 p1 p2 p3 p4 q1 q2 q3 q4 d0;refine sF ?_;(repeat' ((first|refine oB ?_|fail)<;>refine sF ?_<;>try with_reducible exact tT))<;>try clear hf
  exact hk
 subst he
 rw[if_pos rfl]at hK
 refine Stop.go ?_
 have hf:=A11 o1 o2 o3 p1 p2 p3 p4 q1 q2 q3 q4;refine sF ?_;(repeat' ((first|((with_reducible refine yM ?_);refine kS 47 (other_ok (hr.le m4) (fun v3 v4 M5 m5 c4 _ _=>Stop.mk ?_)))|((with_reducible refine isE 43 (by decide) ?_);refine dR ((0,[]) :: (2,[0]) :: (3,[0]) :: (8,[0,3]) :: (1,[3]) :: (rP 4 4 [] [(9,[]),(10,[])])) (11 :: (rgL 42 8 [])) [] ?_)|refine oB ?_|fail)<;>refine sF ?_<;>try with_reducible exact tT))<;>try clear hf
 have m5:Mem.le M4 M5:=m5
 have q5:=c4.n.one
 have q6:=c4.d.one
 have g5:=g4.trans m5
 generalize othF (ofN n) (ofN d)=o at *
 have hb2:=mulF_len' (ofN o.1) (ofN o.2) fl.1 fl.2
 refine Stop.go ?_
 have hf:=A12 o1 o2 o3 p1 p2 p3 p4 q1 q2 q3 q4 (A2 q5 q6);refine sF ?_;(repeat' ((first|((with_reducible first|refine yN ?_|refine yM ?_);refine kS 25 (fmul_ok c4 (hy.le g5) (fun v5 v6 M6 m6 a3 a4 _ _=>Stop.mk ?_)))|refine oB ?_|fail)<;>refine sF ?_<;>try with_reducible exact tT))<;>try clear hf
 have m6:Mem.le M5 M6:=m6
 have g6:=g5.trans m6
 generalize mulF (ofN o.1) (ofN o.2) fl.1 fl.2=y at *
 obtain ⟨ey,yn,yd⟩:=y
 have hy':=isF_ofN a3 a4 hb2
 have q7:=a3.one
 have q8:=a4.one
 by_cases he:ey=0
 case neg=>
  rw[if_neg he]at hK
  have hk:=FrE.err hK g6
  have d0:decide (ey=0)=false:=decide_eq_false he
  refine Stop.go ?_
  have hf:=A12 o1 o2 o3 p1 p2 p3 p4 q1 q2 q3 q4 (A3 q7 q8 d0);refine sF ?_;(repeat' ((first|refine oB ?_|fail)<;>refine sF ?_<;>try with_reducible exact tT))<;>try clear hf
  exact hk
 subst he
 rw[if_pos rfl]at hK
 refine Stop.go ?_
 have hf:=A12 o1 o2 o3 p1 p2 p3 p4 q1 q2 q3 q4 (A2 q7 q8);refine sF ?_;(repeat' ((first|((with_reducible refine yN ?_);refine kS 29 (fadd_ok ((hx'.le m5).le m6) hy' (fun v7 v8 M7 m7 a5 a6 _ _=>Stop.mk ?_)))|refine oB ?_|fail)<;>refine sF ?_<;>try with_reducible exact tT))<;>try clear hf
 have m7:Mem.le M6 M7:=m7
 have q9:=a5.one
 have q10:=a6.one
 have hk:=hK v7 v8 M7 (g6.trans m7) (isF_ofN a5 a6 (addF_len' ..))
 refine Stop.go ?_
 have hf:=A9 o1 o2 o3 p1 p2 p3 p4 q9 q10;refine sF ?_;(repeat' ((first|refine oB ?_|fail)<;>refine sF ?_<;>try with_reducible exact tT))<;>try clear hf
 exact hk
theorem guilt1_ok(i s:Nat)(hi:i<8)(hs:s<256)(hK:K (.ext (.bool (hasC i s))) (ttH (i:Int)) M) :
  CallS Tryz.prog 85 [.ext (.int .i64 (s:Int)),.own 50 0] (ttH (i:Int)) M [] K:=by
 refine inlS (cs:=[]) Tryz.mixed Tryz.func85 rfl (by kernel_rfl) 100 rfl rfl ?_
 simp only[Tryz.f85]
 have sh:=shr_nat s i (by omega)
 have ib:=in_bit s i (by omega)
 have z0:decide ((i:Int)<0)=false:=by rw[decide_eq_false_iff_not];omega
 unfold hasC at hK
 have hf:=A4 @ttH.eq_1 sh ib z0;refine sF ?_;(repeat' ((first|refine oB ?_|fail)<;>refine sF ?_<;>try with_reducible exact tT))<;>try clear hf
 exact hK
theorem pguilt_ok(i:Int)(h1:IsL M intV64 ur l)(h2:IsL M intV64 us s)(h3:IsR M 2 FR.c uw L)(h4:okFL M L)(b1:l.length<1000000)(b2:s.length<1000000)(b3:L.length<1000000)
  (hK:FrE M K (guiltF l s L i)):CallS Tryz.prog 34 [.ext (.agg #[ur,us,uw]),.ext (.int .i64 i)] [] M [] K:=by
 refine inlS (cs:=[]) Tryz.mixed Tryz.func34 rfl (by kernel_rfl) 47 rfl rfl ?_
 simp only[Tryz.f34]
 have o1:=h1.one
 have o2:=h2.one
 have o3:=h3.one
 have n1:=h1.len
 have s1:=h1.sl
 unfold guiltF at hK
 have hf:=A3 o1 o2 o3;refine sF ?_;(repeat' ((first|((with_reducible refine yN ?_);refine kS 18 (pcheck_ok h1 h2 h3 h4 b1 b2 b3 (fun M1 m1=>Stop.mk ?_)))|refine oB ?_|fail)<;>refine sF ?_<;>try with_reducible exact tT))<;>try clear hf
 have m1:Mem.le M M1:=m1
 cases hc:chkB l s L with
 | false=>
  rw[hc]at hK
  have hk:=FrE.err hK m1
  refine Stop.go ?_
  have hf:=A4 o1 o2 o3 hc;refine sF ?_;(repeat' ((first|refine oB ?_|fail)<;>refine sF ?_<;>try with_reducible exact tT))<;>try clear hf
  exact hk
 | true=>
 rw[hc,if_pos rfl]at hK
 have hcb:=chkB_of hc
 have hl8:=chk_len hcb.cl
 by_cases z1:0≤i
 case neg=>
  rw[if_neg (by omega)]at hK
  have hk:=FrE.err hK m1
  have d1:decide (i<0)=true:=by rw[decide_eq_true_eq];omega
  refine Stop.go ?_
  have hf:=A7 o1 o2 o3 n1 s1 hc d1;refine sF ?_;(repeat' ((first|refine oB ?_|fail)<;>refine sF ?_<;>try with_reducible exact tT))<;>try clear hf
  exact hk
 have d1:decide (i<0)=false:=by rw[decide_eq_false_iff_not];omega
 by_cases z2:i<l.length
 case neg=>
  rw[if_neg (by omega)]at hK
  have hk:=FrE.err hK m1
  have d2:decide ((l.length:Int)≤i)=true:=by rw[decide_eq_true_eq];omega
  refine Stop.go ?_
  have hf:=A8 o1 o2 o3 n1 s1 hc d1 d2;refine sF ?_;(repeat' ((first|refine oB ?_|fail)<;>refine sF ?_<;>try with_reducible exact tT))<;>try clear hf
  exact hk
 have d2:decide ((l.length:Int)≤i)=false:=by rw[decide_eq_false_iff_not];omega
 rw[if_pos ⟨z1,z2⟩]at hK
 obtain ⟨i,rfl⟩:=Int.eq_ofNat_of_zero_le z1
 rw[Int.toNat_natCast]at hK
 have h2':IsL M natV us (toN s):=by
  have:=h2
  rw[hcb.cs]at this
  exact this.toNat
 have hle:(toN s).length=s.length:=by unfold toN;rw[List.length_map]
 have cb:=cb85
 have hi8:i<8:=by omega
 refine Stop.go ?_
 have hf:=A9 o1 o2 o3 n1 s1 hc d1 d2 cb;refine sF ?_;(repeat' ((first|((with_reducible first|refine yA ?_|refine yC ?_);first|refine kH 84 ?_|refine kS 84 (total_ok _ (i:Int) (hasC i) cb (fun s' M' K' hs' hk'=>guilt1_ok i s' hi8 hs' hk') (h1.le m1) (h2'.le m1) (h3.le m1) (h4.le m1) (by omega) (by rw[hle];exact hcb.cn) hcb.cb (fun w1 w2 M3 m3 g1 g2=>Stop.mk ?_)))|refine oB ?_|fail)<;>refine sF ?_<;>try with_reducible exact tT))<;>try clear hf
 have m3:Mem.le M1 M3:=m3
 have p1:=g1.one
 have p2:=g2.one
 have hk:=hK w1 w2 M3 (m1.trans m3) (isF_ofN g1 g2 (sumF_len _))
 refine Stop.go ?_
 have hf:=A6 @ttH.eq_1 p1 p2 o1 o2 o3;refine sF ?_;(repeat' ((first|refine oB ?_|fail)<;>refine sF ?_<;>try with_reducible exact tT))<;>try clear hf
 exact hk
end
def filtX:List Nat→List Nat→(Nat→Bool)→List Nat
 | x :: r,s :: t,c=>if c s then x :: filtX r t c else filtX r t c
 | _,_,_=>[]
def totX(X s:List Nat)(c:Nat→Bool):Nat:=lsum (filtX X s c)
theorem filtX_le(c:Nat→Bool):∀(X s:List Nat),lsum (filtX X s c)≤lsum X
 | [],_=>by simp[filtX]
 | _ :: _,[]=>by simp[filtX,lsum]
 | x :: r,s :: t=>by
  have:=filtX_le c r t
  rw[filtX,lsum]
  split
  ·rw[lsum];omega
  ·omega
theorem filt_plain{d:Nat}(c:Nat→Bool):∀(X s:List Nat) (L:List FR),L.map prV=(X.map fun x=>red x d).map (fun q=>(ofN q.1,ofN q.2))→(filtL L s c).map prV=(((filtX X s c).map fun x=>red x d).map qFR).map prV
 | [],_,[],_=>by simp[filtL,filtX]
 | [],_,_ :: _,h=>by simp at h
 | _ :: _,_,[],h=>by simp at h
 | _ :: _,[],_ :: _,_=>by simp[filtL,filtX]
 | x :: r,s :: t,y :: u,h=>by
  rw[List.map_cons,List.map_cons,List.map_cons,List.cons.injEq]at h
  have ih:=filt_plain c r t u h.2
  rw[filtL,filtX]
  split
  ·rw[List.map_cons,List.map_cons,List.map_cons,List.map_cons,ih,h.1];rfl
  ·exact ih
theorem totF_red{d:Nat}(hd:0<d)(hds:Sm d){X s:List Nat}(hs:Sm (lsum X)){L:List FR}(c:Nat→Bool)(hL:L.map prV=(X.map fun x=>red x d).map (fun q=>(ofN q.1,ofN q.2))):totF L s c=(0,red (totX X s c) d):=by
 unfold totF
 rw[sumF_cong (filt_plain c X s L hL),sumF_red hd hds (hs.le (filtX_le c X s))]
 rfl
theorem mulX_sum{eff:Nat}{f g:Nat×Nat}:∀(X s:List Nat),X.length=s.length→lsum (mulX eff f g X s)+totX X s (badC eff)*(f.1*g.2)=totX X s (badC eff)*(g.1*f.2)+lsum X*(f.1*g.2)
 | [],[],_=>by simp[mulX,totX,filtX,lsum]
 | x :: r,s :: t,h=>by
  have ih:=mulX_sum (eff:=eff) (f:=f) (g:=g) r t (by simpa using h)
  unfold totX at ih ⊢
  rw[mulX,filtX,lsum,lsum]
  unfold badC at ih ⊢
  by_cases h0:eff &&& s=0
  ·rw[if_pos h0,if_neg (by simp[h0])]
   grind
  ·rw[if_neg h0,if_pos (by simp[h0]),lsum]
   grind
theorem othF_red{x d:Nat}(hd:0<d)(hx:Sm x)(hds:Sm d)(h:x≤d):othF (ofN (red x d).1) (ofN (red x d).2)=red (d-x) d:=by
 unfold othF
 rw[sub_1r hd hx hds h]
theorem le_million{a b:Nat}(ha:a≤1000)(hb:b≤1000):a*b≤1000000:=Nat.mul_le_mul ha hb
theorem failR_red{R N E:Nat}{f g:Nat×Nat}(hN:0<N)(hR:R≤N)(hs:Sm (N*1000000))(hf:OkN f)(hg:OkN g)(hE:E+R*(f.1*g.2)=R*(g.1*f.2)+N*(f.1*g.2)) :
  failR (0,red R N) (opN f) (opN g)=(0,red E (N*(f.2*g.2))):=by
 obtain ⟨f1,f2,f3,f4⟩:=hf.sm
 obtain ⟨g1,g2,g3,g4⟩:=hg.sm
 have fl:=hf.2.2.1
 have gl:=hg.2.2.1
 have flt:=hf.2.1
 have glt:=hg.2.1
 have hNs:Sm N:=hs.le (Nat.le_mul_of_pos_right _ (by decide))
 have hb1:Sm (R*g.1):=hs.le (Nat.mul_le_mul hR (by omega))
 have hb2:Sm (N*g.2):=hs.le (Nat.mul_le_mul_left _ (by omega))
 have hb3:Sm ((N-R)*f.1):=hs.le (Nat.mul_le_mul (by omega) (by omega))
 have hb4:Sm (N*f.2):=hs.le (Nat.mul_le_mul_left _ (by omega))
 have hb5:Sm (N*(f.2*g.2)):=hs.le (Nat.mul_le_mul_left _ (le_million fl gl))
 have hEe:E=R*(g.1*f.2)+(N-R)*(f.1*g.2):=by
  have:=Nat.sub_mul N R (f.1*g.2)
  have h2:=Nat.mul_le_mul_right (f.1*g.2) hR
  omega
 have hEl:E≤N*(f.2*g.2):=by
  rw[hEe]
  have h1:R*(g.1*f.2)≤R*(f.2*g.2):=Nat.mul_le_mul_left _ (by rw[Nat.mul_comm];exact Nat.mul_le_mul_left _ (by omega))
  have h2:(N-R)*(f.1*g.2)≤(N-R)*(f.2*g.2):=Nat.mul_le_mul_left _ (Nat.mul_le_mul_right _ (by omega))
  have h3:R*(f.2*g.2)+(N-R)*(f.2*g.2)=N*(f.2*g.2):=by rw[←Nat.add_mul];congr 1;omega
  omega
 have e1:=mul_rr (x:=R) (d:=N) (y:=g.1) (e:=g.2) (z:=R*g.1) (w:=N*g.2) hN g2 (Nat.mul_pos hN g2) (hNs.le hR) hNs g3 g4 hb1 hb2 rfl
 rw[red_okn hg]at e1
 have e2:=othF_red (x:=R) hN (hNs.le hR) hNs hR
 have e3:=mul_rr (x:=N-R) (d:=N) (y:=f.1) (e:=f.2) (z:=(N-R)*f.1) (w:=N*f.2) hN f2 (Nat.mul_pos hN f2) (hNs.le (by omega)) hNs f3 f4 hb3 hb4 rfl
 rw[red_okn hf]at e3
 have e4:=add_rr (x:=R*g.1) (d:=N*g.2) (y:=(N-R)*f.1) (e:=N*f.2) (z:=E) (w:=N*(f.2*g.2)) (Nat.mul_pos hN g2) (Nat.mul_pos hN f2) (Nat.mul_pos hN (Nat.mul_pos f2 g2)) hb1 hb2 hb3 hb4 (hb5.le hEl) hb5 (by rw[hEe];grind)
 unfold failR opN
 simp only[e1,e2,e3,e4,if_true]
theorem PX.fail{l:List Int}{s X:List Nat}{b:Nat}{f g:Nat×Nat}{pool:Int}{L:List FR}(h:PX s X b)(hc:chkL l=true)(hm:∃m:Int,(m=1∨m=2)∧s=setsL l m)(hf:OkN f)(hg:OkN g)(hfg:f.1*g.2<g.1*f.2)(hb:Sm (b*1000000))(hp:setB l pool=true)
  (hL:L.map prV=(qX X).map fun q=>(ofN q.1,ofN q.2)) :
  failF l (s.map fun (x:Nat)=>(x:Int)) L (opN f) (opN g) pool=(0,red (lsum (mulX (effN l pool.toNat) f g X s)) (lsum X*(f.2*g.2))):=by
 have hk:=(h.bx hc hm).chk (hb.le (Nat.le_mul_of_pos_right _ (by decide))) hL
 have hn:noiF (opN f).1 (opN f).2 (opN g).1 (opN g).2=true:=noiF_N hf hg hfg
 have hs:Sm (lsum X*1000000):=hb.le (Nat.mul_le_mul_right _ h.le)
 have hsl:Sm (lsum X):=hs.le (Nat.le_mul_of_pos_right _ (by decide))
 unfold failF riskF
 rw[hk,hn,Bool.and_self,if_pos rfl,if_pos hp,toN_map,totF_red h.sum hsl hsl (badC (effN l pool.toNat)) hL]
 exact failR_red h.sum (filtX_le _ _ _) hs hf hg (mulX_sum X s h.len)
section
variable {M:Mem}{K:AV→Hp→Mem→Prop}{ur us uw x1 x2 y1 y2:Value}{l s:List Int}{S:List Nat}{L:List FR}{fl dt:LP}
end
def dX(R N:Nat):Nat:=(2*R-N)+(N-2*R)
def pickS(f:Nat→Nat):List Nat→Nat→Nat→Nat
 | [],s,_=>s
 | p :: r,s,b=>if f p<b then pickS f r p (f p) else pickS f r s b
def dP(l:List Int)(X s:List Nat)(p:Nat):Nat:=dX (totX X s (badC (effN l p))) (lsum X)
def splitX(l:List Int)(X s:List Nat):Nat:=pickS (dP l X s) (ivN l.length) 0 (2*lsum X)
theorem iv_lt{n:Nat}(h:n≤8):∀p∈ivN n,p<256∧p<2^n:=by
 have:∀k,k<9→∀p∈ivN k,p<256∧p<2^k:=by decide +kernel
 exact this n (by omega)
theorem iv_len{n:Nat}(h:n≤8):(ivN n).length≤256:=by
 have:∀k,k<9→(ivN k).length≤256:=by decide +kernel
 exact this n (by omega)
theorem cmp_red{x d y e:Nat}(hd:0<d)(he:0<e)(hx:Sm x)(hds:Sm d)(hy:Sm y)(hes:Sm e):cmpF (ofN (red x d).1) (ofN (red x d).2) (ofN (red y e).1) (ofN (red y e).2)=cmpN (x*e) (y*d):=by
 have h1:=red_p (x:=x) hd
 have h2:=red_p (x:=y) he
 unfold cmpF
 rw[chk_red hx hds hd,chk_red hy hes he,Bool.and_self,if_pos rfl,valN_ofN,valN_ofN,valN_ofN,valN_ofN]
 have e1:=h1.eq
 have e2:=h2.eq
 have p1:=h1.pos
 have p2:=h2.pos
 generalize (red x d).1=n1 at *
 generalize (red x d).2=d1 at *
 generalize (red y e).1=n2 at *
 generalize (red y e).2=d2 at *
 have k1:n1*d2*(d*e)=x*e*(d1*d2):=by
  calc n1*d2*(d*e)=(n1*d)*d2*e:=by grind
   _=x*d1*d2*e:=by rw[e1]
   _=x*e*(d1*d2):=by grind
 have k2:n2*d1*(d*e)=y*d*(d1*d2):=by
  calc n2*d1*(d*e)=(n2*e)*d1*d:=by grind
   _=y*d2*d1*d:=by rw[e2]
   _=y*d*(d1*d2):=by grind
 have hde:0<d*e:=Nat.mul_pos hd he
 have hdd:0<d1*d2:=Nat.mul_pos p1 p2
 have lt_iff:n1*d2<n2*d1↔x*e<y*d:=by
  rw[←Nat.mul_lt_mul_right hde,k1,k2,Nat.mul_lt_mul_right hdd]
 have eq_iff:n1*d2=n2*d1↔x*e=y*d:=by
  constructor
  ·intro h
   refine Nat.eq_of_mul_eq_mul_right hdd ?_
   rw[←k1,←k2,h]
  ·intro h
   refine Nat.eq_of_mul_eq_mul_right hde ?_
   rw[k1,k2,h]
 unfold cmpN
 simp only[lt_iff,eq_iff]
section
variable {M:Mem}{K:AV→Hp→Mem→Prop}{ur us uw u1 u2:Value}{l:List Int}{s X:List Nat}{b:Nat}
end
section
variable {M:Mem}{K:AV→Hp→Mem→Prop}{u v:Value}{x y:Nat}
structure IsZ (M:Mem) (u:Value) (x:Nat):Prop where
 l:IsL M u32V u (ofN x)
 s:Sm x
theorem IsZ.le{M M':Mem}{u:Value}{x:Nat}(h:IsZ M u x)(hM:Mem.le M M'):IsZ M' u x:=⟨h.l.le hM,h.s⟩
theorem IsZ.one{M:Mem}{u:Value}{x:Nat}(h:IsZ M u x):u.oneCell'=true:=h.l.one
theorem Sm.chk{x:Nat}(h:Sm x):chkN (ofN x)=true:=chkN_ofN h.len
theorem Sm.lim{x:Nat}(h:Sm x):limR x=(0,ofN x):=by unfold limR;rw[if_pos h.len]
theorem Sm.big{x:Nat}(h:Sm x):(ofN x).length<1000000:=by have:=h.len;omega
theorem zAdd(hu:IsZ M u x)(hv:IsZ M v y)(h:Sm (x+y))(hK:∀w M',Mem.le M M'→IsZ M' w (x+y)→FreshS M w→K (.ext (.tuple #[w,.int .i64 0])) [] M'):CallS Tryz.prog 129 [.ext u,.ext v] [] M [] K:=
 natAdd_ok hu.l hv.l (okN_ofN _) (okN_ofN _) hu.s.big hv.s.big (by
  unfold addR
  rw[hu.s.chk,hv.s.chk,Bool.and_self,if_pos rfl,valN_ofN,valN_ofN,h.lim]
  exact fun w M' hM g f=>hK w M' hM ⟨g,h⟩ f)
theorem zMul(hu:IsZ M u x)(hv:IsZ M v y)(h:Sm (x*y))(hK:∀w M',Mem.le M M'→IsZ M' w (x*y)→FreshS M w→K (.ext (.tuple #[w,.int .i64 0])) [] M'):CallS Tryz.prog 155 [.ext u,.ext v] [] M [] K:=
 natMul_ok hu.l hv.l (okN_ofN _) (okN_ofN _) hu.s.big hv.s.big (by
  unfold mulR
  rw[hu.s.chk,hv.s.chk,Bool.and_self,if_pos rfl,valN_ofN,valN_ofN,h.lim]
  exact fun w M' hM g f=>hK w M' hM ⟨g,h⟩ f)
theorem zSub(hu:IsZ M u x)(hv:IsZ M v y)(h:y≤x)(hK:∀w M',Mem.le M M'→IsZ M' w (x-y)→FreshS M w→K (.ext (.tuple #[w,.int .i64 0])) [] M'):CallS Tryz.prog 158 [.ext u,.ext v] [] M [] K:=
 natSub_ok hu.l hv.l (okN_ofN _) (okN_ofN _) hu.s.big hv.s.big (by
  unfold subR
  rw[hu.s.chk,hv.s.chk,Bool.and_self,if_pos rfl,valN_ofN,valN_ofN,if_neg (by omega)]
  exact fun w M' hM g f=>hK w M' hM ⟨g,hu.s.le (by omega)⟩ f)
theorem zGcd(hu:IsZ M u x)(hv:IsZ M v y)(h0:0<x)(hK:∀w M',Mem.le M M'→IsZ M' w (Nat.gcd x y)→FreshS M w→K (.ext (.tuple #[w,.int .i64 0])) [] M'):CallS Tryz.prog 153 [.ext u,.ext v] [] M [] K:=
 natGcd_ok hu.l hv.l (okN_ofN _) (okN_ofN _) hu.s.big hv.s.big (by
  unfold gcdR
  rw[hu.s.chk,hv.s.chk,Bool.and_self,if_pos rfl,valN_ofN,valN_ofN]
  exact fun w M' hM g f=>hK w M' hM ⟨g,hu.s.le (Nat.gcd_le_left y h0)⟩ f)
theorem zDiv(hu:IsZ M u x)(hv:IsZ M v y)(h0:0<y)(hK:∀q w M',Mem.le M M'→IsZ M' q (x / y)→IsL M' u32V w (ofN (x % y))→FreshS M q→K (.ext (.tuple #[q,w,.int .i64 0])) [] M'):CallS Tryz.prog 154 [.ext u,.ext v] [] M [] K:=
 natDiv_ok hu.l hv.l (okN_ofN _) (okN_ofN _) hu.s.big hv.s.big (by
  unfold divR
  rw[hu.s.chk,hv.s.chk,Bool.and_self,if_pos rfl,valN_ofN,valN_ofN,if_neg (by omega)]
  exact fun q w M' hM g g2 f _=>hK q w M' hM ⟨g,hu.s.le (Nat.div_le_self _ _)⟩ g2 f)
theorem zCmp(hu:IsZ M u x)(hv:IsZ M v y)(hK:K (.ext (.int .i64 (cmpN x y))) [] M):CallS Tryz.prog 131 [.ext u,.ext v] [] M [] K:=
 natCmp_ok hu.l hv.l (okN_ofN _) (okN_ofN _) hu.s.big hv.s.big (by
  unfold cmpR
  rw[hu.s.chk,hv.s.chk,Bool.and_self,if_pos rfl,valN_ofN,valN_ofN]
  exact hK)
theorem zOf(n:Nat)(hn:n≤1000)(hK:∀w M',Mem.le M M'→IsZ M' w n→FreshS M w→K (.ext w) [] M'):CallS Tryz.prog 128 [.ext (.int .u64 (n:Int))] [] M [] K:=
 natOf_ok n (by omega) fun w M' hM g f=>hK w M' hM ⟨g,sm1000 (by omega)⟩ f
end
structure NR where
 v:Value
 n:Nat
def okNL(M:Mem)(E:List NR):Prop:=∀x∈E,IsZ M x.v x.n
theorem okNL.le{M M':Mem}{E:List NR}(h:okNL M E)(hM:Mem.le M M'):okNL M' E:=fun x hx=>(h x hx).le hM
theorem okNL.snoc{M:Mem}{E:List NR}{x:NR}(h:okNL M E)(hx:IsZ M x.v x.n):okNL M (E++[x]):=fun y hy=>by
 rcases List.mem_append.1 hy with hy|hy
 ·exact h y hy
 ·rw[List.mem_singleton.1 hy];exact hx
theorem okNL.all{M:Mem}{E:List NR}(h:okNL M E):allOne (cE NR.v E)=True:=eq_true (by
 unfold cE
 have:∀l:List Value,(∀v∈l,v.oneCell'=true)→allOne (l.map AV.ext):=by
  intro l
  induction l with
  | nil=>intro _;trivial
  | cons a r ih=>intro hl;exact ⟨hl a (List.mem_cons_self ..),ih fun v hv=>hl v (List.mem_cons_of_mem _ hv)⟩
 refine this _ fun v hv=>?_
 obtain ⟨x,hx,rfl⟩:=List.mem_map.1 hv
 exact (h x hx).one)
theorem red_den{x N:Nat}:(red x N).2∣N:=Nat.div_dvd_of_dvd (Nat.gcd_dvd_right x N)
theorem lcm_part(D d:Nat):D*(d / Nat.gcd D d)=Nat.lcm D d:=by
 unfold Nat.lcm
 rw[Nat.mul_div_assoc _ (Nat.gcd_dvd_right D d)]
theorem num_part{x N D:Nat}(hN:0<N)(hd:(red x N).2∣D):(red x N).1*(D / (red x N).2)*N=x*D:=by
 obtain ⟨c,hc⟩:=hd
 have h:=red_p (x:=x) hN
 have e:=h.eq
 rw[hc,Nat.mul_div_cancel_left _ h.pos]
 calc (red x N).1*c*N=((red x N).1*N)*c:=by grind
  _=x*(red x N).2*c:=by rw[e]
  _=x*((red x N).2*c):=by grind
section
variable {M:Mem}{K:AV→Hp→Mem→Prop}{uw u v:Value}{X:List Nat}{N x y:Nat}
theorem apart_ok(hu:IsZ M u x)(hv:IsZ M v y)(hK:∀w M',Mem.le M M'→IsZ M' w ((x-y)+(y-x))→K (.ext (.tuple #[w,.bool true])) [] M'):CallS Tryz.prog 130 [.ext u,.ext v] [] M [] K:=by
 refine inlS (cs:=[]) Tryz.mixed Tryz.func130 rfl (by kernel_rfl) 0 rfl rfl ?_
 simp only[Tryz.f130]
 have o1:=hu.one
 have o2:=hv.one
 by_cases h:x<y
 ·have d1:decide (cmpN x y<0)=true:=by rw[cmpN_lt h];rfl
  have e:(x-y)+(y-x)=y-x:=by omega
  rw[e]at hK
  have hf:=A3 o1 o2 d1;refine sF ?_;(repeat' ((first|((with_reducible refine yN ?_);first|refine kS 131 (zCmp hu hv ?_)|refine kS 158 (zSub hv hu (by omega) (fun w M1 m1 g1 _=>Stop.mk ?_)))|refine oB ?_|fail)<;>refine sF ?_<;>try with_reducible exact tT))<;>try clear hf
  have q1:=g1.one
  have hk:=hK w M1 m1 g1
  refine Stop.go ?_
  have hf:=A3 o1 o2 q1;refine sF ?_;(repeat' ((first|refine oB ?_|fail)<;>refine sF ?_<;>try with_reducible exact tT))<;>try clear hf
  exact hk
 ·have d1:decide (cmpN x y<0)=false:=by
   rw[decide_eq_false_iff_not]
   unfold cmpN
   (repeat' split)<;>omega
  have e:(x-y)+(y-x)=x-y:=by omega
  rw[e]at hK
  have hf:=A3 o1 o2 d1;refine sF ?_;(repeat' ((first|((with_reducible refine yN ?_);first|refine kS 131 (zCmp hu hv ?_)|refine kS 158 (zSub hu hv (by omega) (fun w M1 m1 g1 _=>Stop.mk ?_)))|refine oB ?_|fail)<;>refine sF ?_<;>try with_reducible exact tT))<;>try clear hf
  have q1:=g1.one
  have hk:=hK w M1 m1 g1
  refine Stop.go ?_
  have hf:=A3 o1 o2 q1;refine sF ?_;(repeat' ((first|refine oB ?_|fail)<;>refine sF ?_<;>try with_reducible exact tT))<;>try clear hf
  exact hk
def cmSt1(M:Mem)(uw d:Value)(n i:Nat):St:={env:=[(24,.ext (.int .i64 (i:Int))),(23,.ext (.int .i64 (n:Int))),(22,.ext uw),(4,.ext (.bool false)),(3,.ext d),(2,.ext (.slice none 0 0)),(0,.ext uw)],hp:=[],M:=M,kb:=0,fx:=[]}
def cmSt2(M:Mem)(uw d:Value)(n i:Nat)(E:List NR):St:={env:=[(55,.ext (.int .i64 (i:Int))),(54,.ext (.int .i64 (n:Int))),(53,.ext uw),(3,.ext d),(2,.slo 102 0 i 1)],hp:=[(102,25,cE NR.v E)],M:=M,kb:=0,fx:=[]}
theorem pcommon_ok(h:FQ M uw (X.map fun x=>red x N))(hN:0<N)(hs:Sm N)(hX:∀x∈X,x≤N)(hl:X.length<1000000)
  (hK:∀w d M' (E:List NR) D,Mem.le M M'→IsL M' NR.v w E→okNL M' E→IsZ M' d D→0<D→D≤N→E.length=X.length→(E.map fun e=>e.n*N)=X.map (fun x=>x*D)→K (.ext (.tuple #[w,d,.bool true])) [] M') :
  CallS Tryz.prog 127 [.ext uw] [] M [] K:=by
 refine CallS.frzF ?_
 refine inlS (cs:=[]) Tryz.mixed Tryz.func127 rfl (by kernel_rfl) 0 rfl rfl ?_
 simp only[Tryz.f127]
 obtain ⟨q1,q2⟩:=h.sz
 rw[List.length_map]at q2
 have o1:=one_sl q1
 have hf:=A3 o1 q1 q2;refine sF ?_;(repeat' ((first|((with_reducible refine yN ?_);refine kS 128 (zOf 1 (by decide) (fun d M1 m1 g1 _=>Stop.mk ?_)))|refine oB ?_|fail)<;>refine sF ?_<;>try with_reducible exact tT))<;>try clear hf
 have m1:Mem.le M M1:=m1
 have p1:=g1.one
 refine Stop.go ?_
 have hf:=A4 o1 q1 q2 p1;refine sF ?_;(repeat' ((first|refine oB ?_|fail)<;>refine sF ?_<;>try with_reducible exact tT))<;>try clear hf
 refine ⟨fun m z=>∃M' d D i,m=X.length-i∧i≤X.length∧Mem.le M M'∧IsZ M' d D∧0<D∧D∣N∧(∀j (hj:j<X.length),j<i→(red X[j] N).2∣D)∧z=cmSt1 M' uw d X.length i,
  ⟨X.length,cmSt1 M1 uw d X.length 0,le_sub ⟨rfl,rfl,rfl,rfl,rfl,rfl,rfl,trivial⟩ trivial rfl rfl rfl (keepLt0 _),⟨M1,d,1,0,by omega,by omega,m1,g1,by decide,Nat.one_dvd _,fun j _ hj=>absurd hj (Nat.not_lt_zero _),rfl⟩⟩,?_⟩
 clear p1 g1 m1
 rintro m z ⟨M1,d,D,i,rfl,hi,m1,g1,hD0,hDN,hDj,rfl⟩
 have p1:=g1.one
 by_cases hlt:i<X.length
 case pos=>
  have z0:decide ((i:Int)<(X.length:Int))=true:=by rw[decide_eq_true_eq];omega
  have z1:(0:Int)≤(i:Int):=by omega
  have z2:(i:Int)<(X.length:Int):=by omega
  have wi:IntKind.i64.wrap ((i:Int)+1)=((i+1:Nat):Int):=succ_i (by omega)
  obtain ⟨v1,v2,nn,aa,aq⟩:=(h.le m1).get (i:=i) (by rw[List.length_map];exact hlt)
  rw[List.getElem_map]at aq
  have hdN:=red_den (x:=X[i]) (N:=N)
  have hdp:=(red_p (x:=X[i]) hN).pos
  have hdl:=(red_p (x:=X[i]) hN).le2
  have hnext:∀D',(D∣D'∧(red X[i] N).2∣D')→∀j (hj:j<X.length),j<i+1→(red X[j] N).2∣D':=fun D' h2 j hj hj2=>by
   by_cases e:j=i
   ·subst e;exact h2.2
   ·exact Nat.dvd_trans (hDj j hj (by omega)) h2.1
  generalize (red X[i] N).2=dd at *
  have p2:=aq.n.one
  have p3:=aq.d.one
  have hz:IsZ M1 v2 dd:=⟨aq.d,hs.le hdl⟩
  have hf:=A12 @cmSt1.eq_1 z0 z1 z2 nn aa o1 q1 q2 p1 p2 p3;refine sF ?_;(repeat' ((first|((with_reducible refine yN ?_);refine kS 153 (zGcd g1 hz hD0 (fun w1 M2 m2 g2 _=>Stop.mk ?_)))|refine oB ?_|fail)<;>refine sF ?_<;>try with_reducible exact tT))<;>try clear hf
  have m2:Mem.le M1 M2:=m2
  have p4:=g2.one
  have hg0:0<Nat.gcd D dd:=Nat.gcd_pos_of_pos_left _ hD0
  refine Stop.go ?_
  have hf:=A9 z1 z2 o1 q1 q2 p1 p2 p3 p4;refine sF ?_;(repeat' ((first|((with_reducible refine yN ?_);refine kS 154 (zDiv (hz.le m2) g2 hg0 (fun w2 w3 M3 m3 g3 g4 _=>Stop.mk ?_)))|refine oB ?_|fail)<;>refine sF ?_<;>try with_reducible exact tT))<;>try clear hf
  have m3:Mem.le M2 M3:=m3
  have p5:=g3.one
  have p6:=g4.one
  have hlN:Nat.lcm D dd∣N:=Nat.lcm_dvd hDN hdN
  have hlle:=Nat.le_of_dvd hN hlN
  have hlp:=lcm_part D dd
  refine Stop.go ?_
  have hf:=A11 z1 z2 o1 q1 q2 p1 p2 p3 p4 p5 p6;refine sF ?_;(repeat' ((first|((with_reducible refine yN ?_);refine kS 155 (zMul ((g1.le m2).le m3) g3 (by rw[hlp];exact hs.le hlle) (fun w4 M4 m4 g5 _=>Stop.mk ?_)))|refine oB ?_|fail)<;>refine sF ?_<;>try with_reducible exact tT))<;>try clear hf
  have m4:Mem.le M3 M4:=m4
  have p7:=g5.one
  rw[hlp]at g5
  refine Stop.go ?_
  have hf:=A10 z1 z2 wi o1 q1 q2 p1 p2 p3 p7;refine sF ?_;(repeat' ((first|refine oB ?_|fail)<;>refine sF ?_<;>try with_reducible exact tT))<;>try clear hf
  exact ⟨X.length-(i+1),cmSt1 M4 uw w4 X.length (i+1),by omega,le_sub ⟨rfl,rfl,rfl,rfl,rfl,rfl,rfl,trivial⟩ trivial rfl rfl rfl (keepLt0 _),M4,w4,Nat.lcm D dd,i+1,rfl,by omega,m1.trans (m2.trans (m3.trans m4)),g5,Nat.pos_of_ne_zero (fun e=>by rw[e]at hlN;have:=Nat.eq_zero_of_zero_dvd hlN;omega),hlN,hnext _ ⟨Nat.dvd_lcm_left _ _,Nat.dvd_lcm_right _ _⟩,rfl⟩
 obtain rfl:i=X.length:=by omega
 have z0:decide ((X.length:Int)<(X.length:Int))=false:=by simp
 have hDj:∀j (hj:j<X.length),(red X[j] N).2∣D:=fun j hj=>hDj j hj hj
 have hDle:=Nat.le_of_dvd hN hDN
 have hf:=A6 @cmSt1.eq_1 z0 o1 q1 q2 p1;refine sF ?_;(repeat' ((first|refine oB ?_|fail)<;>refine sF ?_<;>try with_reducible exact tT))<;>try clear hf
 refine ⟨fun m z=>∃M' E i,m=X.length-i∧i≤X.length∧Mem.le M1 M'∧okNL M' E∧E.length=i∧(E.map fun e=>e.n*N)=(X.take i).map (fun x=>x*D)∧z=cmSt2 M' uw d X.length i E,
  ⟨X.length,cmSt2 M1 uw d X.length 0 [],(le_nil 2 102 25 1 rfl (.inl (by simp[awayB,mentE,mentH,mentL,AV.ment,hasK]))).trans (le_sub ⟨rfl,rfl,rfl,rfl,rfl,trivial⟩ ⟨rfl,trivial⟩ rfl rfl rfl (keepLt0 _)),⟨M1,[],0,by omega,by omega,Mem.le.refl _,(fun x hx=>by cases hx),rfl,rfl,rfl⟩⟩,?_⟩
 rintro m z ⟨M2,E,i,rfl,hi,m2,hE,hEl,hEv,rfl⟩
 have hcl:(cE NR.v E).length=i:=by rw[cE_len,hEl]
 by_cases hlt:i<X.length
 case pos=>
  have z0:decide ((i:Int)<(X.length:Int))=true:=by rw[decide_eq_true_eq];omega
  have z1:(0:Int)≤(i:Int):=by omega
  have z2:(i:Int)<(X.length:Int):=by omega
  have wi:IntKind.i64.wrap ((i:Int)+1)=((i+1:Nat):Int):=succ_i (by omega)
  have m02:=m1.trans m2
  obtain ⟨v1,v2,nn,aa,aq⟩:=(h.le m02).get (i:=i) (by rw[List.length_map];exact hlt)
  rw[List.getElem_map]at aq
  have hxl:=hX _ (List.getElem_mem hlt)
  have hdd:=hDj i hlt
  have hr:=red_p (x:=X[i]) hN
  have hdp:=hr.pos
  have hdl:=hr.le2
  have hnl:=hr.le1
  have hnp:=num_part (x:=X[i]) hN hdd
  have htk:X.take (i+1)=X.take i++[X[i]]:=by rw[List.take_add_one,List.getElem?_eq_getElem hlt];rfl
  generalize X[i]=x at *
  generalize red x N=q at *
  have hsz:q.1*(D / q.2)≤D:=by
   refine Nat.le_of_mul_le_mul_right ?_ hN
   rw[hnp,Nat.mul_comm x D]
   exact Nat.mul_le_mul_left _ hxl
  have p2:=aq.n.one
  have p3:=aq.d.one
  have hz1:IsZ M2 v1 q.1:=⟨aq.n,hs.le (by omega)⟩
  have hz2:IsZ M2 v2 q.2:=⟨aq.d,hs.le hdl⟩
  have hf:=A12 @cmSt2.eq_1 z0 z1 z2 nn aa o1 q1 q2 p1 p2 (A4 p3 @cE_ment @cE_kill @hasK_nil);refine sF ?_;(repeat' ((first|((with_reducible refine yN ?_);refine kS 154 (zDiv (g1.le m2) hz2 hdp (fun w2 w3 M3 m3 g3 g4 _=>Stop.mk ?_)))|refine oB ?_|fail)<;>refine sF ?_<;>try with_reducible exact tT))<;>try clear hf
  have m3:Mem.le M2 M3:=m3
  have p5:=g3.one
  have p6:=g4.one
  refine Stop.go ?_
  have hf:=A12 z1 z2 o1 q1 q2 p1 p2 p3 p5 p6 @cE_ment (A2 @cE_kill @hasK_nil);refine sF ?_;(repeat' ((first|((with_reducible refine yN ?_);refine kS 155 (zMul (hz1.le m3) g3 (hs.le (by omega)) (fun w4 M4 m4 g5 _=>Stop.mk ?_)))|refine oB ?_|fail)<;>refine sF ?_<;>try with_reducible exact tT))<;>try clear hf
  have m4:Mem.le M3 M4:=m4
  have p7:=g5.one
  have ap:cE NR.v E++[.ext w4]=cE NR.v (E++[⟨w4,q.1*(D / q.2)⟩]):=by simp[cE]
  refine Stop.go ?_
  have hf:=A12 z1 z2 wi o1 q1 q2 p1 p2 p3 p7 hcl (A5 ap @cE_ment @cE_kill @hasK_nil @Nat.mul_one);refine sF ?_;(repeat' ((first|refine oB ?_|fail)<;>refine sF ?_<;>try with_reducible exact tT))<;>try clear hf
  exact ⟨X.length-(i+1),cmSt2 M4 uw d X.length (i+1) (E++[⟨w4,q.1*(D / q.2)⟩]),by omega,le_sub ⟨rfl,rfl,rfl,rfl,rfl,trivial⟩ ⟨rfl,trivial⟩ rfl rfl rfl (keepLt0 _),M4,_,i+1,rfl,by omega,m2.trans (m3.trans m4),(hE.le (m3.trans m4)).snoc g5,by rw[List.length_append,hEl];rfl,by rw[List.map_append,hEv,htk,List.map_append,List.map_cons,List.map_cons,hnp];rfl,rfl⟩
 obtain rfl:i=X.length:=by omega
 have z0:decide ((X.length:Int)<(X.length:Int))=false:=by simp
 rw[List.take_length]at hEv
 have hf:=A9 @cmSt2.eq_1 z0 o1 q1 q2 p1 @cE_ment @cE_kill @hasK_nil;refine sF ?_;(repeat' ((first|refine oB ?_|fail)<;>refine sF ?_<;>try with_reducible exact tT))<;>try clear hf
 refine FrzF.tup [] [d,.bool true] (E.map NR.v) rfl (by rw[List.length_map,hEl];simp) (fun w M3 m3 hsl hf=>?_)
 have m3:Mem.le M2 M3:=m3
 exact hK w d M3 E D (m1.trans (m2.trans m3)) (by unfold IsL;rw[hEl];exact hsl) (hE.le m3) ((g1.le m2).le m3) hD0 hDle hEl hEv
end
theorem filtX_take(c:Nat→Bool):∀(X s:List Nat) (k:Nat) (h1:k<X.length) (h2:k<s.length),lsum (filtX (X.take (k+1)) (s.take (k+1)) c)=lsum (filtX (X.take k) (s.take k) c)+(if c s[k] then X[k] else 0)
 | x :: r,y :: t,0,_,_=>by simp only[List.take_succ_cons,List.take_zero,filtX,List.getElem_cons_zero];split<;>simp[lsum,filtX]
 | x :: r,y :: t,k+1,h1,h2=>by
  simp only[List.take_succ_cons,filtX,List.getElem_cons_succ]
  have ih:=filtX_take c r t k (by simpa using h1) (by simpa using h2)
  by_cases hc:c y=true
  ·rw[if_pos hc,if_pos hc,lsum,lsum,ih,Nat.add_assoc]
  ·rw[if_neg hc,if_neg hc,ih]
theorem lsum_scale{N D:Nat}:∀{Y X:List Nat},Y.map (· * N)=X.map (· * D)→lsum Y*N=lsum X*D
 | [],[],_=>by simp[lsum]
 | [],_ :: _,h=>by simp at h
 | _ :: _,[],h=>by simp at h
 | y :: q,x :: r,h=>by
  rw[List.map_cons,List.map_cons,List.cons.injEq]at h
  have:=lsum_scale h.2
  rw[lsum,lsum,Nat.add_mul,Nat.add_mul,this,h.1]
theorem filtX_scale{N D:Nat}(c:Nat→Bool):∀{Y X s:List Nat},Y.map (· * N)=X.map (· * D)→(filtX Y s c).map (· * N)=(filtX X s c).map (· * D)
 | [],[],_,_=>by simp[filtX]
 | [],_ :: _,_,h=>by simp at h
 | _ :: _,[],_,h=>by simp at h
 | y :: q,x :: r,[],h=>by simp[filtX]
 | y :: q,x :: r,z :: t,h=>by
  rw[List.map_cons,List.map_cons,List.cons.injEq]at h
  have ih:=filtX_scale c (s:=t) h.2
  rw[filtX,filtX]
  split
  ·rw[List.map_cons,List.map_cons,ih,h.1]
  ·exact ih
theorem dX_scale{R R' N D:Nat}(h:R'*N=R*D):dX R' D*N=dX R N*D:=by
 unfold dX
 rw[Nat.add_mul,Nat.add_mul,Nat.sub_mul,Nat.sub_mul,Nat.sub_mul,Nat.sub_mul]
 have e1:2*R'*N=2*R*D:=by rw[Nat.mul_assoc,h,Nat.mul_assoc]
 rw[e1,Nat.mul_comm D N]
theorem lt_scale{a a' b b' N D:Nat}(hN:0<N)(hD:0<D)(ha:a'*N=a*D)(hb:b'*N=b*D):a'<b'↔a<b:=by
 rw[←Nat.mul_lt_mul_right hN,ha,hb,Nat.mul_lt_mul_right hD]
theorem pick_first{f:Nat→Nat}{p:Nat}{r:List Nat}{b:Nat}(h:f p<b):pickS f (p :: r) 0 b=pickS f r p (f p):=by rw[pickS,if_pos h]
section
variable {M:Mem}{K:AV→Hp→Mem→Prop}{ur us uw:Value}{l:List Int}{s X:List Nat}{b:Nat}
def qkHp(ur us uw:Value):Hp:=[(1,40,[.ext ur,.ext us,.ext uw])]
def qkSt(M:Mem)(ui ur us uw nu d bv:Value)(n set i:Nat):St:={env:=[(35,.ext (.int .i64 (i:Int))),(34,.ext (.int .i64 (n:Int))),(33,.ext ui),(8,.ext (.int .i64 (set:Int))),(7,.ext bv),(5,.ext d),(4,.ext nu),(1,.own 1 0)],hp:=qkHp ur us uw,M:=M,kb:=0,fx:=[]}
def qkSt2(M:Mem)(ui ur us uw nu d bv a:Value)(n set i p eff ns j:Nat):St:={env:=[(51,.ext (.int .i64 (j:Int))),(50,.ext (.int .i64 (ns:Int))),(49,.ext us),(13,.ext a),(11,.ext (.int .i64 (eff:Int))),(10,.ext (.int .i64 (p:Int))),(9,.ext (.int .i64 (i:Int))),(35,.ext (.int .i64 (i:Int))),(34,.ext (.int .i64 (n:Int))),(33,.ext ui),(8,.ext (.int .i64 (set:Int))),(7,.ext bv),(5,.ext d),(4,.ext nu),(1,.own 1 0)],hp:=qkHp ur us uw,M:=M,kb:=0,fx:=[]}
theorem quick_ok(h:IsB M ur us uw l s (qX X))(hP:PX s X b)(hc:chkL l=true)(b2:s.length<1000000)(hS:∀x∈s,x<256)(hb:Sm (b*1000000))
  (hK:∀M',Mem.le M M'→K (.ext (.tuple #[.int .i64 ((splitX l X s:Nat):Int),.bool true])) [] M') :
  CallS Tryz.prog 89 [.ext (.agg #[ur,us,uw])] [] M [] K:=by
 refine inlS (cs:=[]) Tryz.mixed Tryz.func89 rfl (by kernel_rfl) 0 rfl rfl ?_
 simp only[Tryz.f89]
 have hl8:=chk_len hc
 have h1:=h.l
 have h2:=h.s
 have o1:=h1.one
 have o2:=h2.one
 have o3:=h.q.one
 have n1:=h1.len
 have s1:=h1.sl
 have n2:=h2.len
 have s2:=h2.sl
 have hN:=hP.sum
 have hsN:Sm (2*lsum X):=hb.le (by have:=hP.le;have:=Nat.mul_le_mul_right 1000000 this;omega)
 have hsN1:Sm (lsum X):=hsN.le (by omega)
 have hXl:=hP.len
 have hf:=A3 o1 o2 o3;refine sF ?_;(repeat' ((first|((with_reducible refine yN ?_);refine kS 127 (pcommon_ok (N:=lsum X) h.q hN hsN1 (fun x hx=>lsum_mem hx) (by omega) (fun nu d M1 E D m1 gE gEo gD hD0 hDN hEl hEv=>Stop.mk ?_)))|refine oB ?_|fail)<;>refine sF ?_<;>try with_reducible exact tT))<;>try clear hf
 have m1:Mem.le M M1:=m1
 have o4:=gE.one
 have o5:=gD.one
 have hY:(E.map NR.n).map (· * lsum X)=X.map (· * D):=by rw[List.map_map];exact hEv
 refine Stop.go ?_
 have hf:=A7 o1 o2 o3 o4 o5 n1 s1;refine sF ?_;(repeat' ((first|((with_reducible refine yN ?_);refine kS 91 (intervals_ok l.length hl8.1 hl8.2 (fun ui M2 m2 gI _=>Stop.mk ?_)))|refine oB ?_|fail)<;>refine sF ?_<;>try with_reducible exact tT))<;>try clear hf
 have m2:Mem.le M1 M2:=m2
 have o6:=gI.one
 have n6:=gI.len
 have s6:=gI.sl
 have hlt:=iv_lt hl8.2
 have hil:=iv_len hl8.2
 have hspl:pickS (dP l X s) ((ivN l.length).drop 0) 0 (2*lsum X)=splitX l X s:=rfl
 have hM2:Mem.le M M2:=m1.trans m2
 generalize splitX l X s=res at *
 generalize ivN l.length=I at *
 refine Stop.go ?_
 have hf:=A8 o1 o2 o3 o4 o5 o6 n6 s6;refine sF ?_;(repeat' ((first|refine oB ?_|fail)<;>refine sF ?_<;>try with_reducible exact tT))<;>try clear hf
 refine ⟨fun m z=>∃M' i set bv,m=I.length-i∧i≤I.length∧Mem.le M2 M'∧bv.oneCell'=true∧(i=0∧set=0∨0<i∧∃bb bb',IsZ M' bv bb'∧bb'*lsum X=bb*D∧pickS (dP l X s) (I.drop i) set bb=res)∧z=qkSt M' ui ur us uw nu d bv I.length set i,
  ⟨I.length,qkSt M2 ui ur us uw nu d (.slice none 0 0) I.length 0 0,le_sub ⟨rfl,rfl,rfl,rfl,rfl,rfl,rfl,rfl,trivial⟩ ⟨rfl,trivial⟩ rfl rfl rfl (keepLt0 _),⟨M2,0,0,_,by omega,by omega,Mem.le.refl _,rfl,.inl ⟨rfl,rfl⟩,rfl⟩⟩,?_⟩
 have gI0:=gI
 have hI0:I.length=0→res=0:=fun h0=>by
  rw[←hspl,List.length_eq_zero_iff.1 h0];rfl
 rintro m z ⟨M3,i,set,bv,rfl,hi,m3,o7,hpk,rfl⟩
 have hM3:=hM2.trans m3
 by_cases hil2:i<I.length
 case neg=>
  obtain rfl:i=I.length:=by omega
  have z0:decide ((I.length:Int)<(I.length:Int))=false:=by simp
  have hres:set=res:=by
   rcases hpk with ⟨h0,rfl⟩|⟨_,bb,bb',_,_,hpk⟩
   ·exact (hI0 h0).symm
   ·rw[List.drop_length,pickS]at hpk;exact hpk
  subst hres
  have hk:=hK M3 hM3
  have hf:=A12 @qkSt.eq_1 @qkHp.eq_1 z0 o1 o2 o3 o4 o5 o6 o7 n6 s6;refine sF ?_;(repeat' ((first|refine oB ?_|fail)<;>refine sF ?_<;>try with_reducible exact tT))<;>try clear hf
  exact hk
 have z0:decide ((i:Int)<(I.length:Int))=true:=by rw[decide_eq_true_eq];omega
 have z1:(0:Int)≤(i:Int):=by omega
 have z2:(i:Int)<(I.length:Int):=by omega
 have wi:IntKind.i64.wrap ((i:Int)+1)=((i+1:Nat):Int):=succ_i (by omega)
 have f1:=(gI0.le m3).idx (P:=Tryz.prog) (T:=3) tk3 tz3 (by omega) hil2
 have hp8:=hlt _ (List.getElem_mem hil2)
 have hdr:=List.drop_eq_getElem_cons hil2
 generalize I[i]=p at *
 have hset:setB l (p:Int)=true:=by
  unfold setB
  rw[decide_eq_true_eq]
  exact ⟨by omega,by have:=hp8.2;exact_mod_cast this⟩
 have he:effR l (p:Int)=(((effN l p:Nat):Int),0):=by unfold effR;rw[hc,hset,Int.toNat_natCast];rfl
 have hel:=effN_lt (p:=p) hc
 have hf:=A12 @qkSt.eq_1 @qkHp.eq_1 @natV.eq_1 z0 z1 z2 f1 he @itup.eq_1 o1 o2 (A7 o3 o4 o5 o6 o7 n6 s6);refine sF ?_;(repeat' ((first|((with_reducible refine yN ?_);first|refine kS 69 (Effective_ok ur l _ (h1.le hM3) (by omega) ?_)|refine kS 128 (zOf 0 (by decide) (fun a0 M4 m4 ga _=>Stop.mk ?_)))|refine oB ?_|fail)<;>refine sF ?_<;>try with_reducible exact tT))<;>try clear hf
 have m4:Mem.le M3 M4:=m4
 have o8:=ga.one
 have hscale:=lsum_scale (filtX_scale (badC (effN l p)) (s:=s) hY)
 have hdp:dP l X s p=dX (lsum (filtX X s (badC (effN l p)))) (lsum X):=rfl
 generalize effN l p=eff at *
 refine Stop.go ?_
 have hf:=A12 n2 s2 o1 o2 o3 o4 o5 o6 o7 o8 n6 s6;refine sF ?_;(repeat' ((first|refine oB ?_|fail)<;>refine sF ?_<;>try with_reducible exact tT))<;>try clear hf
 refine ⟨fun m z=>∃M' j a,m=s.length-j∧j≤s.length∧Mem.le M4 M'∧IsZ M' a (lsum (filtX ((E.map NR.n).take j) (s.take j) (badC eff)))∧z=qkSt2 M' ui ur us uw nu d bv a I.length set i p eff s.length j,
  ⟨s.length,qkSt2 M4 ui ur us uw nu d bv a0 I.length set i p eff s.length 0,le_sub ⟨rfl,rfl,rfl,rfl,rfl,rfl,rfl,rfl,rfl,rfl,rfl,rfl,rfl,rfl,rfl,trivial⟩ ⟨rfl,trivial⟩ rfl rfl rfl (keepLt0 _),⟨M4,0,a0,by omega,by omega,Mem.le.refl _,ga,rfl⟩⟩,?_⟩
 clear o8 ga
 rintro m z ⟨M5,j,a,rfl,hj,m5,ga,rfl⟩
 have o8:=ga.one
 have hYlen:(E.map NR.n).length=s.length:=by rw[List.length_map,hEl,hXl]
 have hYs:lsum (E.map NR.n)≤D:=by
  have:=lsum_scale hY
  rw[Nat.mul_comm (lsum X) D]at this
  exact Nat.le_of_eq (Nat.eq_of_mul_eq_mul_right hN this)
 by_cases hjs:j<s.length
 case pos=>
  have y0:decide ((j:Int)<(s.length:Int))=true:=by rw[decide_eq_true_eq];omega
  have y1:(0:Int)≤(j:Int):=by omega
  have y2:(j:Int)<(s.length:Int):=by omega
  have wj:IntKind.i64.wrap ((j:Int)+1)=((j+1:Nat):Int):=succ_i (by omega)
  have hM5:=hM3.trans (m4.trans m5)
  have f2:=(h2.le hM5).idx (P:=Tryz.prog) (T:=3) tk3 tz3 (by omega) hjs
  have hjE:j<E.length:=by omega
  have gE5:=gE.le (m2.trans (m3.trans (m4.trans m5)))
  have f3:=gE5.idx (P:=Tryz.prog) (T:=25) tk25 tz25 (by omega) hjE
  have gz:=(gEo.le (m2.trans (m3.trans (m4.trans m5)))) _ (List.getElem_mem hjE)
  have hst:=filtX_take (badC eff) (E.map NR.n) s j (by omega) hjs
  rw[List.getElem_map]at hst
  have hsz:=filtX_le (badC eff) ((E.map NR.n).take (j+1)) (s.take (j+1))
  have hsz2:lsum ((E.map NR.n).take (j+1))≤D:=by
   refine Nat.le_trans ?_ hYs
   have:∀(Y:List Nat) k,lsum (Y.take k)≤lsum Y:=fun Y=>by
    induction Y with
    | nil=>intro k;simp[lsum]
    | cons y r ih=>intro k;cases k with
     | zero=>simp[lsum]
     | succ k=>rw[List.take_succ_cons,lsum,lsum];have:=ih k;omega
   exact this _ _
  have hs8:=hS _ (List.getElem_mem hjs)
  obtain ⟨e,hej⟩:∃e,E[j]=e:=⟨_,rfl⟩
  rw[hej]at gz f3 hst
  obtain ⟨sj,hsj⟩:∃x,s[j]=x:=⟨_,rfl⟩
  rw[hsj]at f2 hst hs8
  have o9:=gz.one
  have ba:=bits_and (a:=eff) (b:=sj) (by omega) (by omega)
  by_cases hbad:eff &&& sj=0
  ·have d1:decide (((eff &&& sj:Nat):Int)=0)=true:=by rw[hbad];rfl
   rw[if_neg (by unfold badC;simp[hbad]),Nat.add_zero]at hst
   have hf:=A12 @qkSt2.eq_1 @qkHp.eq_1 @natV.eq_1 y0 y1 y2 wj f2 ba d1 o1 (A10 o2 o3 o4 o5 o6 o7 o8 o9 n2 s2);refine sF ?_;(repeat' ((first|refine oB ?_|fail)<;>refine sF ?_<;>try with_reducible exact tT))<;>try clear hf
   exact ⟨s.length-(j+1),qkSt2 M5 ui ur us uw nu d bv a I.length set i p eff s.length (j+1),by omega,le_sub ⟨rfl,rfl,rfl,rfl,rfl,rfl,rfl,rfl,rfl,rfl,rfl,rfl,rfl,rfl,rfl,trivial⟩ ⟨rfl,trivial⟩ rfl rfl rfl (keepLt0 _),M5,j+1,a,rfl,by omega,m5,by rw[hst];exact ga,rfl⟩
  ·have d1:decide (((eff &&& sj:Nat):Int)=0)=false:=by rw[decide_eq_false_iff_not];omega
   rw[if_pos (by unfold badC;simp[hbad])]at hst
   have hlE:(E.length:Int)=(s.length:Int):=by omega
   rw[hlE]at f3
   have hf:=A12 @qkSt2.eq_1 @qkHp.eq_1 @natV.eq_1 y0 y1 y2 f2 f3 ba d1 o1 (A10 o2 o3 o4 o5 o6 o7 o8 o9 n2 s2);refine sF ?_;(repeat' ((first|((with_reducible refine yN ?_);refine kS 129 (zAdd ga gz (by rw[←hst];exact hsN1.le (by omega)) (fun a' M6 m6 ga' _=>Stop.mk ?_)))|refine oB ?_|fail)<;>refine sF ?_<;>try with_reducible exact tT))<;>try clear hf
   have m6:Mem.le M5 M6:=m6
   have o10:=ga'.one
   refine Stop.go ?_
   have hf:=A12 y1 y2 wj o1 o2 o3 o4 o5 o6 o7 o8 (A4 o9 o10 n2 s2);refine sF ?_;(repeat' ((first|refine oB ?_|fail)<;>refine sF ?_<;>try with_reducible exact tT))<;>try clear hf
   exact ⟨s.length-(j+1),qkSt2 M6 ui ur us uw nu d bv a' I.length set i p eff s.length (j+1),by omega,le_sub ⟨rfl,rfl,rfl,rfl,rfl,rfl,rfl,rfl,rfl,rfl,rfl,rfl,rfl,rfl,rfl,trivial⟩ ⟨rfl,trivial⟩ rfl rfl rfl (keepLt0 _),M6,j+1,a',rfl,by omega,m5.trans m6,by rw[hst];exact ga',rfl⟩
 obtain rfl:j=s.length:=by omega
 have y0:decide ((s.length:Int)<(s.length:Int))=false:=by simp
 rw[List.take_of_length_le (by omega),List.take_length]at ga
 have hRD:lsum (filtX (E.map NR.n) s (badC eff))≤D:=Nat.le_trans (filtX_le _ _ _) hYs
 generalize lsum (filtX (E.map NR.n) s (badC eff))=R' at *
 have hds:=dX_scale hscale
 rw[←hdp]at hds
 have hdist:(R'+R'-D)+(D-(R'+R'))=dX R' D:=by unfold dX;rw[show R'+R'=2*R' by omega]
 have hdD:dX R' D≤D:=by unfold dX;omega
 have hf:=A12 @qkSt2.eq_1 @qkHp.eq_1 y0 o1 o2 o3 o4 o5 o6 o7 o8 (A2 n2 s2);refine sF ?_;(repeat' ((first|((with_reducible refine yN ?_);refine kS 129 (zAdd ga ga (hsN.le (by omega)) (fun a' M6 m6 ga' _=>Stop.mk ?_)))|refine oB ?_|fail)<;>refine sF ?_<;>try with_reducible exact tT))<;>try clear hf
 have m6:Mem.le M5 M6:=m6
 have o10:=ga'.one
 have gD6:=gD.le (m2.trans (m3.trans (m4.trans (m5.trans m6))))
 refine Stop.go ?_
 have hf:=A9 o1 o2 o3 o4 o5 o6 o7 o8 o10;refine sF ?_;(repeat' ((first|((with_reducible refine yN ?_);refine kS 130 (apart_ok ga' gD6 (fun c M7 m7 gc=>Stop.mk ?_)))|refine oB ?_|fail)<;>refine sF ?_<;>try with_reducible exact tT))<;>try clear hf
 have m7:Mem.le M6 M7:=m7
 rw[hdist]at gc
 have o11:=gc.one
 have hM37:=m4.trans (m5.trans (m6.trans m7))
 have hfp:dP l X s p≤lsum X:=by
  have h3:lsum (filtX X s (badC eff))≤lsum X:=filtX_le _ _ _
  rw[hdp];unfold dX;omega
 rcases hpk with ⟨rfl,rfl⟩|⟨hi0,bb,bb',gb,hbs,hpk⟩
 ·refine Stop.go ?_
  have hf:=A11 wi o1 o2 o3 o4 o5 o6 o7 o8 o10 o11;refine sF ?_;(repeat' ((first|refine oB ?_|fail)<;>refine sF ?_<;>try with_reducible exact tT))<;>try clear hf
  exact ⟨I.length-(0+1),qkSt M7 ui ur us uw nu d c I.length p (0+1),by omega,le_sub ⟨rfl,rfl,rfl,rfl,rfl,rfl,rfl,rfl,trivial⟩ ⟨rfl,trivial⟩ rfl rfl rfl (keepLt0 _),M7,0+1,p,c,rfl,by omega,m3.trans hM37,o11,.inr ⟨by omega,dP l X s p,dX R' D,gc,hds,by rw[←hspl,hdr,pick_first (by omega)]⟩,rfl⟩
 ·have hi0':decide ((i:Int)=0)=false:=by rw[decide_eq_false_iff_not];omega
  rw[hdr,pickS]at hpk
  have hiff:=lt_scale hN hD0 hds hbs
  refine Stop.go ?_
  have hf:=A11 hi0' o1 o2 o3 o4 o5 o6 o7 o8 o10 o11;refine sF ?_;(repeat' ((first|((with_reducible refine yN ?_);refine kS 131 (zCmp gc (gb.le hM37) (Stop.mk ?_)))|refine oB ?_|fail)<;>refine sF ?_<;>try with_reducible exact tT))<;>try clear hf
  by_cases hless:dP l X s p<bb
  ·have hcm:decide (cmpN (dX R' D) bb'<0)=true:=by rw[cmpN_lt (hiff.2 hless)];rfl
   rw[if_pos hless]at hpk
   refine Stop.go ?_
   have hf:=A12 hcm wi o1 o2 o3 o4 o5 o6 o7 o8 o10 o11;refine sF ?_;(repeat' ((first|refine oB ?_|fail)<;>refine sF ?_<;>try with_reducible exact tT))<;>try clear hf
   exact ⟨I.length-(i+1),qkSt M7 ui ur us uw nu d c I.length p (i+1),by omega,le_sub ⟨rfl,rfl,rfl,rfl,rfl,rfl,rfl,rfl,trivial⟩ ⟨rfl,trivial⟩ rfl rfl rfl (keepLt0 _),M7,i+1,p,c,rfl,by omega,m3.trans hM37,o11,.inr ⟨by omega,dP l X s p,dX R' D,gc,hds,hpk⟩,rfl⟩
  ·have hcm:decide (cmpN (dX R' D) bb'<0)=false:=by
    have:¬dX R' D<bb':=fun h=>hless (hiff.1 h)
    rw[decide_eq_false_iff_not]
    unfold cmpN
    (repeat' split)<;>omega
   rw[if_neg hless]at hpk
   refine Stop.go ?_
   have hf:=A12 hcm wi o1 o2 o3 o4 o5 o6 o7 o8 o10 o11;refine sF ?_;(repeat' ((first|refine oB ?_|fail)<;>refine sF ?_<;>try with_reducible exact tT))<;>try clear hf
   exact ⟨I.length-(i+1),qkSt M7 ui ur us uw nu d bv I.length set (i+1),by omega,le_sub ⟨rfl,rfl,rfl,rfl,rfl,rfl,rfl,rfl,trivial⟩ ⟨rfl,trivial⟩ rfl rfl rfl (keepLt0 _),M7,i+1,set,bv,rfl,by omega,m3.trans hM37,o7,.inr ⟨by omega,bb,bb',gb.le hM37,hbs,hpk⟩,rfl⟩
theorem psplit_ok(h:IsB M ur us uw l s (qX X))(hP:PX s X b)(hc:chkL l=true)(hs:∃m:Int,(m=1∨m=2)∧s=setsL l m)(b2:s.length<1000000)(hS:∀x∈s,x<256)(hb:Sm (b*1000000))
  (hK:∀M',Mem.le M M'→K (.ext (.tuple #[.int .i64 ((splitX l X s:Nat):Int),.int .i64 0])) [] M') :
  CallS Tryz.prog 38 [.ext (.agg #[ur,us,uw])] [] M [] K:=by
 refine inlS (cs:=[]) Tryz.mixed Tryz.func38 rfl (by kernel_rfl) 0 rfl rfl ?_
 simp only[Tryz.f38]
 obtain ⟨L,h3,h4,h5⟩:=h.q
 have hLl:L.length=s.length:=by have:=congrArg List.length h5;rw[List.length_map,List.length_map,qX_len,hP.len]at this;exact this
 have hk:=(hP.bx hc hs).chk (hb.le (Nat.le_mul_of_pos_right _ (by decide))) h5
 have hl8:=chk_len hc
 have o1:=h.l.one
 have o2:=h.s.one
 have o3:=h3.one
 have hf:=A3 o1 o2 o3;refine sF ?_;(repeat' ((first|((with_reducible refine yN ?_);refine kS 18 (pcheck_ok h.l h.s.nat h3 h4 (by omega) (by rw[List.length_map];omega) (by omega) (fun M1 m1=>Stop.mk ?_)))|refine oB ?_|fail)<;>refine sF ?_<;>try with_reducible exact tT))<;>try clear hf
 have m1:Mem.le M M1:=m1
 refine Stop.go ?_
 have hf:=A4 o1 o2 o3 hk;refine sF ?_;(repeat' ((first|((with_reducible refine yN ?_);refine kS 89 (quick_ok (h.le m1) hP hc b2 hS hb (fun M2 m2=>Stop.mk ?_)))|refine oB ?_|fail)<;>refine sF ?_<;>try with_reducible exact tT))<;>try clear hf
 have hk:=hK M2 (m1.trans m2)
 refine Stop.go ?_
 have hf:=A3 o1 o2 o3;refine sF ?_;(repeat' ((first|refine oB ?_|fail)<;>refine sF ?_<;>try with_reducible exact tT))<;>try clear hf
 exact hk
theorem psplitN_ok{s:List Int}{L:List FR}(h1:IsL M intV64 ur l)(h2:IsL M intV64 us s)(h3:IsR M 2 FR.c uw L)(h4:okFL M L)(b1:l.length<1000000)(b2:s.length<1000000)(b3:L.length<1000000)(hc:chkB l s L=false)
  (hK:∀M',Mem.le M M'→K (.ext (.tuple #[.int .i64 0,.int .i64 1])) [] M') :
  CallS Tryz.prog 38 [.ext (.agg #[ur,us,uw])] [] M [] K:=by
 refine inlS (cs:=[]) Tryz.mixed Tryz.func38 rfl (by kernel_rfl) 0 rfl rfl ?_
 simp only[Tryz.f38]
 have o1:=h1.one
 have o2:=h2.one
 have o3:=h3.one
 have hf:=A3 o1 o2 o3;refine sF ?_;(repeat' ((first|((with_reducible refine yN ?_);refine kS 18 (pcheck_ok h1 h2 h3 h4 b1 b2 b3 (fun M1 m1=>Stop.mk ?_)))|refine oB ?_|fail)<;>refine sF ?_<;>try with_reducible exact tT))<;>try clear hf
 have m1:Mem.le M M1:=m1
 have hk:=hK M1 m1
 refine Stop.go ?_
 have hf:=A4 o1 o2 o3 hc;refine sF ?_;(repeat' ((first|refine oB ?_|fail)<;>refine sF ?_<;>try with_reducible exact tT))<;>try clear hf
 exact hk
end
def bestI(L:List FR):Nat→Nat
 | 0=>0
 | k+1=>if 0<cmpF (L.getD k zFR).l1 (L.getD k zFR).l2 (L.getD (bestI L k) zFR).l1 (L.getD (bestI L k) zFR).l2 then k else bestI L k
theorem bestI_le(L:List FR):∀k,bestI L k≤k
 | 0=>Nat.le_refl _
 | k+1=>by
  rw[bestI]
  have:=bestI_le L k
  split<;>omega
theorem bestI_lt(L:List FR):∀k,0<k→bestI L k<k
 | k+1,_=>by
  rw[bestI]
  have:=bestI_le L k
  split<;>omega
section
variable {M:Mem}{K:AV→Hp→Mem→Prop}{ur us uw u1 u2:Value}{l s:List Int}{l1 l2:List Nat}{L:List FR}
theorem cloneN_ok(u:Value)(l:List Nat)(hu:IsL M u32V u l)(hb:l.length<1000000000)(hK:∀w M',Mem.le M M'→IsL M' u32V w l→FreshS M w→K (.ext w) [] M'):CallS Tryz.prog 125 [.ext u] [] M [] K:=by
 refine CallS.frzF ?_
 refine inlS (cs:=[]) Tryz.mixed Tryz.func125 rfl (by kernel_rfl) 0 rfl rfl ?_
 simp only[Tryz.f125]
 cases hn:nilS u with
 | true=>
  have hl:l=[]:=by
   rcases l with _|⟨a,r⟩
   ·rfl
   ·rw[hu.nn (i:=0) (by simp)]at hn;cases hn
  subst hl
  have hf:=A11 hn hu.one hu.sl @cE_ment @hasK_nil @cE_kill @cE_len @u32_one @u32_app1 @u32_set @Nat.mul_one;refine sF ?_;(repeat' ((first|refine oB ?_|fail)<;>refine sF ?_<;>try with_reducible exact tT))<;>try clear hf
  exact .inl (hK _ _ (Mem.le.refl _) (isL_nil _ _ _) (freshS_nil _ _))
 | false=>
  have hrow:=hu.row
  have h1:List.map AV.ext (List.map u32V l)=cE u32V l:=rfl
  have hf:=A12 hn hu.one hu.sl hu.len hrow h1 @cE_ment @hasK_nil @cE_kill @cE_len @u32_one (A3 @u32_app1 @u32_set @Nat.mul_one);refine sF ?_;(repeat' ((first|refine oB ?_|fail)<;>refine sF ?_<;>try with_reducible exact tT))<;>try clear hf
  exact FrzF.one (l.map u32V) rfl (by simp) fun w M' h1 h2 h3=>hK w M' h1 (by unfold IsL;exact h2) h3
theorem copied_ok(hu:IsF M u1 u2 l1 l2)(hK:∀w1 w2 M',Mem.le M M'→IsF M' w1 w2 l1 l2→K (.ext (.agg #[w1,w2])) [] M'):CallS Tryz.prog 87 [.ext (.agg #[u1,u2])] [] M [] K:=by
 refine inlS (cs:=[]) Tryz.mixed Tryz.func87 rfl (by kernel_rfl) 0 rfl rfl ?_
 simp only[Tryz.f87]
 have h1:=hu.n.one
 have h2:=hu.d.one
 have bn:=hu.bn
 have bd:=hu.bd
 have hf:=A2 h1 h2;refine sF ?_;(repeat' ((first|((with_reducible refine yM ?_);refine kS 125 (cloneN_ok u1 l1 hu.n (by omega) (fun w1 M1 m1 a1 _=>Stop.mk ?_)))|((with_reducible refine isE 3 (by decide) ?_);refine dR ((0,[]) :: (1,[]) :: (3,[1]) :: (4,[1]) :: (2,[4]) :: (rP 5 3 [] [])) (rgL 3 5 []) [] ?_)|refine oB ?_|fail)<;>refine sF ?_<;>try with_reducible exact tT))<;>try clear hf
 have m1:Mem.le M M1:=m1
 have p1:=a1.one
 have hd:=hu.d.le m1
 refine Stop.go ?_
 have hf:=A3 h1 h2 p1;refine sF ?_;(repeat' ((first|((with_reducible refine yM ?_);refine kS 125 (cloneN_ok u2 l2 hd (by omega) (fun w2 M2 m2 a2 _=>Stop.mk ?_)))|refine oB ?_|fail)<;>refine sF ?_<;>try with_reducible exact tT))<;>try clear hf
 have m2:Mem.le M1 M2:=m2
 have p2:=a2.one
 have hk:=hK w1 w2 M2 (m1.trans m2) ⟨a1.le m2,a2,hu.on,hu.od,hu.bn,hu.bd⟩
 refine Stop.go ?_
 have hf:=A4 h1 h2 p1 p2;refine sF ?_;(repeat' ((first|refine oB ?_|fail)<;>refine sF ?_<;>try with_reducible exact tT))<;>try clear hf
 exact hk
def bsSt(M:Mem)(ur us uw:Value)(n i a:Nat):St:={env:=[(14,.ext (.int .i64 (i:Int))),(13,.ext (.int .i64 (n:Int))),(5,.ext (.int .i64 (a:Int))),(3,.own 3 0),(1,.own 1 0)],hp:=[(3,27,[.ext (.slice none 0 0),.ext (.slice none 0 0)]),(1,40,[.ext ur,.ext us,.ext uw])],M:=M,kb:=0,fx:=[]}
theorem best_ok(h1:IsL M intV64 ur l)(h2:IsL M intV64 us s)(h3:IsR M 2 FR.c uw L)(h4:okFL M L)(b1:l.length<1000000)(b2:s.length<1000000)(b3:L.length<1000000)(hc:chkB l s L=true)(h0:0<s.length)(hl:s.length=L.length)
  (hK:∀w1 w2 M',Mem.le M M'→IsF M' w1 w2 (L.getD (bestI L s.length) zFR).l1 (L.getD (bestI L s.length) zFR).l2→K (.ext (.tuple #[.int .i64 (s.getD (bestI L s.length) 0),.agg #[w1,w2],.int .i64 0])) [] M') :
  CallS Tryz.prog 36 [.ext (.agg #[ur,us,uw])] [] M [] K:=by
 refine inlS (cs:=[]) Tryz.mixed Tryz.func36 rfl (by kernel_rfl) 0 rfl rfl ?_
 simp only[Tryz.f36]
 have o1:=h1.one
 have o2:=h2.one
 have o3:=h3.one
 have n2:=h2.len
 have n3:=h3.len
 have s2:=h2.sl
 have s3:=h3.sl
 rw[←hl]at n3
 have hf:=A7 o1 o2 o3 n2 n3 s2 s3;refine sF ?_;(repeat' ((first|((with_reducible refine yN ?_);refine kS 18 (pcheck_ok h1 h2 h3 h4 b1 b2 b3 (fun M1 m1=>Stop.mk ?_)))|refine oB ?_|fail)<;>refine sF ?_<;>try with_reducible exact tT))<;>try clear hf
 have m1:Mem.le M M1:=m1
 refine Stop.go ?_
 have hf:=A8 o1 o2 o3 n2 n3 s2 s3 hc;refine sF ?_;(repeat' ((first|refine oB ?_|fail)<;>refine sF ?_<;>try with_reducible exact tT))<;>try clear hf
 refine ⟨fun d z=>∃M' i,d=s.length-i∧i≤s.length∧Mem.le M M'∧z=bsSt M' ur us uw s.length i (bestI L i),
  ⟨s.length,bsSt M1 ur us uw s.length 0 0,le_sub ⟨rfl,rfl,rfl,rfl,rfl,trivial⟩ ⟨rfl,rfl,trivial⟩ rfl rfl rfl (keepLt0 _),⟨M1,0,by omega,by omega,m1,rfl⟩⟩,?_⟩
 clear m1
 rintro d z ⟨M1,i,rfl,hi,hM,rfl⟩
 by_cases hlt:i<s.length
 case pos=>
  have d1:decide ((i:Int)<(s.length:Int))=true:=by rw[decide_eq_true_eq];omega
  have q1:(0:Int)≤(i:Int):=by omega
  have q2:(i:Int)<(s.length:Int):=by omega
  have wi:IntKind.i64.wrap ((i:Int)+1)=((i+1:Nat):Int):=succ_i (by omega)
  have hb:=bestI_le L i
  have k1:i<L.length:=by omega
  have k2:bestI L i<L.length:=by omega
  have q3:(0:Int)≤(bestI L i:Int):=by omega
  have q4:(bestI L i:Int)<(s.length:Int):=by omega
  have hnx:bestI L (i+1)=if 0<cmpF L[i].l1 L[i].l2 (L[bestI L i]).l1 (L[bestI L i]).l2 then i else bestI L i:=by
   rw[bestI,List.getD_eq_getElem?_getD,List.getD_eq_getElem?_getD,List.getElem?_eq_getElem k1,List.getElem?_eq_getElem k2];rfl
  have nn:=(h3.le hM).nn k1
  have a1:=(h3.le hM).at (P:=Tryz.prog) (T:=27) (fun _=>rfl) tk27 tz27 k1
  have a2:=(h3.le hM).at (P:=Tryz.prog) (T:=27) (fun _=>rfl) tk27 tz27 k2
  have f1:=h4.le hM _ (List.getElem_mem k1)
  have f2:=h4.le hM _ (List.getElem_mem k2)
  generalize bestI L i=b at *
  generalize L[i]=X at *
  generalize L[b]=Y at *
  obtain ⟨x1,x2,y1,y2⟩:=X
  obtain ⟨z1,z2,w1,w2⟩:=Y
  have a1:lookM Tryz.prog 27 M1 (elemP uw 2 i)=some (.agg #[x1,x2]):=a1
  have a2:lookM Tryz.prog 27 M1 (elemP uw 2 b)=some (.agg #[z1,z2]):=a2
  have f1:IsF M1 x1 x2 y1 y2:=f1
  have f2:IsF M1 z1 z2 w1 w2:=f2
  have p1:=f1.n.one
  have p2:=f1.d.one
  have p3:=f2.n.one
  have p4:=f2.d.one
  simp only at hnx
  have hf:=A12 @bsSt.eq_1 d1 q1 q2 q3 q4 nn a1 a2 p1 p2 (A9 p3 p4 o1 o2 o3 n2 n3 s2 s3);refine sF ?_;(repeat' ((first|((with_reducible refine yM ?_);refine kS 64 (fcmp_ok f1 f2 (fun M2 m2=>Stop.mk ?_)))|((with_reducible refine isE 17 (by decide) ?_);refine dR [(0,[]),(1,[]),(2,[1]),(3,[]),(4,[]),(5,[1,4]),(6,[1,4]),(7,[1,4,6]),(8,[1,4]),(9,[1,4]),(10,[]),(11,[])] (rgL 17 10 []) [] ?_)|((with_reducible refine isE 31 (by decide) ?_);refine dR ((0,[]) :: (1,[]) :: (2,[1]) :: (3,[]) :: (4,[]) :: (5,[1,4]) :: (6,[1,4]) :: (7,[1,4,6]) :: (rP 8 3 [1,4] (rP 11 3 [] []))) (rgL 31 11 []) [] ?_)|refine oB ?_|fail)<;>refine sF ?_<;>try with_reducible exact tT))<;>try clear hf
  have m2:Mem.le M1 M2:=m2
  by_cases hcm:0<cmpF y1 y2 w1 w2
  ·have e1:decide (0<cmpF y1 y2 w1 w2)=true:=decide_eq_true hcm
   refine Stop.go ?_
   have hf:=A5 e1 wi o1 o2 o3;refine sF ?_;(repeat' ((first|refine oB ?_|fail)<;>refine sF ?_<;>try with_reducible exact tT))<;>try clear hf
   exact ⟨s.length-(i+1),bsSt M2 ur us uw s.length (i+1) i,by omega,le_sub ⟨rfl,rfl,rfl,rfl,rfl,trivial⟩ ⟨rfl,rfl,trivial⟩ rfl rfl rfl (keepLt0 _),M2,i+1,rfl,by omega,hM.trans m2,by rw[hnx,if_pos hcm]⟩
  ·have e1:decide (0<cmpF y1 y2 w1 w2)=false:=decide_eq_false hcm
   refine Stop.go ?_
   have hf:=A5 e1 wi o1 o2 o3;refine sF ?_;(repeat' ((first|refine oB ?_|fail)<;>refine sF ?_<;>try with_reducible exact tT))<;>try clear hf
   exact ⟨s.length-(i+1),bsSt M2 ur us uw s.length (i+1) b,by omega,le_sub ⟨rfl,rfl,rfl,rfl,rfl,trivial⟩ ⟨rfl,rfl,trivial⟩ rfl rfl rfl (keepLt0 _),M2,i+1,rfl,by omega,hM.trans m2,by rw[hnx,if_neg hcm]⟩
 obtain rfl:i=s.length:=by omega
 have d1:decide ((s.length:Int)<(s.length:Int))=false:=by simp
 have hb:=bestI_lt L s.length h0
 generalize bestI L s.length=b at *
 have k1:b<L.length:=by omega
 have q3:(0:Int)≤(b:Int):=by omega
 have q4:(b:Int)<(s.length:Int):=by omega
 have nn:=(h3.le hM).nn k1
 have a1:=(h3.le hM).at (P:=Tryz.prog) (T:=27) (fun _=>rfl) tk27 tz27 k1
 have f1:=h4.le hM _ (List.getElem_mem k1)
 have g1:=(h2.le hM).idx (P:=Tryz.prog) (T:=3) tk3 tz3 (by omega) hb
 rw[List.getD_eq_getElem?_getD,List.getElem?_eq_getElem k1,List.getD_eq_getElem?_getD,List.getElem?_eq_getElem hb,Option.getD_some,Option.getD_some]at hK
 generalize L[b]=X at *
 generalize s[b]=y at *
 obtain ⟨x1,x2,y1,y2⟩:=X
 have a1:lookM Tryz.prog 27 M1 (elemP uw 2 b)=some (.agg #[x1,x2]):=a1
 have f1:IsF M1 x1 x2 y1 y2:=f1
 have p1:=f1.n.one
 have p2:=f1.d.one
 have hf:=A12 @bsSt.eq_1 d1 q3 q4 nn a1 g1 @intV64.eq_1 p1 p2 o1 (A6 o2 o3 n2 n3 s2 s3);refine sF ?_;(repeat' ((first|((with_reducible refine yM ?_);refine kS 87 (copied_ok f1 (fun v1 v2 M2 m2 a2=>Stop.mk ?_)))|((with_reducible refine isE 17 (by decide) ?_);refine dR [(0,[]),(1,[]),(2,[1]),(3,[]),(4,[]),(5,[1,4]),(6,[1,4]),(7,[1,4,6]),(8,[1,4]),(9,[1,4]),(10,[]),(11,[])] (rgL 17 10 []) [] ?_)|((with_reducible refine isE 31 (by decide) ?_);refine dR ((0,[]) :: (1,[]) :: (2,[1]) :: (3,[]) :: (4,[]) :: (5,[1,4]) :: (6,[1,4]) :: (7,[1,4,6]) :: (rP 8 3 [1,4] (rP 11 3 [] []))) (rgL 31 11 []) [] ?_)|refine oB ?_|fail)<;>refine sF ?_<;>try with_reducible exact tT))<;>try clear hf
 have m2:Mem.le M1 M2:=m2
 have p3:=a2.n.one
 have p4:=a2.d.one
 have hk:=hK v1 v2 M2 (hM.trans m2) a2
 refine Stop.go ?_
 have hf:=A5 p3 p4 o1 o2 o3;refine sF ?_;(repeat' ((first|refine oB ?_|fail)<;>refine sF ?_<;>try with_reducible exact tT))<;>try clear hf
 exact hk
end
section
variable {M:Mem}{K:AV→Hp→Mem→Prop}{ur us uw:Value}{l:List Int}{s X:List Nat}{b:Nat}
end
section
variable {M:Mem}{K:AV→Hp→Mem→Prop}{ur us uw u1 u2:Value}{l s:List Int}{l1 l2:List Nat}{L:List FR}
theorem pbestN_ok(h1:IsL M intV64 ur l)(h2:IsL M intV64 us s)(h3:IsR M 2 FR.c uw L)(h4:okFL M L)(b1:l.length<1000000)(b2:s.length<1000000)(b3:L.length<1000000)(hc:chkB l s L=false)
  (hK:∀M',Mem.le M M'→K (.ext (.tuple #[.int .i64 0,.agg #[.slice none 0 0,.slice none 0 0],.int .i64 1])) [] M') :
  CallS Tryz.prog 36 [.ext (.agg #[ur,us,uw])] [] M [] K:=by
 refine inlS (cs:=[]) Tryz.mixed Tryz.func36 rfl (by kernel_rfl) 0 rfl rfl ?_
 simp only[Tryz.f36]
 have o1:=h1.one
 have o2:=h2.one
 have o3:=h3.one
 have hf:=A3 o1 o2 o3;refine sF ?_;(repeat' ((first|((with_reducible refine yN ?_);refine kS 18 (pcheck_ok h1 h2 h3 h4 b1 b2 b3 (fun M1 m1=>Stop.mk ?_)))|refine oB ?_|fail)<;>refine sF ?_<;>try with_reducible exact tT))<;>try clear hf
 have m1:Mem.le M M1:=m1
 have hk:=hK M1 m1
 refine Stop.go ?_
 have hf:=A4 o1 o2 o3 hc;refine sF ?_;(repeat' ((first|refine oB ?_|fail)<;>refine sF ?_<;>try with_reducible exact tT))<;>try clear hf
 exact hk
end
theorem facG_cong(s:Nat):∀(P P':List FR) (j:Nat),P.map prV=P'.map prV→facG s j P=facG s j P'
 | [],[],_,_=>rfl
 | [],_ :: _,_,h=>by simp at h
 | _ :: _,[],_,h=>by simp at h
 | x :: r,y :: q,j,h=>by
  rw[List.map_cons,List.map_cons,List.cons.injEq]at h
  have h1:x.l1=y.l1∧x.l2=y.l2:=Prod.mk.injEq ..▸h.1
  rw[facG,facG,facG_cong s r q (j+1) h.2]
  unfold facE
  rw[h1.1,h1.2]
theorem newB_cong{l:List Int}{m:Int}{P P':List FR}(h:P.map prV=P'.map prV):newB l P m=newB l P' m:=by
 have h1:P.length=P'.length:=by have:=congrArg List.length h;simpa using this
 have h2:newW P=newW P':=funext fun s=>by unfold newW;rw[facG_cong s P P' 0 h]
 unfold newB
 rw[h1,all_cong innF P P' h,h2]
theorem updB_cong{l s:List Int}{fl dt:LP}{pool:Int}{failed:Bool}{L L':List FR}(h:L.map prV=L'.map prV):updB l s L fl dt pool failed=updB l s L' fl dt pool failed:=by
 have h1:L.length=L'.length:=by have:=congrArg List.length h;simpa using this
 unfold updB chkB oneS
 rw[h1,all_cong posF L L' h,sumF_cong h,updL_cong L L' _ h]
theorem bestI_cong:∀(L L':List FR),L.map prV=L'.map prV→∀k,bestI L k=bestI L' k:=fun L L' h=>by
 have hg:∀i,(L.getD i zFR).l1=(L'.getD i zFR).l1∧(L.getD i zFR).l2=(L'.getD i zFR).l2:=fun i=>by
  have e:=congrArg (fun X=>X[i]?) h
  simp only[List.getElem?_map]at e
  rw[List.getD_eq_getElem?_getD,List.getD_eq_getElem?_getD]
  cases h1:L[i]? with
  | none=>
   cases h2:L'[i]? with
   | none=>exact ⟨rfl,rfl⟩
   | some y=>rw[h1,h2]at e;cases e
  | some x=>
   cases h2:L'[i]? with
   | none=>rw[h1,h2]at e;cases e
   | some y=>
    rw[h1,h2]at e
    have e:=Option.some.inj e
    exact (Prod.mk.injEq ..▸e:x.l1=y.l1∧x.l2=y.l2)
 intro k
 induction k with
 | zero=>rfl
 | succ k ih=>rw[bestI,bestI,ih,(hg k).1,(hg k).2,(hg (bestI L' k)).1,(hg (bestI L' k)).2]
def B1:BR:=⟨0,[-1,-1],[1,2],[(1,2),(1,2)]⟩
def B2:BR:=⟨0,[-1,-1],[1,2],[(3,4),(1,4)]⟩
theorem known1:newB [-1,-1] [qFR (1,2),qFR (1,2)] 1=B1:=by kernel_rfl
theorem known2:updB [-1,-1] [1,2] [qFR (1,2),qFR (1,2)] (opN (1,4)) (opN (3,4)) 1 true=B2:=by kernel_rfl
theorem known3:chkB [-1,-1] [1,2] [qFR (3,4),qFR (1,4)]=true:=by kernel_rfl
theorem known4:bestI [qFR (3,4),qFR (1,4)] 2=0:=by kernel_rfl
theorem FrzF.rng{K:AV→Hp→Mem→Prop}{H H2:Hp}{M':Mem}{k n:Nat}{T:TypeId}(cs:List Value)(h1:lkH H k=none)(h2:cs.length=n)(h3:hasK k (mentH H2)=false)(h4:lkH H2 k=none)(h:∀u M'',Mem.le M' M''→SlM M'' 1 u n cs→FreshS M' u→K (.ext (rngV u)) H2 M''):FrzF K H (.ag false [.slo k 0 n 1]) ((k,T,cs.map .ext) :: H2) M':=
 .inr ⟨some false,[],[],k,n,1,T,cs,H2,rfl,rfl,h4,h1,by omega,by simpa [mentL] using h3,h⟩
theorem chkB_cong{l s:List Int}{L L':List FR}(h:L.map prV=L'.map prV):chkB l s L=chkB l s L':=by
 have h1:L.length=L'.length:=by have:=congrArg List.length h;simpa using this
 unfold chkB oneS
 rw[h1,all_cong posF L L' h,sumF_cong h]
theorem okH:OkN (1,2):=⟨by decide,by decide,by decide,by decide⟩
section
variable {M:Mem}{K:AV→Hp→Mem→Prop}
theorem plain_frz(n:Nat)(hn:n≤100)(hK:∀u M',Mem.le M M'→IsL M' intV64 u (List.replicate n (-1))→FreshS M u→K (.ext (rngV u)) [] M'):CallS Tryz.prog 42 [.ext (.int .i64 (n:Int))] [] M [] K:=by
 refine CallS.frzF (plain_own n hn ?_)
 refine FrzF.rng ((List.replicate n (-1)).map intV64) rfl (by simp) rfl rfl (fun u M'' hM hs hf=>hK u M'' hM ?_ hf)
 unfold IsL
 rw[List.length_replicate];exact hs
theorem sml2_ok(n d:Nat)(hn:0<n)(hd:0<d)(hd2:d≤1000)(hn2:n≤1000)(hg:Nat.gcd n d=1)(hK:∀w1 w2 M',Mem.le M M'→IsF M' w1 w2 (ofN n) (ofN d)→K (.ext (.agg #[w1,w2])) [] M'):CallS Tryz.prog 13 [.ext (.int .i64 (n:Int)),.ext (.int .i64 (d:Int))] [] M [] K:=
 sml_ok n d (by omega) (by omega) (by omega) fun w1 w2 M' a1 a2 a3 _ _=>hK w1 w2 M' a1 (by
  rw[hg,Nat.div_one]at a2 a3
  exact isF_ofN a2 a3 ⟨(sm1000 (by omega)).len,(sm1000 (by omega)).len⟩)
theorem known35_ok(hK:∀M',Mem.le M M'→K (.ext (.bool true)) [] M'):CallS Tryz.prog 10 [] [] M [] K:=by
 refine inlS (cs:=[]) Tryz.mixed Tryz.func10 rfl (by kernel_rfl) 0 rfl rfl ?_
 simp only[Tryz.f10]
 refine sU ?_;(repeat' ((first|((with_reducible first|refine yN ?_|refine yM ?_);refine kS 13 (sml2_ok 1 2 (by decide) (by decide) (by decide) (by decide) (by decide) (fun v1 v2 M1 m1 f1=>Stop.mk ?_)))|((with_reducible refine isE 11 (by decide) ?_);refine dR ((1,[]) :: (2,[1]) :: (3,[]) :: (8,[1,2]) :: (0,[1,2]) :: (rP 4 4 [] [(9,[]),(10,[])])) (2 :: (rgL 10 8 [])) [] ?_)|((with_reducible refine isE 19 (by decide) ?_);refine dR ((0,[]) :: (8,[0]) :: (rP 1 3 [0] (rP 4 4 [] [(9,[]),(10,[])]))) (4 :: (rgL 18 8 [])) [] ?_)|((with_reducible refine isE 32 (by decide) ?_);refine dR (rP 0 21 [] ((21,[18,20]) :: (rP 22 8 [] ((30,[29]) :: (rP 31 3 [] []))))) (rgL 49 5 [61,62]) [] ?_)|refine oB ?_|fail)<;>refine sU ?_<;>try with_reducible exact tT))
 have m1:Mem.le M M1:=m1
 have p1:=f1.n.one
 have p2:=f1.d.one
 refine Stop.go ?_
 have hf:=A2 p1 p2;refine sF ?_;(repeat' ((first|((with_reducible refine yM ?_);refine kS 42 (plain_frz 2 (by decide) (fun u M2 m2 a2 _=>Stop.mk ?_)))|((with_reducible refine isE 11 (by decide) ?_);refine dR ((1,[]) :: (2,[1]) :: (3,[]) :: (8,[1,2]) :: (0,[1,2]) :: (rP 4 4 [] [(9,[]),(10,[])])) (2 :: (rgL 10 8 [])) [] ?_)|((with_reducible refine isE 19 (by decide) ?_);refine dR ((0,[]) :: (8,[0]) :: (rP 1 3 [0] (rP 4 4 [] [(9,[]),(10,[])]))) (4 :: (rgL 18 8 [])) [] ?_)|((with_reducible refine isE 32 (by decide) ?_);refine dR (rP 0 21 [] ((21,[18,20]) :: (rP 22 8 [] ((30,[29]) :: (rP 31 3 [] []))))) (rgL 49 5 [61,62]) [] ?_)|refine oB ?_|fail)<;>refine sF ?_<;>try with_reducible exact tT))<;>try clear hf
 have m2:Mem.le M1 M2:=m2
 have a2:IsL M2 intV64 u [-1,-1]:=a2
 have p3:=a2.one
 have f2:=f1.le m2
 have hok:okFL M2 [⟨v1,v2,ofN 1,ofN 2⟩,⟨v1,v2,ofN 1,ofN 2⟩]:=fun x hx=>by
  rcases List.mem_cons.1 hx with h|hx
  ·rw[h];exact f2
  ·rw[List.mem_singleton.1 hx];exact f2
 have hq:newB [-1,-1] [⟨v1,v2,ofN 1,ofN 2⟩,⟨v1,v2,ofN 1,ofN 2⟩] 1=B1:=(newB_cong (P':=[qFR (1,2),qFR (1,2)]) rfl).trans known1
 have hpr:([⟨v1,v2,ofN 1,ofN 2⟩,⟨v1,v2,ofN 1,ofN 2⟩]:List FR).all (fun x=>innF x.l1 x.l2)=true→([⟨v1,v2,ofN 1,ofN 2⟩,⟨v1,v2,ofN 1,ofN 2⟩]:List FR).length≤8→∀s,(prodV 1 1 (facG s 0 [⟨v1,v2,ofN 1,ofN 2⟩,⟨v1,v2,ofN 1,ofN 2⟩])).1=0:=fun _ _ s=>(newW_red (N:=[(1,2),(1,2)]) rfl (fun p hp=>by
  rcases List.mem_cons.1 hp with h|hp
  ·rw[h];exact okH
  ·rw[List.mem_singleton.1 hp];exact okH) (by decide) s).1
 refine Stop.go ?_
 have hf:=A4 p1 p2 p3 @rngV.eq_1;refine sF ?_;(repeat' ((first|((with_reducible first|refine yB ?_|refine yC ?_);first|refine kG 15 ?_|refine kS 15 (pnew_bor 14 2 _ 1 rfl a2 hok (by decide) (show 2<1000000 by decide) hpr (hq▸(fun wr ws ww M3 m3 g1 g2 g3=>Stop.mk ?_))))|refine oB ?_|fail)<;>refine sF ?_<;>try with_reducible exact tT))<;>try clear hf
 have m3:Mem.le M2 M3:=m3
 have g1:IsL M3 intV64 wr [-1,-1]:=g1
 have g2:IsL M3 intV64 ws [1,2]:=IsL.nat g2
 have g3:FQ M3 ww [(1,2),(1,2)]:=g3
 have c1:=g1.one
 have c2:=g2.one
 have c3:ww.oneCell'=true:=by obtain ⟨_,h,_,_⟩:=g3;exact h.one
 refine Stop.go ?_
 have hf:=A10 @B1.eq_1 @B2.eq_1 @frC_ment @frC_kill @hasK_nil p1 p2 c1 c2 c3;refine sF ?_;(repeat' ((first|((with_reducible first|refine yN ?_|refine yM ?_);refine kS 13 (sml2_ok 1 4 (by decide) (by decide) (by decide) (by decide) (by decide) (fun x1 x2 M4 m4 f4=>Stop.mk ?_)))|((with_reducible refine isE 11 (by decide) ?_);refine dR ((1,[]) :: (2,[1]) :: (3,[]) :: (8,[1,2]) :: (0,[1,2]) :: (rP 4 4 [] [(9,[]),(10,[])])) (2 :: (rgL 10 8 [])) [] ?_)|((with_reducible refine isE 19 (by decide) ?_);refine dR ((0,[]) :: (8,[0]) :: (rP 1 3 [0] (rP 4 4 [] [(9,[]),(10,[])]))) (4 :: (rgL 18 8 [])) [] ?_)|((with_reducible refine isE 32 (by decide) ?_);refine dR (rP 0 21 [] ((21,[18,20]) :: (rP 22 8 [] ((30,[29]) :: (rP 31 3 [] []))))) (rgL 49 5 [61,62]) [] ?_)|refine oB ?_|fail)<;>refine sF ?_<;>try with_reducible exact tT))<;>try clear hf
 have m4:Mem.le M3 M4:=m4
 have p4:=f4.n.one
 have p5:=f4.d.one
 refine Stop.go ?_
 have hf:=A12 @B1.eq_1 @B2.eq_1 @frC_ment @frC_kill @hasK_nil p1 p2 p4 p5 c1 c2 c3;refine sF ?_;(repeat' ((first|((with_reducible first|refine yN ?_|refine yM ?_);refine kS 13 (sml2_ok 3 4 (by decide) (by decide) (by decide) (by decide) (by decide) (fun y1 y2 M5 m5 f5=>Stop.mk ?_)))|refine oB ?_|fail)<;>refine sF ?_<;>try with_reducible exact tT))<;>try clear hf
 have m5:Mem.le M4 M5:=m5
 have p6:=f5.n.one
 have p7:=f5.d.one
 obtain ⟨L,l1,l2,l3⟩:=g3
 have hlL:L.length=2:=by have:=congrArg List.length l3;simpa using this
 have hLq:L.map prV=([qFR (1,2),qFR (1,2)]:List FR).map prV:=l3
 have hu:updB [-1,-1] [1,2] L (opN (1,4)) (opN (3,4)) 1 true=B2:=(updB_cong hLq).trans known2
 have f45:=f4.le m5
 have m45:=m4.trans m5
 have g15:=g1.le m45
 have g25:=g2.le m45
 have l15:=l1.le m45
 have l25:=l2.le m45
 refine Stop.go ?_
 have hf:=A12 @B1.eq_1 @B2.eq_1 @frC_ment @frC_kill @hasK_nil p1 p2 p4 p5 p6 p7 (A3 c1 c2 c3);refine sF ?_;(repeat' ((first|((with_reducible refine yM ?_);refine kS 21 (update_ok (fl:=opN (1,4)) (dt:=opN (3,4)) 1 true g15 g25 l15 l25 (by decide) (by decide) (by omega) f45 f5 (hu▸(fun ar at_ aw M6 m6 k1 k2 k3=>Stop.mk ?_))))|refine oB ?_|fail)<;>refine sF ?_<;>try with_reducible exact tT))<;>try clear hf
 have m6:Mem.le M5 M6:=m6
 have k1:IsL M6 intV64 ar [-1,-1]:=k1
 have k2:IsL M6 intV64 at_ [1,2]:=IsL.nat k2
 have k3:FQ M6 aw [(3,4),(1,4)]:=k3
 have c4:=k1.one
 have c5:=k2.one
 have c6:aw.oneCell'=true:=by obtain ⟨_,h,_,_⟩:=k3;exact h.one
 obtain ⟨L2,q1,q2,q3⟩:=k3
 have hl2:L2.length=2:=by have:=congrArg List.length q3;simpa using this
 have hLq2:L2.map prV=([qFR (3,4),qFR (1,4)]:List FR).map prV:=q3
 have hc2:chkB [-1,-1] [1,2] L2=true:=(chkB_cong hLq2).trans known3
 have hbi:bestI L2 2=0:=(bestI_cong L2 _ hLq2 2).trans known4
 have hg0:(L2.getD 0 zFR).l1=ofN 3∧(L2.getD 0 zFR).l2=ofN 4:=by
  rcases L2 with _|⟨X,r⟩
  ·cases hl2
  ·rw[List.map_cons,List.map_cons,List.cons.injEq]at hLq2
   exact (Prod.mk.injEq ..▸hLq2.1:X.l1=ofN 3∧X.l2=ofN 4)
 refine Stop.go ?_
 have hf:=A12 @B1.eq_1 @B2.eq_1 @frC_ment @frC_kill @hasK_nil p1 p2 c1 c2 c3 c4 (A2 c5 c6);refine sF ?_;(repeat' ((first|((with_reducible refine yN ?_);refine kS 36 (best_ok k1 k2 q1 q2 (by decide) (by decide) (by omega) hc2 (by decide) (by rw[hl2];rfl) (fun b1 b2 M7 m7 f7=>Stop.mk ?_)))|refine oB ?_|fail)<;>refine sF ?_<;>try with_reducible exact tT))<;>try clear hf
 have m7:Mem.le M6 M7:=m7
 have f7:IsF M7 b1 b2 (ofN 3) (ofN 4):=by
  have e:bestI L2 ([1,2]:List Int).length=0:=hbi
  rw[e,hg0.1,hg0.2]at f7
  exact f7
 have p8:=f7.n.one
 have p9:=f7.d.one
 have hs:([1,2]:List Int).getD (bestI L2 2) 0=1:=by rw[hbi];rfl
 have m37:Mem.le M3 M7:=m45.trans (m6.trans m7)
 have l17:=l1.le m37
 have l27:=l2.le m37
 have n7:=l17.len
 have s7:=l17.sl
 rw[hlL]at n7
 have k0:0<L.length:=by omega
 have nn:=l17.nn k0
 have at0:=l17.at (P:=Tryz.prog) (T:=27) (fun _=>rfl) tk27 tz27 k0
 have fz:=l27 _ (List.getElem_mem k0)
 have ez:L[0].l1=ofN 1∧L[0].l2=ofN 2:=by
  rcases L with _|⟨X,r⟩
  ·cases hlL
  ·rw[List.map_cons,List.map_cons,List.cons.injEq]at hLq
   exact (Prod.mk.injEq ..▸hLq.1:X.l1=ofN 1∧X.l2=ofN 2)
 rw[ez.1,ez.2]at fz
 generalize L[0]=X at *
 obtain ⟨z1,z2,w1,w2⟩:=X
 have at0:lookM Tryz.prog 27 M7 (elemP ww 2 0)=some (.agg #[z1,z2]):=at0
 have fz:IsF M7 z1 z2 (ofN 1) (ofN 2):=fz
 have r1:=fz.n.one
 have r2:=fz.d.one
 have f17:=(f2.le m3).le m37
 have ln1:(ofN 1).length<1000000000:=by have:=ofN1_len;omega
 have ln2:(ofN 2).length<1000000000:=by have:=(sm1000 (n:=2) (by omega)).len;omega
 have ln3:(ofN 3).length<1000000000:=by have:=(sm1000 (n:=3) (by omega)).len;omega
 have ln4:(ofN 4).length<1000000000:=by have:=(sm1000 (n:=4) (by omega)).len;omega
 have mM7:Mem.le M M7:=m1.trans (m2.trans (m3.trans m37))
 refine Stop.go ?_
 have hf:=A12 @B1.eq_1 @B2.eq_1 @frC_ment @frC_kill @hasK_nil hs p1 p2 p8 p9 c1 (A11 c2 c3 c4 c5 c6 n7 s7 nn at0 r1 r2);refine sF ?_;(repeat' ((first|((with_reducible refine yM ?_);refine kS 26 (sameFrac_ok fz.n fz.d f17.n f17.d ln1 ln2 (Stop.mk ?_)))|((with_reducible refine isE 11 (by decide) ?_);refine dR ((1,[]) :: (2,[1]) :: (3,[]) :: (8,[1,2]) :: (0,[1,2]) :: (rP 4 4 [] [(9,[]),(10,[])])) (2 :: (rgL 10 8 [])) [] ?_)|((with_reducible refine isE 19 (by decide) ?_);refine dR ((0,[]) :: (8,[0]) :: (rP 1 3 [0] (rP 4 4 [] [(9,[]),(10,[])]))) (4 :: (rgL 18 8 [])) [] ?_)|((with_reducible refine isE 32 (by decide) ?_);refine dR (rP 0 21 [] ((21,[18,20]) :: (rP 22 8 [] ((30,[29]) :: (rP 31 3 [] []))))) (rgL 49 5 [61,62]) [] ?_)|refine oB ?_|fail)<;>refine sF ?_<;>try with_reducible exact tT))<;>try clear hf
 refine Stop.go ?_
 have hf:=A12 @B1.eq_1 @B2.eq_1 @frC_ment @frC_kill @hasK_nil hs p1 p2 p8 p9 c1 (A11 c2 c3 c4 c5 c6 n7 s7 nn at0 r1 r2);refine sF ?_;(repeat' ((first|((with_reducible first|refine yN ?_|refine yM ?_);refine kS 13 (sml2_ok 3 4 (by decide) (by decide) (by decide) (by decide) (by decide) (fun e1 e2 M8 m8 f8=>Stop.mk ?_)))|refine oB ?_|fail)<;>refine sF ?_<;>try with_reducible exact tT))<;>try clear hf
 have m8:Mem.le M7 M8:=m8
 have r3:=f8.n.one
 have r4:=f8.d.one
 have f78:=f7.le m8
 have hk:=hK M8 (mM7.trans m8)
 refine Stop.go ?_
 have hf:=A7 @frC_ment @frC_kill @hasK_nil p8 p9 r3 r4;refine sF ?_;(repeat' ((first|((with_reducible refine yM ?_);refine kS 26 (sameFrac_ok f78.n f78.d f8.n f8.d ln3 ln4 (Stop.mk ?_)))|refine oB ?_|fail)<;>refine sF ?_<;>try with_reducible exact tT))<;>try clear hf
 refine Stop.go ?_
 have hf:=A7 @frC_ment @frC_kill @hasK_nil p8 p9 r3 r4;refine sF ?_;(repeat' ((first|refine oB ?_|fail)<;>refine sF ?_<;>try with_reducible exact tT))<;>try clear hf
 exact hk
end
section
variable {M:Mem}{K:AV→Hp→Mem→Prop}{ur us uw x1 x2 y1 y2:Value}{l:List Int}{s X:List Nat}{b:Nat}{f g:Nat×Nat}
theorem failX_ok(pool:Int)(h:IsB M ur us uw l s (qX X))(hP:PX s X b)(hc:chkL l=true)(hs:∃m:Int,(m=1∨m=2)∧s=setsL l m)(b1:l.length<1000000)(b2:s.length<1000000)
  (hf:OkN f) (hg:OkN g) (hfg:f.1*g.2<g.1*f.2) (hb:Sm (b*1000000)) (hp:setB l pool=true) (hy:IsF M y1 y2 (ofN f.1) (ofN f.2)) (hx:IsF M x1 x2 (ofN g.1) (ofN g.2))
  (hK:∀w1 w2 M',Mem.le M M'→IsF M' w1 w2 (ofN (red (lsum (mulX (effN l pool.toNat) f g X s)) (lsum X*(f.2*g.2))).1) (ofN (red (lsum (mulX (effN l pool.toNat) f g X s)) (lsum X*(f.2*g.2))).2)→K (.ext (.tuple #[.agg #[w1,w2],.int .i64 0])) [] M') :
  CallS Tryz.prog 27 [.ext (.agg #[ur,us,uw]),.ext (.agg #[y1,y2,x1,x2]),.ext (.int .i64 pool)] [] M [] K:=by
 obtain ⟨L,w1,w2,w3⟩:=h.q
 have lL:L.length=s.length:=by have:=congrArg List.length w3;rw[List.length_map,List.length_map,qX_len,hP.len]at this;exact this
 have hu:=hP.fail (pool:=pool) hc hs hf hg hfg hb hp w3
 refine pfailing_ok (fl:=opN f) (dt:=opN g) pool h.l h.s.nat w1 w2 b1 (by rw[List.length_map];exact b2) (by omega) hy hx ?_
 rw[hu]
 exact hK
end
open Classical in
theorem Fz.cellI{z:St}{B:St→Prop}{j k n q off p0:Nat}{T T0:TypeId}{C:List AV}(cs:List Value)(E:Env)(R:Hp)(hj:lkH z.hp j=some (T0,C))(hC:C[p0]? = some (.slo k off n q))(hk:lkH z.hp k=some (T,cs.map .ext))(hn:off+n*q≤cs.length)(hkb:z.kb≤k)(hjk:j≠k)
  (hE:subE E z.env) (hE2:k∉mentE E) (hR:subHp R z.hp) (hR2:k∉mentH R) (hkeep:keepLt z.kb R z.hp) (hfx:∀k,k<z.kb→(lkH z.hp k).isSome=true→k∈z.fx)
  (h:∀M' U,Mem.le z.M M'→SlM M' q U n ((cs.drop off).take (n*q))→FreshS z.M U→B {env:=E,hp:=(j,T0,C.set p0 (.ext U)) :: R,M:=M',kb:=z.kb,fx:=z.fx,fr:=z.fr}):Fz z B:=fun c n0 a w hcx ⟨ρ,g⟩=>by
 obtain ⟨bj,hbj⟩:∃b,ρ j=some b:=by
  cases hb:ρ j with
  | none=>have:=g.no j _ _ hj hb;subst this;simp at hC
  | some b=>exact ⟨b,rfl⟩
 obtain ⟨⟨arr0,row0⟩,fj2,fj3⟩:=g.hp j _ _ bj hj hbj
 have hU:=row0.is p0 (.slo k off n q) hC
 generalize hUe:arr0.getD p0 undef=U at hU
 let D:Nat→Prop:=fun b=>∃x,ρ k=some x∧x.b=b
 let M':Mem:=fun b=>if D b then w.heap[b]? else z.M b
 have hRz:∀k x,lkH R k=some x→lkH z.hp k=some x:=subHp_lk hR
 have hRF:∀i x,lkH R i=some x→i≠k:=fun i x hx e=>by
  subst e
  exact hR2 (mentH_lk (T:=x.1) (cs:=x.2) hx (.inl rfl))
 have hMD:∀b,D b→z.M b=none:=fun b ⟨x,hx,e⟩=>by
  rw[←e];exact (g.hp k _ _ x hk hx).2.2
 have hle:Mem.le z.M M':=fun b o hb=>by
  by_cases hD:D b
  ·rw[hMD b hD]at hb;cases hb
  ·simp only[M',if_neg hD];exact hb
 have hlk:∀j x,lkH [(k,T,cs.map AV.ext)] j=some x→j=k∧x=(T,cs.map .ext):=fun j x h=>by
  simp only[lkH]at h
  split at h
  ·rename_i e;cases h;exact ⟨e.symm,rfl⟩
  ·cases h
 have hc:closedH [(k,T,cs.map AV.ext)]:=fun j T' ds q hj hq=>by
  obtain ⟨_,e⟩:=hlk j _ hj
  cases e
  rw[mentL_ext]at hq;cases hq
 have hhold:HoldH ρ z.M M' [(k,T,cs.map AV.ext)] w:=fun i T' ds b hi hb=>by
  obtain ⟨rfl,e⟩:=hlk i _ hi
  cases e
  obtain ⟨⟨arr,h1⟩,_,h2⟩:=g.hp _ _ _ b hk hb
  have hD:D b.b:=⟨b,hb,rfl⟩
  exact ⟨⟨arr,by simp only[M',if_pos hD];exact h1.there,h1⟩,h2⟩
 have hB:B {env:=E,hp:=(j,T0,C.set p0 (.ext U)) :: R,M:=M',kb:=z.kb,fx:=z.fx,fr:=z.fr}:=by
  have h2:=borI_is hhold (.slo k off n q) U (fun i hi=>by
   have:i=k:=by simpa [AV.ment] using hi
   subst this
   simp[lkH]) hU
  obtain ⟨h3,h4⟩:=h2
  have h5:=h4 T cs (by simp[lkH]) (by omega)
  exact h M' U hle h5 h3
 have hlk2:∀i x,lkH ((j,T0,C.set p0 (AV.ext U)) :: R) i=some x→(i=j∧x=(T0,C.set p0 (.ext U)))∨(i≠j∧lkH R i=some x):=fun i x hx=>by
  simp only[lkH]at hx
  split at hx
  ·rename_i e;cases hx;exact .inl ⟨e.symm,rfl⟩
  ·rename_i e;exact .inr ⟨fun e2=>e e2.symm,hx⟩
 have hsome:∀i,(lkH ((j,T0,C.set p0 (AV.ext U)) :: R) i).isSome=true→(lkH z.hp i).isSome=true:=fun i hi=>by
  obtain ⟨x,hx⟩:=Option.isSome_iff_exists.1 hi
  rcases hlk2 i x hx with ⟨rfl,_⟩|⟨_,hx⟩
  ·rw[hj];rfl
  ·rw[hRz i x hx];rfl
 have hnk:∀i,(lkH ((j,T0,C.set p0 (AV.ext U)) :: R) i).isSome=true→i≠k:=fun i hi=>by
  obtain ⟨x,hx⟩:=Option.isSome_iff_exists.1 hi
  rcases hlk2 i x hx with ⟨rfl,_⟩|⟨_,hx⟩
  ·exact hjk
  ·exact hRF i x hx
 have hnD:∀i b,(lkH ((j,T0,C.set p0 (AV.ext U)) :: R) i).isSome=true→ρ i=some b→¬D b.b:=fun i b hi hb ⟨x,hx,e⟩=>by
  exact hnk i hi (g.inj k i x b (by rw[hk];rfl) (hsome i hi) hx hb e).symm
 refine ⟨_,⟨ρ,?_⟩,hB⟩
 refine {df:=g.df,sz:=g.sz,env:=fun t=>?_,hp:=fun i T' ds b hi hb=>?_,no:=fun i T' ds hi hb=>?_,inj:=fun i i' b b' hi hi' hb hb' e=>g.inj i i' b b' (hsome i hi) (hsome i' hi') hb hb' e,os:=g.os,tape:=g.tape,output:=g.output,size:=g.size,block:=g.block,sub:=fun b o hb=>?_,le:=g.le.trans hle,mf:=fun b hb=>?_,fix:=fun i hi=>?_,fx:=g.fx,kl:=g.kl,fr:=g.fr}
 ·show (lk E t).is ρ _
  rcases subE_lk hE t with e2|e2
  ·rw[e2];trivial
  ·rw[e2];exact g.env t
 ·have hD:=hnD i b (by rw[hi];rfl) hb
  rcases hlk2 i _ hi with ⟨rfl,e⟩|⟨_,hi⟩
  ·cases e
   rw[hbj]at hb;cases hb
   refine ⟨⟨arr0,row0.there,row0.size,by rw[List.length_set];exact row0.le,fun p v hv=>?_⟩,fj2,?_⟩
   ·by_cases hp:p0=p
    ·subst hp
     rw[List.getElem?_set_self (by exact (List.getElem?_eq_some_iff.1 hC).1)]at hv
     cases hv;exact hUe
    ·rw[List.getElem?_set_ne hp]at hv
     exact row0.is p v hv
   ·show M' bj.b=none
    simp only[M',if_neg hD];exact fj3
  ·obtain ⟨f1,f2,f3⟩:=g.hp i T' ds b (hRz i _ hi) hb
   refine ⟨f1,f2,?_⟩
   show M' b.b=none
   simp only[M',if_neg hD];exact f3
 ·rcases hlk2 i _ hi with ⟨rfl,e⟩|⟨_,hi⟩
  ·rw[hbj]at hb;cases hb
  ·exact g.no i T' ds (hRz i _ hi) hb
 ·have hb:M' b=some o:=hb
  by_cases hD:D b
  ·simp only[M',if_pos hD]at hb;exact hb
  ·simp only[M',if_neg hD]at hb;exact g.sub b o hb
 ·have hb:M' b≠none:=hb
  by_cases hD:D b
  ·obtain ⟨x,hx,e⟩:=hD
   rcases (g.hp k _ _ x hk hx).2.1 with h5|h5
   ·rw[←e];exact .inr h5
   ·exfalso
    obtain ⟨k',y',h6,h7,h8⟩:=hcx.x _ h5
    have h9:=g.fix k' h6
    have h10:=g.kl k' h6
    have h11:=g.fx k' (hfx k' h10 h9)
    rw[h7]at h11
    have:=g.inj k' k y' x h9 (by rw[hk];rfl) h11 hx h8
    omega
  ·simp only[M',if_neg hD]at hb;exact g.mf b hb
 ·have h1:=keepLt_ok hkeep i (g.kl i hi) (g.fix i hi)
  simp only[lkH]
  split
  ·rfl
  ·exact h1
end Go.Proofs.YtbclgnojcnkehaaGreat.Sx
