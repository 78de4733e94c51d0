/- Part 21 of the texts of this claim: a symbolic executor and contracts of functions. -/
import Derived.Test.YtjapnklocibgaaaOCiRCNatA
set_option linter.unusedVariables false
namespace Go.Proofs.Ytjapnklocibgaaa.Sx
theorem valN_set:∀{l:List Nat} {i v:Nat} (h:i<l.length),valN (l.set i v)+wN i*l[i]=valN l+wN i*v
 | [],i,v,h=>by simp at h
 | x :: r,0,v,h=>by simp only[List.set_cons_zero,valN,wN_zero,List.getElem_cons_zero];omega
 | x :: r,i+1,v,h=>by
  have ih:=valN_set (l:=r) (i:=i) (v:=v) (by simpa using h)
  simp only[List.set_cons_succ,valN,wN_succ,List.getElem_cons_succ]
  generalize r[i]'(by simpa using h)=y at *
  rw[Nat.mul_assoc,Nat.mul_assoc]
  omega
theorem okN_set{l:List Nat}(h:okN l){i v:Nat}(hv:v<4294967296):okN (l.set i v):=fun x hx=>by
 rcases List.mem_or_eq_of_mem_set hx with h1|h1
 ·exact h x h1
 ·omega
theorem okN_rep(n:Nat):okN (List.replicate n 0):=fun x hx=>by rw[List.eq_of_mem_replicate hx];decide
theorem valN_rep(n:Nat):valN (List.replicate n 0)=0:=valN_zero fun x hx=>List.eq_of_mem_replicate hx
theorem valN_drop{l:List Nat}{i:Nat}(h:i<l.length):valN (l.drop i)=l[i]+4294967296*valN (l.drop (i+1)):=by
 rw[List.drop_eq_getElem_cons h,valN]
theorem valN_cut(l:List Nat){i:Nat}(h:i≤l.length):valN l=valN (l.take i)+wN i*valN (l.drop i):=by
 have:=valN_split l i
 rwa[Nat.min_eq_left h]at this
theorem okN_one{n:Nat}(h:n<4294967296):okN [n]:=okN_cons.2 ⟨h,by simp[okN]⟩
theorem add_step{out:List Nat}{c A B x y:Nat}(h:valN out+wN out.length*c=A+B):valN (out++[(x+c+y) % 4294967296])+wN (out.length+1)*((x+c+y) / 4294967296)=(A+wN out.length*x)+(B+wN out.length*y):=by
 rw[valN_snoc,wN_succ]
 have e:=Nat.div_add_mod (x+c+y) 4294967296
 generalize (x+c+y) / 4294967296=d at *
 generalize (x+c+y) % 4294967296=r at *
 generalize wN out.length=p at *
 have e2:p*(4294967296*d+r)=p*(x+c+y):=by rw[e]
 grind
theorem take_val{l:List Nat}{i:Nat}:valN (l.take (i+1))=valN (l.take i)+wN i*l.getD i 0:=by
 by_cases h:i<l.length
 ·rw[valN_take_succ h];simp[List.getD,h]
 ·rw[List.take_of_length_le (by omega),List.take_of_length_le (by omega)]
  simp[List.getD,List.getElem?_eq_none (show l.length≤i by omega)]
theorem take_all{l:List Nat}{i:Nat}(h:l.length≤i):valN (l.take i)=valN l:=by rw[List.take_of_length_le h]
theorem sub_step{out:List Nat}{b b' A B x y r:Nat}(h:valN out+B=A+wN out.length*b)(hr:r+y+b=x+4294967296*b'):valN (out++[r])+(B+wN out.length*y)=(A+wN out.length*x)+wN (out.length+1)*b':=by
 rw[valN_snoc,wN_succ]
 generalize wN out.length=p at *
 have e2:p*(r+y+b)=p*(x+4294967296*b'):=by rw[hr]
 grind
theorem sub_end{out:List Nat}{b A B:Nat}(ho:okN out)(h:valN out+B=A+wN out.length*b)(hle:B≤A):valN out=A-B:=by
 have h1:=valN_lt ho
 have:b=0:=by
  rcases Nat.eq_zero_or_pos b with h0|h0
  ·exact h0
  ·have:=Nat.le_mul_of_pos_right (wN out.length) h0
   omega
 subst this
 omega
theorem mul_step{o:List Nat}{i k c V x y Bk:Nat}(hk:i+k<o.length)(h:valN o+wN (i+k)*c=V+wN i*(x*Bk)) :
  valN (o.set (i+k) ((x*y+o[i+k]+c) % 4294967296))+wN (i+(k+1))*((x*y+o[i+k]+c) / 4294967296)=V+wN i*(x*(Bk+wN k*y)):=by
 have h1:=valN_set (v:=(x*y+o[i+k]+c) % 4294967296) hk
 have e:=Nat.div_add_mod (x*y+o[i+k]+c) 4294967296
 rw[show i+(k+1)=(i+k)+1 by omega,wN_succ]
 generalize (x*y+o[i+k]+c) / 4294967296=d at *
 generalize (x*y+o[i+k]+c) % 4294967296=r at *
 generalize valN (o.set (i+k) r)=V2 at *
 generalize o[i+k]=z at *
 have e2:wN (i+k)*(4294967296*d+r)=wN (i+k)*(x*y+z+c):=by rw[e]
 have e3:wN (i+k)=wN i*wN k:=wN_add i k
 have e4:wN i*(x*(Bk+wN k*y))=wN i*(x*Bk)+wN (i+k)*(x*y):=by rw[e3];grind
 rw[e4]
 generalize wN (i+k)=p at *
 grind
theorem mul_lt{x y z c:Nat}(hx:x<4294967296)(hy:y<4294967296)(hz:z<4294967296)(hc:c<4294967296):x*y+z+c<18446744073709551616:=by
 have:=Nat.mul_le_mul (show x≤4294967295 by omega) (show y≤4294967295 by omega)
 omega
theorem mul_le{x y:Nat}(hx:x<4294967296)(hy:y<4294967296):x*y≤18446744065119617025:=Nat.mul_le_mul (show x≤4294967295 by omega) (show y≤4294967295 by omega)
theorem small_step{d rest x:Nat}(hd:0<d){A Q:Nat}(h:A=d*Q+rest):x+4294967296*A=d*((rest*4294967296+x) / d+4294967296*Q)+(rest*4294967296+x) % d:=by
 have e:=Nat.div_add_mod (rest*4294967296+x) d
 generalize (rest*4294967296+x) / d=q at *
 generalize (rest*4294967296+x) % d=r at *
 subst h
 rw[Nat.mul_add,Nat.mul_add,←Nat.mul_assoc,←Nat.mul_assoc,Nat.mul_comm d 4294967296]
 rw[Nat.mul_comm d q]at *
 omega
theorem small_lt{d rest x:Nat}(hr:rest<d)(hx:x<4294967296):(rest*4294967296+x) / d<4294967296:=by
 have hd:0<d:=by omega
 rw[Nat.div_lt_iff_lt_mul hd]
 have:=Nat.mul_le_mul_right 4294967296 (show rest+1≤d by omega)
 rw[Nat.mul_comm 4294967296 d]
 omega
theorem shl_step{out:List Nat}{c A x p2:Nat}(h:valN out+wN out.length*c=A*p2):valN (out++[(x*p2+c) % 4294967296])+wN (out.length+1)*((x*p2+c) / 4294967296)=(A+wN out.length*x)*p2:=by
 rw[valN_snoc,wN_succ]
 have e:=Nat.div_add_mod (x*p2+c) 4294967296
 generalize (x*p2+c) / 4294967296=d at *
 generalize (x*p2+c) % 4294967296=r at *
 generalize wN out.length=p at *
 have e2:p*(4294967296*d+r)=p*(x*p2+c):=by rw[e]
 grind
theorem shl_carry{x c n:Nat}(hx:x<4294967296)(hc:c<2^n):(x*2^n+c) / 4294967296<2^n:=by
 rw[Nat.div_lt_iff_lt_mul (by decide)]
 have:=Nat.mul_le_mul_right (2^n) (show x+1≤4294967296 by omega)
 rw[Nat.add_mul,Nat.one_mul]at this
 rw[Nat.mul_comm (2^n)]
 omega
theorem pow32{n:Nat}(h:n<32):2^n*2^(32-n)=4294967296:=by
 rw[←Nat.pow_add,show n+(32-n)=32 by omega]
theorem shr_digit{x y R n:Nat}(h:n<32):((x+4294967296*(y+4294967296*R)) / 2^n) % 4294967296=((x+4294967296*y) / 2^n) % 4294967296:=by
 have h1:=pow32 h
 have h2:x+4294967296*(y+4294967296*R)=(x+4294967296*y)+2^n*(2^(32-n)*(4294967296*R)):=by
  rw[←Nat.mul_assoc (2^n),h1];omega
 rw[h2,Nat.add_mul_div_left _ _ (Nat.two_pow_pos n),Nat.mul_comm (2^(32-n)),Nat.mul_assoc]
 omega
theorem wN_div(A i:Nat){n:Nat}:A / 2^n % wN (i+1)=A / 2^n % wN i+wN i*(A / wN i / 2^n % 4294967296):=by
 rw[Nat.div_div_eq_div_mul,Nat.mul_comm (wN i) (2^n),←Nat.div_div_eq_div_mul,wN_succ,Nat.mul_comm 4294967296,Nat.mod_mul]
theorem valN_drop_div{l:List Nat}(h:okN l){i:Nat}(hi:i≤l.length):valN (l.drop i)=valN l / wN i:=by
 have h1:=valN_cut l hi
 have h2:=valN_lt (okN_take h i)
 rw[List.length_take,Nat.min_eq_left hi]at h2
 rw[h1,Nat.add_mul_div_left _ _ (wN_pos i),Nat.div_eq_of_lt h2,Nat.zero_add]
section
variable {v1 v2 vr p V C top u2 ur q r:Nat}
theorem guess_init(hV:V=(v1*4294967296+v2)*p+vr)(hC:C=(top*4294967296+u2)*p+ur)(hur:ur<p)(hu2:u2<4294967296)(h1:0<v1):C / V≤top / v1:=by
 rw[Nat.le_div_iff_mul_le h1]
 have hd:C / V*V≤C:=Nat.div_mul_le_self C V
 generalize C / V=d at *
 by_cases hlt:d*v1≤top
 ·exact hlt
 ·exfalso
  have a1:(top+1)*(4294967296*p)≤d*v1*(4294967296*p):=Nat.mul_le_mul_right _ (by omega)
  have a2:d*V=d*v1*(4294967296*p)+d*v2*p+d*vr:=by rw[hV];grind
  have a3:(top*4294967296+u2)*p+ur<(top+1)*(4294967296*p):=by
   have:(u2+1)*p≤4294967296*p:=Nat.mul_le_mul_right p (by omega)
   grind
  omega
theorem guess_dec(hV:V=(v1*4294967296+v2)*p+vr)(hC:C=(top*4294967296+u2)*p+ur)(hur:ur<p)(hCV:C<4294967296*V)(hq:q*v1+r=top)(hd:C / V≤q)(h:4294967296≤q∨r*4294967296+u2<q*v2):C / V+1≤q∧(q-1)*v1+(r+v1)=top:=by
 have hpos:0<V:=by rcases Nat.eq_zero_or_pos V with e|e;(rw[e]at hCV;omega);exact e
 have hlt:C / V<4294967296:=by rw[Nat.div_lt_iff_lt_mul hpos];exact hCV
 have hle:C / V*V≤C:=Nat.div_mul_le_self C V
 generalize C / V=d at *
 have hd1:d+1≤q:=by
  rcases h with h|h
  ·omega
  ·rcases Nat.lt_or_ge d q with h2|h2
   ·exact h2
   ·exfalso
    obtain rfl:d=q:=by omega
    have a1:d*V=(d*v1*4294967296+d*v2)*p+d*vr:=by rw[hV];grind
    have a2:(top*4294967296+u2+1)*p≤(d*v1*4294967296+d*v2)*p:=Nat.mul_le_mul_right p (by omega)
    grind
 refine ⟨hd1,?_⟩
 have:q*v1=(q-1)*v1+v1:=by
  conv=>lhs;rw[show q=(q-1)+1 by omega]
  rw[Nat.add_mul,Nat.one_mul]
 omega
theorem guess_exit(hV:V=(v1*4294967296+v2)*p+vr)(hC:C=(top*4294967296+u2)*p+ur)(hvr:vr<p)(h1:2147483648≤v1)(hq:q*v1+r=top)(hqW:q<4294967296)(h:q*v2≤r*4294967296+u2):q≤C / V+1:=by
 have hpp:0<p:=by omega
 have hpos:0<V:=by
  have:0<(v1*4294967296+v2)*p:=Nat.mul_pos (by omega) hpp
  omega
 have hlt:C<(C / V+1)*V:=by
  have:=Nat.lt_div_mul_add (a:=C) hpos
  rw[Nat.add_mul,Nat.one_mul];exact this
 generalize C / V=d at *
 by_cases hle:q≤d+1
 ·exact hle
 ·exfalso
  have a1:(d+1)*V≤(q-1)*V:=Nat.mul_le_mul_right V (by omega)
  have a2:(q-1)*V≤(q-1)*((v1*4294967296+v2+1)*p):=Nat.mul_le_mul_left (q-1) (by rw[hV,Nat.add_mul _ 1,Nat.one_mul];omega)
  have a3:q*(v1*4294967296+v2)*p≤C:=by
   rw[hC]
   have:q*(v1*4294967296+v2)≤top*4294967296+u2:=by grind
   exact Nat.le_trans (Nat.mul_le_mul_right p this) (Nat.le_add_right _ _)
  have a4:(q-1)*(v1*4294967296+v2+1)≤q*(v1*4294967296+v2):=by
   obtain ⟨t,rfl⟩:∃t,q=t+1:=⟨q-1,by omega⟩
   rw[Nat.add_sub_cancel,Nat.add_mul,Nat.mul_add,Nat.mul_one,Nat.one_mul]
   have:t≤v1*4294967296+v2:=by omega
   omega
  have a5:=Nat.mul_le_mul_right p a4
  rw[Nat.mul_assoc]at a5
  omega
theorem guess_brk(hq:q*v1+r=top)(ht:top≤v1*4294967296+4294967295)(hv2:v2<4294967296)(h1:0<v1)(h:4294967296≤r):q<4294967296∧q*v2≤r*4294967296+u2:=by
 have hlt:q<4294967296:=by
  rcases Nat.lt_or_ge q 4294967296 with h2|h2
  ·exact h2
  ·have:=Nat.mul_le_mul_right v1 h2
   rw[Nat.mul_comm 4294967296]at this
   omega
 refine ⟨hlt,?_⟩
 have a1:=mul_le hlt hv2
 have a2:4294967296*4294967296≤r*4294967296:=Nat.mul_le_mul_right _ h
 omega
end
theorem red_step{c:List Nat}{q i ca b b' r S:Nat}{C:Nat}(hi:i<c.length)(h:valN c+q*S=C+wN i*(ca+b))(y:Nat)(hr:r+(q*y+ca) % 4294967296+b=c[i]+4294967296*b') :
  valN (c.set i r)+q*(S+wN i*y)=C+wN (i+1)*((q*y+ca) / 4294967296+b'):=by
 have h1:=valN_set (v:=r) hi
 have e:=Nat.div_add_mod (q*y+ca) 4294967296
 rw[wN_succ]
 generalize (q*y+ca) / 4294967296=d at *
 generalize (q*y+ca) % 4294967296=m at *
 generalize valN (c.set i r)=V2 at *
 generalize c[i]=z at *
 generalize wN i=p at *
 have e2:p*(4294967296*d+m)=p*(q*y+ca):=by rw[e]
 have e3:p*(r+m+b)=p*(z+4294967296*b'):=by rw[hr]
 grind
theorem red_last{c:List Nat}{q i ca b b' r S:Nat}{C:Nat}(hi:i<c.length)(h:valN c+q*S=C+wN i*(ca+b))(hr:r+ca+b=c[i]+4294967296*b') :
  valN (c.set i r)+q*S=C+wN (i+1)*b':=by
 have h1:=valN_set (v:=r) hi
 rw[wN_succ]
 generalize valN (c.set i r)=V2 at *
 generalize c[i]=z at *
 generalize wN i=p at *
 have e3:p*(r+ca+b)=p*(z+4294967296*b'):=by rw[hr]
 grind
theorem back_step{c:List Nat}{i ca S:Nat}{C:Nat}(hi:i<c.length)(h:valN c+wN i*ca=C+S)(y:Nat) :
  valN (c.set i ((c[i]+y+ca) % 4294967296))+wN (i+1)*((c[i]+y+ca) / 4294967296)=C+(S+wN i*y):=by
 have h1:=valN_set (v:=(c[i]+y+ca) % 4294967296) hi
 have e:=Nat.div_add_mod (c[i]+y+ca) 4294967296
 rw[wN_succ]
 generalize (c[i]+y+ca) / 4294967296=d at *
 generalize (c[i]+y+ca) % 4294967296=m at *
 generalize valN (c.set i m)=V2 at *
 generalize c[i]=z at *
 generalize wN i=p at *
 have e2:p*(4294967296*d+m)=p*(z+y+ca):=by rw[e]
 grind
theorem red_ok{c V q C L:Nat}(hc:c<L)(hCL:C<L)(hV:0<V)(h:c+q*V=C+L*0)(h2:C / V≤q):q=C / V∧c+C / V*V=C∧c<V:=by
 have:q≤C / V:=by rw[Nat.le_div_iff_mul_le hV];omega
 have e:q=C / V:=by omega
 refine ⟨e,by rw[←e];omega,?_⟩
 have:=Nat.lt_div_mul_add (a:=C) hV
 rw[←e]at this
 omega
theorem red_back{c c2 V q C L e:Nat}(hV:0<V)(hVL:V≤L)(hc:c<L)(hc2:c2<L)(h:c+q*V=C+L*1)(h2:q≤C / V+1)(h3:c2+L*e=c+V):q-1=C / V∧c2+C / V*V=C∧c2<V:=by
 have hd:=Nat.div_mul_le_self C V
 have hd2:=Nat.lt_div_mul_add (a:=C) hV
 have hq:q=C / V+1:=by
  rcases Nat.lt_or_ge (C / V) q with h4|h4
  ·omega
  ·exfalso
   have:=Nat.mul_le_mul_right V h4
   omega
 rw[hq,Nat.add_mul,Nat.one_mul]at h
 have he:e=1:=by
  rcases Nat.lt_or_ge e 1 with h4|h4
  ·have:e=0:=by omega
   subst this;omega
  ·rcases Nat.lt_or_ge 1 e with h5|h5
   ·exfalso
    have:=Nat.mul_le_mul_left L (show 2≤e by omega)
    omega
   ·omega
 subst he
 rw[Nat.mul_one]at h h3
 exact ⟨by rw[hq,Nat.add_sub_cancel],by omega,by omega⟩
end Go.Proofs.Ytjapnklocibgaaa.Sx
