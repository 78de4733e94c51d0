/- Part 20 of the texts of this claim: a symbolic executor and contracts of functions. -/
import Derived.Test.YtjapnklocibgaaaOCiRCUse
set_option linter.unusedVariables false
namespace Go.Proofs.Ytjapnklocibgaaa.Sx
def valN:List Nat→Nat
 | []=>0
 | x :: r=>x+4294967296*valN r
def okN(l:List Nat):Prop:=∀x∈l,x<4294967296
def ofN(n:Nat):List Nat:=if h:n=0 then [] else n % 4294967296 :: ofN (n / 4294967296)
termination_by n
decreasing_by exact Nat.div_lt_self (by omega) (by decide)
theorem ofN_zero:ofN 0=[]:=by rw[ofN];simp
theorem ofN_pos{n:Nat}(h:n≠0):ofN n=n % 4294967296 :: ofN (n / 4294967296):=by rw[ofN];simp[h]
theorem okN_cons{x:Nat}{l:List Nat}:okN (x :: l)↔x<4294967296∧okN l:=by simp[okN]
theorem okN_app{a b:List Nat}:okN (a++b)↔okN a∧okN b:=by
 simp only[okN,List.mem_append]
 exact ⟨fun h=>⟨fun x hx=>h x (.inl hx),fun x hx=>h x (.inr hx)⟩,fun h x hx=>hx.elim (h.1 x) (h.2 x)⟩
theorem okN_take{l:List Nat}(h:okN l)(i:Nat):okN (l.take i):=fun x hx=>h x (List.mem_of_mem_take hx)
theorem okN_drop{l:List Nat}(h:okN l)(i:Nat):okN (l.drop i):=fun x hx=>h x (List.mem_of_mem_drop hx)
theorem okN_at{l:List Nat}(h:okN l){i:Nat}(hi:i<l.length):l[i]<4294967296:=h _ (List.getElem_mem hi)
def wN(i:Nat):Nat:=4294967296^i
theorem wN_succ(i:Nat):wN (i+1)=4294967296*wN i:=by unfold wN;rw[Nat.pow_succ,Nat.mul_comm]
theorem wN_zero:wN 0=1:=rfl
theorem wN_pos(i:Nat):0<wN i:=Nat.pos_pow_of_pos (by decide)
 where Nat.pos_pow_of_pos {b n:Nat} (h:0<b):0<b^n:=Nat.pow_pos h
theorem wN_add(i j:Nat):wN (i+j)=wN i*wN j:=Nat.pow_add _ _ _
theorem wN_mono{i j:Nat}(h:i≤j):wN i≤wN j:=Nat.pow_le_pow_right (by decide) h
theorem valN_app(a b:List Nat):valN (a++b)=valN a+wN a.length*valN b:=by
 induction a with
 | nil=>simp[valN,wN]
 | cons x r ih=>
  rw[List.cons_append,valN,valN,ih,List.length_cons,wN_succ,Nat.mul_add,Nat.mul_assoc]
  omega
theorem valN_lt{l:List Nat}(h:okN l):valN l<wN l.length:=by
 induction l with
 | nil=>simp[valN,wN]
 | cons x r ih=>
  obtain ⟨h1,h2⟩:=okN_cons.1 h
  have:=ih h2
  rw[valN,List.length_cons,wN_succ]
  omega
theorem valN_snoc(l:List Nat)(x:Nat):valN (l++[x])=valN l+wN l.length*x:=by rw[valN_app];simp[valN]
theorem valN_take_succ{l:List Nat}{i:Nat}(h:i<l.length):valN (l.take (i+1))=valN (l.take i)+wN i*l[i]:=by
 rw[List.take_succ_eq_append_getElem h,valN_snoc,List.length_take,Nat.min_eq_left (by omega)]
theorem valN_split(l:List Nat)(i:Nat):valN l=valN (l.take i)+wN (min i l.length)*valN (l.drop i):=by
 conv=>lhs;rw[←List.take_append_drop i l]
 rw[valN_app,List.length_take]
theorem valN_zero{l:List Nat}(h:∀x∈l,x=0):valN l=0:=by
 induction l with
 | nil=>rfl
 | cons x r ih=>
  rw[valN,ih (fun y hy=>h y (List.mem_cons_of_mem _ hy)),h x List.mem_cons_self]
theorem valN_ofN:∀n,valN (ofN n)=n:=fun n=>by
 induction n using Nat.strongRecOn with
 | _ n ih=>
  by_cases h:n=0
  ·subst h;rw[ofN_zero];rfl
  ·rw[ofN_pos h,valN,ih _ (Nat.div_lt_self (by omega) (by decide))];omega
theorem okN_ofN:∀n,okN (ofN n):=fun n=>by
 induction n using Nat.strongRecOn with
 | _ n ih=>
  by_cases h:n=0
  ·subst h;rw[ofN_zero];simp[okN]
  ·rw[ofN_pos h,okN_cons];exact ⟨Nat.mod_lt _ (by decide),ih _ (Nat.div_lt_self (by omega) (by decide))⟩
theorem ofN_nil{n:Nat}:ofN n=[]↔n=0:=by
 constructor
 ·intro h;have:=valN_ofN n;rw[h]at this;exact this.symm
 ·intro h;subst h;exact ofN_zero
def trimmed(l:List Nat):Prop:=∀h:0<l.length,l[l.length-1]≠0
theorem trimmed_cons{x:Nat}{r:List Nat}(h:trimmed (x :: r)):trimmed r:=fun hr=>by
 have:=h (by simp)
 have e:(x :: r)[(x :: r).length-1]'(by simp)=r[r.length-1]:=by
  rw[List.getElem_cons]
  rw[dif_neg (by simp;intro h;rw[h]at hr;simp at hr)]
  congr 1
 rw[←e];exact this
theorem canon:∀{l:List Nat},okN l→trimmed l→l=ofN (valN l)
 | [],_,_=>by rw[valN,ofN_zero]
 | x :: r,ho,ht=>by
  obtain ⟨h1,h2⟩:=okN_cons.1 ho
  have ih:=canon h2 (trimmed_cons ht)
  have hne:valN (x :: r)≠0:=by
   rw[valN]
   intro h
   have hx:x=0:=by omega
   have hr:valN r=0:=by omega
   rw[hr,ofN_zero]at ih
   subst ih
   exact ht (by simp) (by simp[hx])
  rw[ofN_pos hne,valN]
  have e1:(x+4294967296*valN r) % 4294967296=x:=by omega
  have e2:(x+4294967296*valN r) / 4294967296=valN r:=by omega
  rw[e1,e2,←ih]
theorem trimmed_ofN(n:Nat):trimmed (ofN n):=by
 induction n using Nat.strongRecOn with
 | _ n ih=>
  by_cases h:n=0
  ·subst h;rw[ofN_zero];intro h;simp at h
  ·intro hl
   have hd:=ih _ (Nat.div_lt_self (show 0<n by omega) (show 1<4294967296 by decide))
   have key:∀(q:List Nat),q=ofN n→∀hq:0<q.length,q[q.length-1]≠0:=by
    intro q hq
    rw[ofN_pos h]at hq
    subst hq
    intro hq
    rw[List.getElem_cons]
    split
    ·rename_i h0
     have:(ofN (n / 4294967296)).length=0:=by simp at h0;rw[h0];rfl
     have:=ofN_nil.1 (List.length_eq_zero_iff.1 this)
     omega
    ·rename_i h0
     have hpos:0<(ofN (n / 4294967296)).length:=by simp at h0;exact List.length_pos_iff.2 h0
     have:=hd hpos
     simpa using this
   exact key _ rfl hl
theorem take_canon{l:List Nat}{m:Nat}(ho:okN l)(hm:m≤l.length)(hz:∀j (h:j<l.length),m≤j→l[j]=0)(ht:∀h:0<m,l[m-1]≠0):l.take m=ofN (valN l):=by
 have h1:valN l=valN (l.take m):=by
  rw[valN_split l m,valN_zero (l:=l.drop m) fun x hx=>by
   obtain ⟨j,hj,rfl⟩:=List.mem_iff_getElem.1 hx
   rw[List.getElem_drop]
   exact hz _ _ (by omega)]
  simp
 rw[h1]
 refine canon (okN_take ho m) fun h=>?_
 rw[List.length_take,Nat.min_eq_left hm]at h
 have:(l.take m)[(l.take m).length-1]'(by omega)=l[m-1]'(by omega):=by
  rw[List.getElem_take]
  congr 1
  rw[List.length_take,Nat.min_eq_left hm]
 rw[this];exact ht h
theorem ofN_len_le{n k:Nat}(h:n<wN k):(ofN n).length≤k:=by
 have h1:=valN_ofN n
 by_cases hl:(ofN n).length≤k
 ·exact hl
 ·exfalso
  have ht:=trimmed_ofN n
  generalize ofN n=l at h1 hl ht
  have ht:=ht (by omega)
  have h2:valN l=valN (l.take (l.length-1))+wN (l.length-1)*l[l.length-1]'(by omega):=by
   conv=>lhs;rw[show l=l.take (l.length-1+1) by rw[List.take_of_length_le (by omega)]]
   exact valN_take_succ (by omega)
  have h3:=wN_mono (show k≤l.length-1 by omega)
  have h4:wN (l.length-1)≤wN (l.length-1)*l[l.length-1]'(by omega):=Nat.le_mul_of_pos_right _ (by omega)
  omega
theorem ofN_len_lt{n k:Nat}(h:(ofN n).length≤k):n<wN k:=by
 have h1:=valN_lt (okN_ofN n)
 rw[valN_ofN]at h1
 exact Nat.lt_of_lt_of_le h1 (wN_mono h)
end Go.Proofs.Ytjapnklocibgaaa.Sx
