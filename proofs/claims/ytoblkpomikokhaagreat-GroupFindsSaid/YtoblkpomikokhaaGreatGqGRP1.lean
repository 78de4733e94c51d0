/- Part 26 of the texts of this claim: a symbolic executor and contracts of functions. -/
import Derived.Test.YtoblkpomikokhaaGreatGqGRCUse
import Derived.Test.YtoblkpomikokhaaGreatGqGRCPar
import Derived.Test.YtoblkpomikokhaaGreatGqGRCBld
import Derived.Test.YtoblkpomikokhaaGreatGqGRCMap
import Derived.Shelf.Strings.Builder1
import Derived.Shelf.Small.Utf8
import Derived.Shelf.Small.Strs
import Derived.Shelf.Strings.BuilderF
import Derived.Shelf.Strings.BuilderK
import Derived.Shelf.Strings.Search1
import Derived.Shelf.Strings.Search2
import Derived.Shelf.Strings.Search3
import Derived.Shelf.LaysM
import Derived.Shelf.Strings.Shaped
import Derived.Shelf.Strings.LastIndex
import Derived.Shelf.Strings.LastIndexAll
import Derived.Shelf.Strings.Runes
import Derived.Shelf.Strings.IndexAny
import Derived.Shelf.Strings.AsciiSet
import Derived.Shelf.Strings.IndexAnyAll
import Derived.Shelf.Strings.BuilderCap
import Derived.Shelf.Slices.Equal
import Derived.Ground.Names2Prog
import Derived.Shelf.Slices.Clone
import Derived.Shelf.Slices.Empties2
import Derived.Ground.SlgnProg
import Derived.Shelf.SlicesE.Clone
import Derived.Ground.PaProg
import Derived.Shelf.Path.Small
import Derived.Test.YtoblkpomikokhaaGreatProg
import Derived.Test.YtoblkpomikokhaaGreatGqGRCStr
import Derived.Laws.RangeAny
import Derived.Test.YtoblkpomikokhaaGreatGqGRCLst
import Derived.Test.YtoblkpomikokhaaGreatGqGRCSub
namespace Go.Proofs.YtoblkpomikokhaaGreat.Sx
set_option linter.unusedVariables false
inductive Conn (R:Nat→Nat→Prop) (n:Nat):Nat→Nat→Prop
 | refl {i:Nat}:i<n→Conn R n i i
 | snoc {i j k:Nat}:Conn R n i j→R j k→k<n→Conn R n i k
section
variable {R:Nat→Nat→Prop}{n:Nat}
theorem Conn.lt{i k:Nat}(h:Conn R n i k):i<n∧k<n:=by
 induction h with
 | refl h=>exact ⟨h,h⟩
 | snoc _ _ h ih=>exact ⟨ih.1,h⟩
theorem Conn.trans{i j k:Nat}(h1:Conn R n i j)(h2:Conn R n j k):Conn R n i k:=by
 induction h2 with
 | refl _=>exact h1
 | snoc _ h3 h4 ih=>exact .snoc ih h3 h4
theorem Conn.one{i k:Nat}(h1:i<n)(h2:k<n)(h:R i k):Conn R n i k:=.snoc (.refl h1) h h2
theorem Conn.symm(hs:∀i k,R i k→R k i){i k:Nat}(h:Conn R n i k):Conn R n k i:=by
 induction h with
 | refl h=>exact .refl h
 | snoc h1 h2 h3 ih=>exact (Conn.one h3 h1.lt.2 (hs _ _ h2)).trans ih
structure Lab (n:Nat) (R:Nat→Nat→Prop) (f:Nat→Nat):Prop where
 le:∀i,i<n→f i≤i
 id:∀i,i<n→f (f i)=f i
 of:∀i k,i<n→k<n→R i k→f i=f k
 to:∀i k,i<n→k<n→f i=f k→Conn R n i k
theorem conn_eq{f:Nat→Nat}(h:∀i k,i<n→k<n→R i k→f i=f k){i k:Nat}(hc:Conn R n i k):f i=f k:=by
 induction hc with
 | refl _=>rfl
 | snoc h1 h2 h3 ih=>exact ih.trans (h _ _ h1.lt.2 h3 h2)
theorem Lab.le_of{f g:Nat→Nat}(hf:Lab n R f)(hg:Lab n R g){i:Nat}(hi:i<n):g i≤f i:=by
 have h1:f i<n:=Nat.lt_of_le_of_lt (hf.le i hi) hi
 have h2:=conn_eq hg.of (hf.to (f i) i h1 hi (hf.id i hi))
 rw[←h2]
 exact hg.le _ h1
theorem Lab.uniq{f g:Nat→Nat}(hf:Lab n R f)(hg:Lab n R g){i:Nat}(hi:i<n):f i=g i:=Nat.le_antisymm (hg.le_of hf hi) (hf.le_of hg hi)
theorem lab_fix{f:Nat→Nat}(hs:∀i k,R i k→R k i)(h1:∀i,i<n→f i≤i)(h2:∀i,i<n→Conn R n i (f i))(h3:∀i k,i<n→k<n→R i k→f i≤f k):Lab n R f:=by
 have hof:∀i k,i<n→k<n→R i k→f i=f k:=fun i k hi hk h=>Nat.le_antisymm (h3 i k hi hk h) (h3 k i hk hi (hs i k h))
 exact ⟨h1,fun i hi=>(conn_eq hof (h2 i hi)).symm,hof,fun i k hi hk e=>(h2 i hi).trans (e▸(h2 k hk).symm hs)⟩
end
def rt(c:List Nat)(i:Nat):Nat:=if h:c.getD i 0<i then rt c (c.getD i 0) else i
termination_by i
section
variable {c:List Nat}{i j a b:Nat}
theorem rt_lt(h:c.getD i 0<i):rt c i=rt c (c.getD i 0):=by rw[rt,dif_pos h]
theorem rt_nl(h:¬c.getD i 0<i):rt c i=i:=by rw[rt,dif_neg h]
theorem rt_le:∀i,rt c i≤i:=fun i=>by
 induction i using Nat.strongRecOn with
 | _ i ih=>
  by_cases h:c.getD i 0<i
  ·rw[rt_lt h];exact Nat.le_trans (ih _ h) (Nat.le_of_lt h)
  ·rw[rt_nl h];exact Nat.le_refl _
theorem rt_root(hc:∀j,c.getD j 0≤j):∀i,c.getD (rt c i) 0=rt c i:=fun i=>by
 induction i using Nat.strongRecOn with
 | _ i ih=>
  by_cases h:c.getD i 0<i
  ·rw[rt_lt h];exact ih _ h
  ·rw[rt_nl h];exact Nat.le_antisymm (hc i) (by omega)
theorem rt_of_root(h:c.getD i 0=i):rt c i=i:=rt_nl (by omega)
theorem rt_idem(hc:∀j,c.getD j 0≤j)(i:Nat):rt c (rt c i)=rt c i:=rt_of_root (rt_root hc i)
theorem getD_setN(c:List Nat)(i x j:Nat)(h:i<c.length):(c.set i x).getD j 0=if i=j then x else c.getD j 0:=by
 rw[List.getD_eq_getElem?_getD,List.getElem?_set,List.getD_eq_getElem?_getD]
 by_cases e:i=j
 ·rw[if_pos e,if_pos h,if_pos e];rfl
 ·rw[if_neg e,if_neg e]
theorem rt_above{x:Nat}(h:i<c.length):∀j,j<i→rt (c.set i x) j=rt c j:=fun j=>by
 induction j using Nat.strongRecOn with
 | _ j ih=>
  intro hj
  have e:(c.set i x).getD j 0=c.getD j 0:=by rw[getD_setN c i x j h,if_neg (by omega)]
  by_cases h2:c.getD j 0<j
  ·rw[rt_lt h2,rt_lt (by rw[e];exact h2),e];exact ih _ h2 (by omega)
  ·rw[rt_nl h2,rt_nl (by rw[e];exact h2)]
theorem rt_join(ha:c.getD a 0=a)(hb:c.getD b 0=b)(hab:a<b)(hl:b<c.length):∀i,rt (c.set b a) i=if rt c i=b then a else rt c i:=fun i=>by
 induction i using Nat.strongRecOn with
 | _ i ih=>
  have e:=getD_setN c b a i hl
  by_cases hi:b=i
  ·subst hi
   rw[if_pos rfl]at e
   rw[rt_lt (by rw[e];exact hab),e,ih a hab,rt_of_root ha,rt_of_root hb,if_pos rfl,if_neg (by omega)]
  ·rw[if_neg hi]at e
   by_cases h:c.getD i 0<i
   ·rw[rt_lt (by rw[e];exact h),e,ih _ h,←rt_lt h]
   ·rw[rt_nl (by rw[e];exact h),rt_nl h,if_neg (fun h=>hi h.symm)]
def joinC(c:List Nat)(i j:Nat):List Nat:=c.set (max (rt c i) (rt c j)) (min (rt c i) (rt c j))
theorem joinC_len:(joinC c i j).length=c.length:=List.length_set
theorem rt_joinC(hc:∀j,c.getD j 0≤j)(hi:i<c.length)(hj:j<c.length)(x:Nat):rt (joinC c i j) x=if rt c x=rt c i∨rt c x=rt c j then min (rt c i) (rt c j) else rt c x:=by
 have ha:=rt_root hc i
 have hb:=rt_root hc j
 have la:=rt_le (c:=c) i
 have lb:=rt_le (c:=c) j
 unfold joinC
 generalize rt c i=a at *
 generalize rt c j=b at *
 rcases Nat.lt_trichotomy a b with h|h|h
 ·rw[Nat.max_eq_right (Nat.le_of_lt h),Nat.min_eq_left (Nat.le_of_lt h),rt_join ha hb h (by omega)]
  by_cases h1:rt c x=b
  ·rw[if_pos h1,if_pos (.inr h1)]
  ·rw[if_neg h1]
   by_cases h2:rt c x=a
   ·rw[if_pos (.inl h2),h2]
   ·rw[if_neg (fun h=>h.elim h2 h1)]
 ·subst h
  rw[Nat.max_self,Nat.min_self]
  have e:c.set a a=c:=by
   refine List.ext_getElem? fun q=>?_
   rw[List.getElem?_set]
   by_cases e:a=q
   ·subst e
    rw[if_pos rfl,if_pos (by omega),List.getElem?_eq_getElem (by omega)]
    rw[List.getD_eq_getElem?_getD,List.getElem?_eq_getElem (by omega)]at ha
    exact congrArg some ha.symm
   ·rw[if_neg e]
  rw[e]
  by_cases h1:rt c x=a
  ·rw[if_pos (.inl h1),h1]
  ·rw[if_neg (fun h=>h.elim h1 h1)]
 ·rw[Nat.max_eq_left (Nat.le_of_lt h),Nat.min_eq_right (Nat.le_of_lt h),rt_join hb ha h (by omega)]
  by_cases h1:rt c x=a
  ·rw[if_pos h1,if_pos (.inl h1)]
  ·rw[if_neg h1]
   by_cases h2:rt c x=b
   ·rw[if_pos (.inr h2),h2]
   ·rw[if_neg (fun h=>h.elim h1 h2)]
theorem joinC_ok(hc:∀j,c.getD j 0≤j)(hi:i<c.length)(hj:j<c.length):∀x,(joinC c i j).getD x 0≤x:=fun x=>by
 have la:=rt_le (c:=c) i
 have lb:=rt_le (c:=c) j
 unfold joinC
 rw[getD_setN _ _ _ _ (by omega)]
 split
 ·omega
 ·exact hc x
end
structure UF {κ:Type} (n N:Nat) (Ks:Nat→List κ) (R:Nat→Nat→Prop) (i q:Nat) (c:List Nat) (fi:List (κ×Nat)):Prop where
 len:c.length=N
 ok:∀j,c.getD j 0≤j
 ex:∀j k,(j<i∧k∈Ks j∨j=i∧k∈(Ks i).take q)→∃p,(k,p)∈fi
 eq:∀j k p,(j<i∧k∈Ks j∨j=i∧k∈(Ks i).take q)→(k,p)∈fi→rt c p=rt c j
 fr:∀k p,(k,p)∈fi→(p<i∧k∈Ks p∨p=i∧k∈(Ks i).take q)
 to:∀j j',j≤i→j'≤i→rt c j=rt c j'→Conn R n j j'
section
variable {κ:Type}{n N:Nat}{Ks:Nat→List κ}{R:Nat→Nat→Prop}{i q:Nat}{c:List Nat}{fi:List (κ×Nat)}
theorem UF.first(hn:0<n)(hl:c.length=N)(hN:n≤N)(hc:∀j,c.getD j 0≤j):UF n N Ks R 0 0 c ([]:List (κ×Nat)):=
 ⟨hl,hc,fun j k h=>by rcases h with ⟨h,_⟩|⟨_,h⟩<;>simp at h,fun j k p h h2=>by simp at h2,fun k p h=>by simp at h,fun j j' h1 h2 _=>by
  obtain rfl:j=0:=by omega
  obtain rfl:j'=0:=by omega
  exact .refl hn⟩
theorem UF.next(h:UF n N Ks R i (Ks i).length c fi)(hi:i+1<n)(hN:n≤N):UF n N Ks R (i+1) 0 (c.set (i+1) (i+1)) fi:=by
 have hD:∀j k,(j<i+1∧k∈Ks j∨j=i+1∧k∈(Ks (i+1)).take 0)→(j<i∧k∈Ks j∨j=i∧k∈(Ks i).take (Ks i).length):=fun j k hh=>by
  rcases hh with ⟨h1,h2⟩|⟨_,h2⟩
  ·by_cases e:j=i
   ·subst e;exact .inr ⟨rfl,by rw[List.take_length];exact h2⟩
   ·exact .inl ⟨by omega,h2⟩
  ·simp at h2
 have hl:=h.len
 have hab:=fun j hj=>rt_above (c:=c) (x:=i+1) (i:=i+1) (by omega) j hj
 have hF:=h.fr
 refine ⟨by rw[List.length_set];exact hl,fun j=>?_,fun j k hh=>h.ex j k (hD j k hh),fun j k p hh hp=>?_,fun k p hp=>?_,fun j j' h1 h2 e=>?_⟩
 ·rw[getD_setN _ _ _ _ (by omega)]
  split
  ·omega
  ·exact h.ok j
 ·have h1:=h.eq j k p (hD j k hh) hp
  have h2:p<i+1:=by rcases hF k p hp with ⟨h2,_⟩|⟨h2,_⟩<;>omega
  have h3:j<i+1:=by rcases hD j k hh with ⟨h3,_⟩|⟨h3,_⟩<;>omega
  rw[hab p h2,hab j h3];exact h1
 ·rcases hF k p hp with ⟨h1,h2⟩|⟨h1,h2⟩
  ·exact .inl ⟨by omega,h2⟩
  ·subst h1;rw[List.take_length]at h2;exact .inl ⟨by omega,h2⟩
 ·have hr:rt (c.set (i+1) (i+1)) (i+1)=i+1:=rt_of_root (by rw[getD_setN _ _ _ _ (by omega),if_pos rfl])
  by_cases e1:j=i+1<;>by_cases e2:j'=i+1
  ·rw[e1,e2];exact .refl hi
  ·rw[e1,hr,hab j' (by omega)]at e
   have:=rt_le (c:=c) j'
   omega
  ·rw[e2,hr,hab j (by omega)]at e
   have:=rt_le (c:=c) j
   omega
  ·rw[hab j (by omega),hab j' (by omega)]at e
   exact h.to j j' (by omega) (by omega) e
theorem take_mem_succ{l:List κ}{q:Nat}(hq:q<l.length){k:κ}:k∈l.take (q+1)↔k∈l.take q∨k=l[q]:=by
 rw[List.take_add_one,List.getElem?_eq_getElem hq,List.mem_append];simp
theorem UF.met(h:UF n N Ks R i q c fi)(hs:∀a b,R a b→R b a)(hR:∀a b k,k∈Ks a→k∈Ks b→R a b)(hi:i<n)(hN:n≤N)(hq:q<(Ks i).length){p:Nat}(hp:((Ks i)[q],p)∈fi):UF n N Ks R i (q+1) (joinC c i p) fi:=by
 have hl:=h.len
 have hpD:=h.fr _ _ hp
 have hpi:p≤i:=by rcases hpD with ⟨h1,_⟩|⟨h1,_⟩<;>omega
 have hpk:(Ks i)[q]∈Ks p:=by
  rcases hpD with ⟨_,h1⟩|⟨h0,h1⟩
  ·exact h1
  ·rw[h0];exact List.mem_of_mem_take h1
 have hj:=rt_joinC (c:=c) (i:=i) (j:=p) h.ok (by omega) (by omega)
 have hip:Conn R n i p:=Conn.one hi (by omega) (hR i p _ (List.getElem_mem hq) hpk)
 have hsame:∀x y,rt c x=rt c y→rt (joinC c i p) x=rt (joinC c i p) y:=fun x y e=>by rw[hj x,hj y,e]
 refine ⟨by rw[joinC_len];exact hl,joinC_ok h.ok (by omega) (by omega),fun j k hh=>?_,fun j k p' hh hp'=>?_,fun k p' hp'=>?_,fun j j' h1 h2 e=>?_⟩
 ·rcases hh with hh|⟨h0,hh⟩
  ·exact h.ex j k (.inl hh)
  ·rcases (take_mem_succ hq).1 hh with hh|rfl
   ·exact h.ex j k (.inr ⟨h0,hh⟩)
   ·exact ⟨p,hp⟩
 ·have hold:(j<i∧k∈Ks j∨j=i∧k∈(Ks i).take q)∨(j=i∧k=(Ks i)[q]):=by
   rcases hh with hh|⟨h0,hh⟩
   ·exact .inl (.inl hh)
   ·rcases (take_mem_succ hq).1 hh with hh|rfl
    ·exact .inl (.inr ⟨h0,hh⟩)
    ·exact .inr ⟨h0,rfl⟩
  rcases hold with hold|⟨rfl,rfl⟩
  ·exact hsame _ _ (h.eq j k p' hold hp')
  ·have h1:rt c p'=rt c p:=h.eq p _ p' hpD hp'
   rw[hj p',hj j,if_pos (.inr h1),if_pos (.inl rfl)]
 ·rcases h.fr k p' hp' with hh|⟨h0,hh⟩
  ·exact .inl hh
  ·exact .inr ⟨h0,(take_mem_succ hq).2 (.inl hh)⟩
 ·rw[hj j,hj j']at e
  have key:∀x,x≤i→(rt c x=rt c i∨rt c x=rt c p)→Conn R n x i:=fun x hx hh=>by
   rcases hh with hh|hh
   ·exact h.to x i hx (Nat.le_refl _) hh
   ·exact (h.to x p hx hpi hh).trans (hip.symm hs)
  have hmin:∀x,x≤i→rt c x=min (rt c i) (rt c p)→(rt c x=rt c i∨rt c x=rt c p):=fun x _ hh=>by
   rcases Nat.le_total (rt c i) (rt c p) with hle|hle
   ·exact .inl (by rw[hh,Nat.min_eq_left hle])
   ·exact .inr (by rw[hh,Nat.min_eq_right hle])
  by_cases e1:rt c j=rt c i∨rt c j=rt c p
  ·rw[if_pos e1]at e
   by_cases e2:rt c j'=rt c i∨rt c j'=rt c p
   ·exact (key j h1 e1).trans ((key j' h2 e2).symm hs)
   ·rw[if_neg e2]at e
    exact absurd (hmin j' h2 e.symm) e2
  ·rw[if_neg e1]at e
   by_cases e2:rt c j'=rt c i∨rt c j'=rt c p
   ·rw[if_pos e2]at e
    exact absurd (hmin j h1 e) e1
   ·rw[if_neg e2]at e
    exact h.to j j' h1 h2 e
theorem UF.fresh(h:UF n N Ks R i q c fi)(hq:q<(Ks i).length)(hp:∀p,((Ks i)[q],p)∉fi):UF n N Ks R i (q+1) c (fi++[((Ks i)[q],i)]):=by
 refine ⟨h.len,h.ok,fun j k hh=>?_,fun j k p hh hm=>?_,fun k p hm=>?_,h.to⟩
 ·rcases hh with hh|⟨h0,hh⟩
  ·obtain ⟨p,hp⟩:=h.ex j k (.inl hh)
   exact ⟨p,List.mem_append_left _ hp⟩
  ·rcases (take_mem_succ hq).1 hh with hh|rfl
   ·obtain ⟨p,hp⟩:=h.ex j k (.inr ⟨h0,hh⟩)
    exact ⟨p,List.mem_append_left _ hp⟩
   ·exact ⟨i,List.mem_append_right _ (List.mem_singleton.2 rfl)⟩
 ·have hold:(j<i∧k∈Ks j∨j=i∧k∈(Ks i).take q)∨(j=i∧k=(Ks i)[q]):=by
   rcases hh with hh|⟨h0,hh⟩
   ·exact .inl (.inl hh)
   ·rcases (take_mem_succ hq).1 hh with hh|rfl
    ·exact .inl (.inr ⟨h0,hh⟩)
    ·exact .inr ⟨h0,rfl⟩
  rcases List.mem_append.1 hm with hm2|hm2
  ·clear hm
   rcases hold with hold|⟨rfl,rfl⟩
   ·exact h.eq j k p hold hm2
   ·exact absurd hm2 (hp p)
  ·clear hm
   obtain ⟨rfl,rfl⟩:=Prod.mk.inj (List.mem_singleton.1 hm2)
   rcases hold with hold|⟨h0,_⟩
   ·obtain ⟨p,hp'⟩:=h.ex j _ hold
    exact absurd hp' (hp p)
   ·rw[h0]
 ·rcases List.mem_append.1 hm with hm|hm
  ·rcases h.fr k p hm with hh|⟨h0,hh⟩
   ·exact .inl hh
   ·exact .inr ⟨h0,(take_mem_succ hq).2 (.inl hh)⟩
  ·obtain ⟨rfl,rfl⟩:=Prod.mk.inj (List.mem_singleton.1 hm)
   exact .inr ⟨rfl,(take_mem_succ hq).2 (.inr rfl)⟩
theorem UF.lab(h:UF n N Ks R i (Ks i).length c fi)(hi:i+1=n)(hR:∀a b,R a b→∃k,k∈Ks a∧k∈Ks b):Lab n R (rt c):=by
 refine ⟨fun i _=>rt_le i,fun i _=>rt_idem h.ok i,fun a b ha hb hab=>?_,fun a b ha hb e=>h.to a b (by omega) (by omega) e⟩
 obtain ⟨k,h1,h2⟩:=hR a b hab
 have hD:∀j,j<n→k∈Ks j→(j<i∧k∈Ks j∨j=i∧k∈(Ks i).take (Ks i).length):=fun j hj hk=>by
  by_cases e:j=i
  ·subst e;exact .inr ⟨rfl,by rw[List.take_length];exact hk⟩
  ·exact .inl ⟨by omega,hk⟩
 obtain ⟨p,hp⟩:=h.ex a k (hD a ha h1)
 rw[←h.eq a k p (hD a ha h1) hp,←h.eq b k p (hD b hb h2) hp]
end
end Go.Proofs.YtoblkpomikokhaaGreat.Sx
namespace Go.Proofs.YtoblkpomikokhaaGreat.Sx
open Go Go.RowKit
set_option linter.unusedVariables false
set_option linter.unusedSimpArgs false
set_option maxRecDepth 100000
set_option maxHeartbeats 8000000
attribute [local congr] fin_congr finG_congr stepG_congr step1_congr runOps_congr brv_congr obl_congr condK_congr LoopK_congr seqK_congr CutK_congr vc_congr DrawK_congr regK_congr CallK_congr AskK_congr newK_congr retC_congr ret1_congr retK_congr outV_congr closeK_congr genR_congr appR_congr finD_congr finGD_congr stepGD_congr stepD_congr CallK0_congr runD_congr okR_congr CallS_congr vcX_congr
attribute [local congr] Stop_congr
section
variable {M:Mem}{K:AV→Hp→Mem→Prop}
def gfSt(M:Mem)(c:List Nat)(i:Nat):St:={env:=[(1,.ext (.int .i64 (i:Int))),(0,.own 8 0)],hp:=[(8,62,cE natV c)],M:=M,kb:=200,fx:=[8]}
theorem gfind_ok(c:List Nat)(i:Nat)(hc:∀j,c.getD j 0≤j)(hl:c.length=64)(hi:i<64)(hK:K (.ext (.int .i64 ((rt c i:Nat):Int))) [(8,62,cE natV c)] M):CallS Tryz.prog 20 [.own 8 0,.ext (.int .i64 (i:Int))] [(8,62,cE natV c)] M [] K:=by
 refine inlS (cs:=[]) Tryz.mixed Tryz.func20 rfl (by kernel_rfl) 200 rfl rfl ?_
 simp only[Tryz.f20]
 have e4:(cE natV c).length=64:=by rw[cE_len];exact hl
 refine Go1.mk ?_;repeat' ((first|(with_reducible refine Go1.go ?_)|(refine And.intro ?_ ?_;(try simp only[sxO]at *);omega)|fail)<;>(try simp (maxSteps:=1000000) only [cE_ment,cE_kill,hasK_nil,↓hold_pre,awayP,runOps,regK,step1,newK,genR,appR,obl,buildR,Value.cells,closeK,keepH,outV,retK,ret1,retC,RetV,Option.getD,runD,stepD,afterK,undef,simprocAttr,sxB,↓sxD,sxE,sxTab]))
 refine ⟨fun m z=>∃j,m=j∧j<64∧rt c j=rt c i∧z=gfSt M c j,
  ⟨i,gfSt M c i,le_sub ⟨rfl,rfl,trivial⟩ ⟨rfl,trivial⟩ rfl rfl rfl (keepLt_of rfl),⟨i,rfl,hi,rfl,rfl⟩⟩,?_⟩
 rintro m z ⟨j,rfl,hj,hrt,rfl⟩
 have y2:(0:Int)≤(m:Int):=by omega
 have y3:(m:Int)<64:=by omega
 have hat:=cE_at natV (show m<c.length by omega)
 have hcj:=hc m
 have hg:c.getD m 0=c[m]'(by omega):=by rw[List.getD_eq_getElem?_getD,List.getElem?_eq_getElem (by omega)];rfl
 rw[←hg]at hat
 by_cases h:c.getD m 0<m
 ·have hr:=rt_lt h
  generalize c.getD m 0=q at *
  have d1:decide ((q:Int)=(m:Int))=false:=by rw[decide_eq_false_iff_not];omega
  refine Go1.mk ?_;repeat' ((first|(with_reducible refine Go1.go ?_)|(refine And.intro ?_ ?_;(try simp only[sxO]at *);omega)|fail)<;>(try simp (maxSteps:=1000000) only [gfSt,natV,hat,d1,y2,y3,e4,Nat.mul_one,Nat.zero_add,cE_ment,cE_kill,hasK_nil,↓hold_pre,awayP,runOps,regK,step1,newK,genR,appR,obl,buildR,Value.cells,closeK,keepH,outV,retK,ret1,retC,RetV,Option.getD,runD,stepD,afterK,undef,simprocAttr,sxB,↓sxD,sxE,sxTab]))
  exact ⟨q,gfSt M c q,h,le_sub ⟨rfl,rfl,trivial⟩ ⟨rfl,trivial⟩ rfl rfl rfl (keepLt_of rfl),q,rfl,by omega,hr.symm.trans hrt,rfl⟩
 ·have hr:=rt_nl h
  have hq:c.getD m 0=m:=by omega
  rw[hq]at hat
  have d1:decide ((m:Int)=(m:Int))=true:=by simp
  rw[←hrt,hr]at hK
  refine Go1.mk ?_;repeat' ((first|(with_reducible refine Go1.go ?_)|(refine And.intro ?_ ?_;(try simp only[sxO]at *);omega)|fail)<;>(try simp (maxSteps:=1000000) only [gfSt,natV,hat,d1,y2,y3,e4,Nat.mul_one,Nat.zero_add,cE_ment,cE_kill,hasK_nil,↓hold_pre,awayP,runOps,regK,step1,newK,genR,appR,obl,buildR,Value.cells,closeK,keepH,outV,retK,ret1,retC,RetV,Option.getD,runD,stepD,afterK,undef,simprocAttr,sxB,↓sxD,sxE,sxTab]))
  exact hK
theorem gjoin_ok(c:List Nat)(i j:Nat)(hc:∀j,c.getD j 0≤j)(hl:c.length=64)(hi:i<64)(hj:j<64)(hK:K (.ext (.tuple #[])) [(8,62,cE natV (joinC c i j))] M):CallS Tryz.prog 19 [.own 8 0,.ext (.int .i64 (i:Int)),.ext (.int .i64 (j:Int))] [(8,62,cE natV c)] M [] K:=by
 refine inlS (cs:=[]) Tryz.mixed Tryz.func19 rfl (by kernel_rfl) 300 rfl rfl ?_
 simp only[Tryz.f19]
 have e4:(cE natV c).length=64:=by rw[cE_len];exact hl
 have la:=rt_le (c:=c) i
 have lb:=rt_le (c:=c) j
 unfold joinC at hK
 refine Go1.mk ?_;repeat' ((first|(with_reducible refine Go1.go ?_)|((with_reducible refine isCall (f:=20) ?_);refine callA ?_)|((with_reducible refine isCallS (f:=20) ?_);refine (gfind_ok c i hc hl hi (Stop.mk ?_)))|(refine And.intro ?_ ?_;(try simp only[sxO]at *);omega)|fail)<;>(try simp (maxSteps:=1000000) only [cE_ment,cE_kill,hasK_nil,↓hold_pre,awayP,runOps,regK,step1,newK,genR,appR,obl,buildR,Value.cells,closeK,keepH,outV,retK,ret1,retC,RetV,Option.getD,runD,stepD,afterK,undef,simprocAttr,sxB,↓sxD,sxE,sxTab]))
 refine Stop.go ?_
 refine Go1.mk ?_;repeat' ((first|(with_reducible refine Go1.go ?_)|((with_reducible refine isCall (f:=20) ?_);refine callA ?_)|((with_reducible refine isCallS (f:=20) ?_);refine (gfind_ok c j hc hl hj (Stop.mk ?_)))|(refine And.intro ?_ ?_;(try simp only[sxO]at *);omega)|fail)<;>(try simp (maxSteps:=1000000) only [cE_ment,cE_kill,hasK_nil,↓hold_pre,awayP,runOps,regK,step1,newK,genR,appR,obl,buildR,Value.cells,closeK,keepH,outV,retK,ret1,retC,RetV,Option.getD,runD,stepD,afterK,undef,simprocAttr,sxB,↓sxD,sxE,sxTab]))
 have hs:=fun x y=>cE_set natV c x y
 generalize rt c i=a at *
 generalize rt c j=b at *
 rcases Nat.lt_trichotomy a b with h|h|h
 ·rw[Nat.max_eq_right (Nat.le_of_lt h),Nat.min_eq_left (Nat.le_of_lt h)]at hK
  have hset:(cE natV c).set b (.ext (.int .i64 (a:Int)))=cE natV (c.set b a):=hs b a
  have f1:((a:Int)<(b:Int))=True:=eq_true (by omega)
  have f2:((b:Int)<(a:Int))=False:=eq_false (by omega)
  have y2:(0:Int)≤(b:Int):=by omega
  have y3:(b:Int)<64:=by omega
  have y4:b<64:=by omega
  clear hs
  refine Stop.go ?_
  refine Go1.mk ?_;repeat' ((first|(with_reducible refine Go1.go ?_)|(refine And.intro ?_ ?_;(try simp only[sxO]at *);omega)|fail)<;>(try simp (maxSteps:=1000000) only [hset,gt_iff_lt,f1,f2,y2,y3,y4,if_true,if_false,e4,Nat.mul_one,Nat.zero_add,cE_ment,cE_kill,hasK_nil,↓hold_pre,awayP,runOps,regK,step1,newK,genR,appR,obl,buildR,Value.cells,closeK,keepH,outV,retK,ret1,retC,RetV,Option.getD,runD,stepD,afterK,undef,simprocAttr,sxB,↓sxD,sxE,sxTab]))
  exact hK
 ·subst h
  rw[Nat.max_self,Nat.min_self]at hK
  have hset:(cE natV c).set a (.ext (.int .i64 (a:Int)))=cE natV (c.set a a):=hs a a
  have f1:((a:Int)<(a:Int))=False:=eq_false (by omega)
  have y2:(0:Int)≤(a:Int):=by omega
  have y3:(a:Int)<64:=by omega
  have y4:a<64:=by omega
  clear hs
  refine Stop.go ?_
  refine Go1.mk ?_;repeat' ((first|(with_reducible refine Go1.go ?_)|(refine And.intro ?_ ?_;(try simp only[sxO]at *);omega)|fail)<;>(try simp (maxSteps:=1000000) only [hset,gt_iff_lt,f1,y2,y3,y4,if_true,if_false,e4,Nat.mul_one,Nat.zero_add,cE_ment,cE_kill,hasK_nil,↓hold_pre,awayP,runOps,regK,step1,newK,genR,appR,obl,buildR,Value.cells,closeK,keepH,outV,retK,ret1,retC,RetV,Option.getD,runD,stepD,afterK,undef,simprocAttr,sxB,↓sxD,sxE,sxTab]))
  exact hK
 ·rw[Nat.max_eq_left (Nat.le_of_lt h),Nat.min_eq_right (Nat.le_of_lt h)]at hK
  have hset:(cE natV c).set a (.ext (.int .i64 (b:Int)))=cE natV (c.set a b):=hs a b
  have f1:((a:Int)<(b:Int))=False:=eq_false (by omega)
  have f2:((b:Int)<(a:Int))=True:=eq_true (by omega)
  have y2:(0:Int)≤(a:Int):=by omega
  have y3:(a:Int)<64:=by omega
  have y4:a<64:=by omega
  clear hs
  refine Stop.go ?_
  refine Go1.mk ?_;repeat' ((first|(with_reducible refine Go1.go ?_)|(refine And.intro ?_ ?_;(try simp only[sxO]at *);omega)|fail)<;>(try simp (maxSteps:=1000000) only [hset,gt_iff_lt,f1,f2,y2,y3,y4,if_true,if_false,e4,Nat.mul_one,Nat.zero_add,cE_ment,cE_kill,hasK_nil,↓hold_pre,awayP,runOps,regK,step1,newK,genR,appR,obl,buildR,Value.cells,closeK,keepH,outV,retK,ret1,retC,RetV,Option.getD,runD,stepD,afterK,undef,simprocAttr,sxB,↓sxD,sxE,sxTab]))
  exact hK
end
end Go.Proofs.YtoblkpomikokhaaGreat.Sx
set_option linter.unusedVariables false
namespace Go.Proofs.YtoblkpomikokhaaGreat.Sx
abbrev Bs:=List UInt8
def inR(b:UInt8)(lo hi:Nat):Bool:=decide (lo≤b.toNat)&&decide (b.toNat≤hi)
def digB(b:UInt8):Bool:=inR b 48 57
def hexB(b:UInt8):Bool:=digB b || (inR b 97 102 || inR b 65 70)
def wordB(b:UInt8):Bool:=inR b 97 122 || (inR b 65 90 || (inR b 48 57 || decide (b.toNat=95)))
def pathB(b:UInt8):Bool:=wordB b || (decide (b.toNat=46) || (decide (b.toNat=45) || decide (b.toNat=47)))
def blankB(b:UInt8):Bool:=decide (b.toNat=32) || (decide (b.toNat=9) || decide (b.toNat=13))
def numB(l:Bs):Bool:=
 l.all digB || (if decide (2<l.length)&&(l.take 2==[48,120] || l.take 2==[48,88]) then (l.drop 2).all hexB else decide (8≤l.length)&&(l.all hexB&&l.any digB))
def baseB(l:Bs):Bs:=(l.reverse.takeWhile (fun b=>b != 47)).reverse
theorem dropW_lt{p:UInt8→Bool}{b:UInt8}{r:Bs}(h:p b=true):((b :: r).dropWhile p).length<(b :: r).length:=by
 rw[List.dropWhile_cons_of_pos h]
 have:=(List.dropWhile_sublist p (l:=r)).length_le
 simp only[List.length_cons];omega
def wordsB:Bs→Bs
 | []=>[]
 | b :: r=>if h:wordB b=true then
   (if numB ((b :: r).takeWhile wordB) then [35] else (b :: r).takeWhile wordB)++wordsB ((b :: r).dropWhile wordB)
  else b :: wordsB r
termination_by l=>l.length
decreasing_by
 ·exact dropW_lt h
 ·simp
def partB(l:Bs):Bs:=if baseB l=[] then [47] else wordsB (baseB l)
def qst(b:UInt8):Bool:=b != 34&&b != 10
def quoB:Bs→Nat
 | []=>0
 | c :: r=>if c=34 then (match r.dropWhile qst with
   | d :: _=>if d=34 then (r.takeWhile qst).length+2 else 0
   | []=>0) else 0
def othB(c:UInt8):UInt8:=if decide (c.toNat=10) || inR c 33 126 then c else 63
def normB:Bs→Bs
 | []=>[]
 | c :: r=>if 0<quoB (c :: r) then 34 :: 34 :: normB ((c :: r).drop (quoB (c :: r)))
  else if h:pathB c=true then partB ((c :: r).takeWhile pathB)++normB ((c :: r).dropWhile pathB)
  else if h:blankB c=true then 32 :: normB ((c :: r).dropWhile blankB)
  else othB c :: normB r
termination_by l=>l.length
decreasing_by
 ·simp only[List.length_drop,List.length_cons];omega
 ·exact dropW_lt h
 ·exact dropW_lt h
 ·simp
def normalB(l:Bs):Bs:=normB (l.take 512)
theorem u8_all{P:UInt8→Bool}(h:(List.range 256).all (fun n=>P (UInt8.ofNat n))=true)(b:UInt8):P b=true:=by
 have:=List.all_eq_true.1 h b.toNat (by simp[b.toNat_lt])
 simpa using this
theorem path_quo{b:UInt8}(h:pathB b=true):qst b=true:=by
 have:=u8_all (P:=fun b=>!(pathB b) || qst b) (by decide +kernel) b
 simpa [h] using this
theorem path_blank{b:UInt8}(h:pathB b=true):blankB b=false:=by
 have:=u8_all (P:=fun b=>!(pathB b) || !(blankB b)) (by decide +kernel) b
 simpa [h] using this
theorem blank_quo{b:UInt8}(h:blankB b=true):qst b=true:=by
 have:=u8_all (P:=fun b=>!(blankB b) || qst b) (by decide +kernel) b
 simpa [h] using this
def endQ(l:Bs):Option UInt8:=(l.dropWhile qst).head?
theorem quo_pos{r:Bs}(h:endQ r=some 34):quoB (34 :: r)=(r.takeWhile qst).length+2:=by
 unfold endQ at h
 simp only[quoB,if_true]
 split
 ·rename_i d t e;rw[e]at h;simp at h;subst h;simp
 ·rename_i e;rw[e]at h;simp at h
theorem quo_zero{c:UInt8}{r:Bs}(h:¬(c=34∧endQ r=some 34)):quoB (c :: r)=0:=by
 simp only[quoB]
 split
 ·rename_i hc
  unfold endQ at h
  split
  ·rename_i d t e
   rw[e]at h
   split
   ·rename_i hd;exact absurd ⟨hc,by simp[hd]⟩ h
   ·rfl
  ·rfl
 ·rfl
theorem norm_quo{r:Bs}(h:endQ r=some 34):normB (34 :: r)=34 :: 34 :: normB ((r.dropWhile qst).drop 1):=by
 rw[normB,if_pos (by rw[quo_pos h];omega),quo_pos h]
 have e:=List.takeWhile_append_dropWhile (p:=qst) (l:=r)
 have h1:r.drop (r.takeWhile qst).length=r.dropWhile qst:=by
  conv=>lhs;rw[←e]
  rw[List.takeWhile_append_dropWhile]
  conv=>lhs;arg 2;rw[←e]
  exact List.drop_left
 have h2:(34 :: r).drop ((r.takeWhile qst).length+2)=(r.drop (r.takeWhile qst).length).drop 1:=by
  rw[List.drop_drop];rfl
 rw[h2,h1]
theorem norm_path{c:UInt8}{r:Bs}(h:pathB c=true):normB (c :: r)=partB ((c :: r).takeWhile pathB)++normB ((c :: r).dropWhile pathB):=by
 have hq:=path_quo h
 rw[normB,if_neg (by rw[quo_zero (fun ⟨e,_⟩=>by subst e;simp[qst]at hq)];omega),dif_pos h]
theorem norm_blank{c:UInt8}{r:Bs}(h:blankB c=true):normB (c :: r)=32 :: normB ((c :: r).dropWhile blankB):=by
 have hq:=blank_quo h
 have hp:¬pathB c=true:=fun e=>by rw[path_blank e]at h;cases h
 rw[normB,if_neg (by rw[quo_zero (fun ⟨e,_⟩=>by subst e;simp[qst]at hq)];omega),dif_neg hp,dif_pos h]
theorem norm_oth{c:UInt8}{r:Bs}(h1:¬(c=34∧endQ r=some 34))(h2:pathB c=false)(h3:blankB c=false):normB (c :: r)=othB c :: normB r:=by
 rw[normB,if_neg (by rw[quo_zero h1];omega),dif_neg (by simp[h2]),dif_neg (by simp[h3])]
theorem norm_ind{P:Bs→Prop}(h0:P [])(hq:∀r,endQ r=some 34→P ((r.dropWhile qst).drop 1)→P (34 :: r))
  (hp:∀c r,pathB c=true→P ((c :: r).dropWhile pathB)→P (c :: r)) (hb:∀c r,blankB c=true→P ((c :: r).dropWhile blankB)→P (c :: r))
  (ho:∀c r,¬(c=34∧endQ r=some 34)→pathB c=false→blankB c=false→P r→P (c :: r)):∀n (l:Bs),l.length≤n→P l
 | n,[],_=>h0
 | 0,c :: r,h=>by simp at h
 | n+1,c :: r,h=>by
  have ih:=norm_ind h0 hq hp hb ho n
  simp only[List.length_cons]at h
  by_cases h1:c=34∧endQ r=some 34
  ·obtain ⟨rfl,h1⟩:=h1
   refine hq r h1 (ih _ ?_)
   have:=(List.dropWhile_sublist qst (l:=r)).length_le
   simp only[List.length_drop];omega
  ·cases h2:pathB c with
   | true=>exact hp c r h2 (ih _ (by have:=dropW_lt (r:=r) h2;simp only[List.length_cons]at this;omega))
   | false=>
    cases h3:blankB c with
    | true=>exact hb c r h3 (ih _ (by have:=dropW_lt (r:=r) h3;simp only[List.length_cons]at this;omega))
    | false=>exact ho c r h1 h2 h3 (ih _ (by omega))
theorem words_len:∀n (l:Bs),l.length≤n→(wordsB l).length≤l.length
 | n,[],_=>by simp[wordsB]
 | 0,c :: r,h=>by simp at h
 | n+1,c :: r,h=>by
  simp only[List.length_cons]at h
  rw[wordsB]
  split
  ·rename_i hw
   have h1:=dropW_lt (r:=r) hw
   have h2:=words_len n ((c :: r).dropWhile wordB) (by simp only[List.length_cons]at h1;omega)
   have h3:=congrArg List.length (List.takeWhile_append_dropWhile (p:=wordB) (l:=c :: r))
   rw[List.length_append]at h3 ⊢
   split<;>simp only[List.length_cons,List.length_nil]at *<;>omega
  ·have h2:=words_len n r (by omega)
   simp only[List.length_cons];omega
theorem base_len(l:Bs):(baseB l).length≤l.length:=by
 unfold baseB
 have:=(List.takeWhile_sublist (fun b=>b != 47) (l:=l.reverse)).length_le
 simpa using this
theorem part_len{l:Bs}(h:l≠[]):(partB l).length≤l.length:=by
 unfold partB
 split
 ·cases l
  ·exact absurd rfl h
  ·simp
 ·have:=words_len _ (baseB l) (Nat.le_refl _)
  have:=base_len l
  omega
theorem norm_len:∀l:Bs,(normB l).length≤l.length:=fun l=>by
 refine norm_ind (P:=fun l=>(normB l).length≤l.length) (by simp[normB]) ?_ ?_ ?_ ?_ l.length l (Nat.le_refl _)
 ·intro r h ih
  rw[norm_quo h]
  have h3:=congrArg List.length (List.takeWhile_append_dropWhile (p:=qst) (l:=r))
  have h4:(r.dropWhile qst).length≠0:=fun e=>by
   rw[endQ,List.length_eq_zero_iff.1 e]at h;simp at h
  simp only[List.length_append,List.length_cons,List.length_drop]at *
  omega
 ·intro c r h ih
  rw[norm_path h]
  have h3:=congrArg List.length (List.takeWhile_append_dropWhile (p:=pathB) (l:=c :: r))
  have h4:=part_len (l:=(c :: r).takeWhile pathB) (by rw[List.takeWhile_cons_of_pos h];simp)
  simp only[List.length_append,List.length_cons]at *
  omega
 ·intro c r h ih
  rw[norm_blank h]
  have h1:=dropW_lt (r:=r) h
  simp only[List.length_cons]at *
  omega
 ·intro c r h1 h2 h3 ih
  rw[norm_oth h1 h2 h3]
  simp only[List.length_cons];omega
def hd(p:UInt8→Bool)(l:Bs):Prop:=∀b,l.head? = some b→p b=false
inductive OutW:Bs→Prop
 | last (p:Bs):(∀b∈p,pathB b=true∧b≠47)→wordsB p=p→OutW p
 | more (p q:Bs):(∀b∈p,pathB b=true∧b≠47)→wordsB p=p→OutW q→OutW (p++35 :: q)
theorem tw_app{p:UInt8→Bool}:∀{w x:Bs},(∀b∈w,p b=true)→hd p x→(w++x).takeWhile p=w∧(w++x).dropWhile p=x
 | [],[],_,_=>⟨rfl,rfl⟩
 | [],c :: x,_,h=>by
  have h:=h c rfl
  rw[List.nil_append,List.takeWhile_cons_of_neg (by simp[h]),List.dropWhile_cons_of_neg (by simp[h])];exact ⟨rfl,rfl⟩
 | b :: w,x,hw,h=>by
  have h1:=hw b List.mem_cons_self
  have h2:=tw_app (w:=w) (fun b hb=>hw b (List.mem_cons_of_mem _ hb)) h
  rw[List.cons_append,List.takeWhile_cons_of_pos h1,List.dropWhile_cons_of_pos h1,h2.1,h2.2];exact ⟨rfl,rfl⟩
theorem words_cons{c:UInt8}{r:Bs}(h:wordB c=false):wordsB (c :: r)=c :: wordsB r:=by
 rw[wordsB,dif_neg (by simp[h])]
theorem mem_tw{p:UInt8→Bool}:∀{l:Bs} {b:UInt8},b∈l.takeWhile p→p b=true
 | [],_,h=>by simp at h
 | c :: r,b,h=>by
  by_cases hc:p c=true
  ·rw[List.takeWhile_cons_of_pos hc]at h
   rcases List.mem_cons.1 h with e|e
   ·rw[e];exact hc
   ·exact mem_tw e
  ·rw[List.takeWhile_cons_of_neg hc]at h;simp at h
theorem base_id{p:Bs}(h:∀b∈p,b≠47):baseB p=p:=by
 unfold baseB
 have:=(tw_app (p:=fun b=>b != 47) (w:=p.reverse) (x:=[]) (fun b hb=>by simpa using h b (by simpa using hb)) (fun b hb=>by simp at hb)).1
 rw[List.append_nil]at this
 rw[this,List.reverse_reverse]
theorem words_nil{l:Bs}(h:wordsB l=[]):l=[]:=by
 cases l with
 | nil=>rfl
 | cons c r=>
  rw[wordsB]at h
  split at h
  ·rename_i hw
   rw[List.append_eq_nil_iff]at h
   have h:=h.1
   split at h
   ·cases h
   ·rw[List.takeWhile_cons_of_pos hw]at h;cases h
  ·cases h
end Go.Proofs.YtoblkpomikokhaaGreat.Sx
set_option linter.unusedVariables false
namespace Go.Proofs.YtoblkpomikokhaaGreat.Sx
theorem base_slash{x y:Bs}(hy:∀b∈y,b≠47):baseB (x++47 :: y)=y:=by
 unfold baseB
 have:(x++47 :: y).reverse=y.reverse++47 :: x.reverse:=by simp
 rw[this]
 have h:=(tw_app (p:=fun b=>b != 47) (w:=y.reverse) (x:=47 :: x.reverse) (fun b hb=>by simpa using hy b (by simpa using hb)) (fun b hb=>by simp at hb;subst hb;decide)).1
 rw[h,List.reverse_reverse]
end Go.Proofs.YtoblkpomikokhaaGreat.Sx
namespace Go.Proofs.YtoblkpomikokhaaGreat.Sx
open Go Go.RowKit
set_option linter.unusedVariables false
set_option linter.unusedSimpArgs false
set_option maxRecDepth 100000
set_option maxHeartbeats 8000000
attribute [local congr] fin_congr finG_congr stepG_congr step1_congr runOps_congr brv_congr obl_congr condK_congr LoopK_congr seqK_congr CutK_congr vc_congr DrawK_congr regK_congr CallK_congr AskK_congr newK_congr retC_congr ret1_congr retK_congr outV_congr closeK_congr genR_congr appR_congr finD_congr finGD_congr stepGD_congr stepD_congr CallK0_congr runD_congr okR_congr CallS_congr vcX_congr
theorem u8wrap{i:Nat}(h:i<256):IntKind.u8.wrap (i:Int)=(i:Int):=by
 have:∀j:Fin 256,IntKind.u8.wrap ((j.val:Nat):Int)=((j.val:Nat):Int):=by decide +kernel
 exact this ⟨i,h⟩
section
variable {M:Mem}{K:AV→Hp→Mem→Prop}
def clsSt(M:Mem)(p q:UInt8→Bool)(i:Nat):St:={env:=[(4,.ext (.int .i64 (i:Int))),(1,.own 1 0),(0,.own 0 0)],hp:=[(1,103,parC q i),(0,103,parC p i)],M:=M,kb:=0,fx:=[]}
theorem classes_ok(hK:K (.ext (.tuple #[clsV wordB,clsV pathB])) [] M):CallS Tryz.prog 59 [] [] M [] K:=by
 refine inlS (cs:=[]) Tryz.mixed Tryz.func59 rfl (by kernel_rfl) 0 rfl rfl ?_
 simp only[Tryz.f59]
 (replace hb0:=true_and True);refine Go1.mk ?_;repeat' ((first|(with_reducible refine Go1.go ?_)|((with_reducible first|refine brv_mk ?_ ?_|refine gsplitD ?_ ?_|refine gsplitG ?_ ?_)<;>intro h<;>(try simp only[Bool.not_eq_true',Bool.not_eq_false']at h)<;>replace hb0:=h)|((with_reducible refine isDraw [some 55,some 56,none,none] (by decide) ?_);refine draw_rule [(0,[]),(1,[0]),(2,[1]),(3,[])] [[],[],[0],[0,1,2]] [55,56] [] (by kernel_rfl) (by kernel_rfl) (by kernel_rfl) (by kernel_rfl) (by exact trivial) ?_)|(refine And.intro ?_ ?_;(try simp only[sxO]at *);omega)|fail)<;>(try simp (maxSteps:=1000000) only [hb0,cls_len,cls_take,cls_drop,cls_agg,cls_cellsG,cls_cellsA,cls_one,cls_ment,cls_kill,z256_def,z256_len,z256_drop,z256_ment,par_len,par_ment,Nat.mul_one,imp_ga,guard_pk,guard_pk2,↓hold_pre,awayP,runOps,regK,step1,newK,genR,appR,obl,buildR,Value.cells,closeK,keepH,outV,retK,ret1,retC,RetV,Option.getD,runD,stepD,afterK,undef,simprocAttr,sxB,↓sxD,sxE,sxTab]))
 refine ⟨fun m z=>∃i,i≤256∧m=256-i∧z=clsSt M wordB pathB i,⟨256,clsSt M wordB pathB 0,le_sub ⟨rfl,rfl,rfl,trivial⟩ ⟨by rw[par_zero];rfl,by rw[par_zero];rfl,trivial⟩ rfl rfl rfl (keepLt0 _),⟨0,by omega,rfl,rfl⟩⟩,?_⟩
 rintro m z ⟨i,hi,rfl,rfl⟩
 by_cases hlt:i<256
 ·have d1:decide ((i:Int)<256)=true:=by simp;omega
  have w1:=u8wrap hlt
  have a1:(0:Int)≤(i:Int):=by omega
  have a2:(i:Int)<256:=by omega
  have eN:(UInt8.ofNat i).toNat=i:=by simp;omega
  have s1:(parC wordB i).set i (.ext (.bool (decide (97≤(i:Int))&&decide ((i:Int)≤122) || decide (65≤(i:Int))&&decide ((i:Int)≤90) || decide (48≤(i:Int))&&decide ((i:Int)≤57) || decide ((i:Int)=95))))=parC wordB (i+1):=par_set _ hlt _ (by
   rw[Bool.eq_iff_iff];simp only[wordB,inR,eN,Bool.or_eq_true,Bool.and_eq_true,decide_eq_true_eq];omega)
  have s2:(parC wordB (i+1))[i]? = some (.ext (.bool (wordB (UInt8.ofNat i)))):=by rw[par_at _ hlt];simp
  have s3:(parC pathB i).set i (.ext (.bool (wordB (UInt8.ofNat i) || decide ((i:Int)=46) || decide ((i:Int)=45) || decide ((i:Int)=47))))=parC pathB (i+1):=par_set _ hlt _ (by
   rw[Bool.eq_iff_iff];simp only[pathB,Bool.or_eq_true,decide_eq_true_eq];rw[eN];generalize wordB (UInt8.ofNat i)=x;cases x<;>simp<;>omega)
  have w2:IntKind.i64.wrap ((i:Int)+1)=((i+1:Nat):Int):=by rw[wrap_id (by omega) (by omega)];omega
  (replace hb0:=true_and True);refine Go1.mk ?_;repeat' ((first|(with_reducible refine Go1.go ?_)|((with_reducible first|refine brv_mk ?_ ?_|refine gsplitD ?_ ?_|refine gsplitG ?_ ?_)<;>intro h<;>(try simp only[Bool.not_eq_true',Bool.not_eq_false']at h)<;>replace hb0:=h)|((with_reducible refine isDraw [some 55,some 56,none,none] (by decide) ?_);refine draw_rule [(0,[]),(1,[0]),(2,[1]),(3,[])] [[],[],[0],[0,1,2]] [55,56] [] (by kernel_rfl) (by kernel_rfl) (by kernel_rfl) (by kernel_rfl) (by exact trivial) ?_)|(refine And.intro ?_ ?_;(try simp only[sxO]at *);omega)|fail)<;>(try simp (maxSteps:=1000000) only [hb0,clsSt,d1,w1,w2,a1,a2,s1,s2,s3,cls_len,cls_take,cls_drop,cls_agg,cls_cellsG,cls_cellsA,cls_one,cls_ment,cls_kill,z256_def,z256_len,z256_drop,z256_ment,par_len,par_ment,Nat.mul_one,imp_ga,guard_pk,guard_pk2,↓hold_pre,awayP,runOps,regK,step1,newK,genR,appR,obl,buildR,Value.cells,closeK,keepH,outV,retK,ret1,retC,RetV,Option.getD,runD,stepD,afterK,undef,simprocAttr,sxB,↓sxD,sxE,sxTab]))
  exact ⟨256-(i+1),clsSt M wordB pathB (i+1),by omega,le_sub ⟨rfl,rfl,rfl,trivial⟩ ⟨rfl,rfl,trivial⟩ rfl rfl rfl (keepLt0 _),i+1,by omega,rfl,rfl⟩
 ·obtain rfl:i=256:=by omega
  have d1:decide (((256:Nat):Int)<256)=false:=by decide
  (replace hb0:=true_and True);refine Go1.mk ?_;repeat' ((first|(with_reducible refine Go1.go ?_)|((with_reducible first|refine brv_mk ?_ ?_|refine gsplitD ?_ ?_|refine gsplitG ?_ ?_)<;>intro h<;>(try simp only[Bool.not_eq_true',Bool.not_eq_false']at h)<;>replace hb0:=h)|((with_reducible refine isDraw [some 55,some 56,none,none] (by decide) ?_);refine draw_rule [(0,[]),(1,[0]),(2,[1]),(3,[])] [[],[],[0],[0,1,2]] [55,56] [] (by kernel_rfl) (by kernel_rfl) (by kernel_rfl) (by kernel_rfl) (by exact trivial) ?_)|(refine And.intro ?_ ?_;(try simp only[sxO]at *);omega)|fail)<;>(try simp (maxSteps:=1000000) only [hb0,clsSt,d1,par_all,cls_len,cls_take,cls_drop,cls_agg,cls_cellsG,cls_cellsA,cls_one,cls_ment,cls_kill,z256_def,z256_len,z256_drop,z256_ment,par_len,par_ment,Nat.mul_one,imp_ga,guard_pk,guard_pk2,↓hold_pre,awayP,runOps,regK,step1,newK,genR,appR,obl,buildR,Value.cells,closeK,keepH,outV,retK,ret1,retC,RetV,Option.getD,runD,stepD,afterK,undef,simprocAttr,sxB,↓sxD,sxE,sxTab]))
  exact hK
theorem digits_ok(hK:K (.ext (.tuple #[clsV digB,clsV hexB])) [] M):CallS Tryz.prog 91 [] [] M [] K:=by
 refine inlS (cs:=[]) Tryz.mixed Tryz.func91 rfl (by kernel_rfl) 0 rfl rfl ?_
 simp only[Tryz.f91]
 (replace hb0:=true_and True);refine Go1.mk ?_;repeat' ((first|(with_reducible refine Go1.go ?_)|((with_reducible first|refine brv_mk ?_ ?_|refine gsplitD ?_ ?_|refine gsplitG ?_ ?_)<;>intro h<;>(try simp only[Bool.not_eq_true',Bool.not_eq_false']at h)<;>replace hb0:=h)|((with_reducible refine isDraw [some 39,some 40,none,none] (by decide) ?_);refine draw_rule [(0,[]),(1,[0]),(2,[1]),(3,[])] [[],[],[0],[0,1,2]] [39,40] [] (by kernel_rfl) (by kernel_rfl) (by kernel_rfl) (by kernel_rfl) (by exact trivial) ?_)|(refine And.intro ?_ ?_;(try simp only[sxO]at *);omega)|fail)<;>(try simp (maxSteps:=1000000) only [hb0,cls_len,cls_take,cls_drop,cls_agg,cls_cellsG,cls_cellsA,cls_one,cls_ment,cls_kill,z256_def,z256_len,z256_drop,z256_ment,par_len,par_ment,Nat.mul_one,imp_ga,guard_pk,guard_pk2,↓hold_pre,awayP,runOps,regK,step1,newK,genR,appR,obl,buildR,Value.cells,closeK,keepH,outV,retK,ret1,retC,RetV,Option.getD,runD,stepD,afterK,undef,simprocAttr,sxB,↓sxD,sxE,sxTab]))
 refine ⟨fun m z=>∃i,i≤256∧m=256-i∧z=clsSt M digB hexB i,⟨256,clsSt M digB hexB 0,le_sub ⟨rfl,rfl,rfl,trivial⟩ ⟨by rw[par_zero];rfl,by rw[par_zero];rfl,trivial⟩ rfl rfl rfl (keepLt0 _),⟨0,by omega,rfl,rfl⟩⟩,?_⟩
 rintro m z ⟨i,hi,rfl,rfl⟩
 by_cases hlt:i<256
 ·have d1:decide ((i:Int)<256)=true:=by simp;omega
  have w1:=u8wrap hlt
  have a1:(0:Int)≤(i:Int):=by omega
  have a2:(i:Int)<256:=by omega
  have eN:(UInt8.ofNat i).toNat=i:=by simp;omega
  have s1:(parC digB i).set i (.ext (.bool (decide (48≤(i:Int))&&decide ((i:Int)≤57))))=parC digB (i+1):=par_set _ hlt _ (by
   rw[Bool.eq_iff_iff];simp only[digB,inR,eN,Bool.or_eq_true,Bool.and_eq_true,decide_eq_true_eq];omega)
  have s2:(parC digB (i+1))[i]? = some (.ext (.bool (digB (UInt8.ofNat i)))):=by rw[par_at _ hlt];simp
  have s3:(parC hexB i).set i (.ext (.bool (digB (UInt8.ofNat i) || decide (97≤(i:Int))&&decide ((i:Int)≤102) || decide (65≤(i:Int))&&decide ((i:Int)≤70))))=parC hexB (i+1):=par_set _ hlt _ (by
   rw[Bool.eq_iff_iff];simp only[hexB,inR,Bool.or_eq_true,Bool.and_eq_true,decide_eq_true_eq];rw[eN];generalize digB (UInt8.ofNat i)=x;cases x<;>simp<;>omega)
  have w2:IntKind.i64.wrap ((i:Int)+1)=((i+1:Nat):Int):=by rw[wrap_id (by omega) (by omega)];omega
  (replace hb0:=true_and True);refine Go1.mk ?_;repeat' ((first|(with_reducible refine Go1.go ?_)|((with_reducible first|refine brv_mk ?_ ?_|refine gsplitD ?_ ?_|refine gsplitG ?_ ?_)<;>intro h<;>(try simp only[Bool.not_eq_true',Bool.not_eq_false']at h)<;>replace hb0:=h)|((with_reducible refine isDraw [some 39,some 40,none,none] (by decide) ?_);refine draw_rule [(0,[]),(1,[0]),(2,[1]),(3,[])] [[],[],[0],[0,1,2]] [39,40] [] (by kernel_rfl) (by kernel_rfl) (by kernel_rfl) (by kernel_rfl) (by exact trivial) ?_)|(refine And.intro ?_ ?_;(try simp only[sxO]at *);omega)|fail)<;>(try simp (maxSteps:=1000000) only [hb0,clsSt,d1,w1,w2,a1,a2,s1,s2,s3,cls_len,cls_take,cls_drop,cls_agg,cls_cellsG,cls_cellsA,cls_one,cls_ment,cls_kill,z256_def,z256_len,z256_drop,z256_ment,par_len,par_ment,Nat.mul_one,imp_ga,guard_pk,guard_pk2,↓hold_pre,awayP,runOps,regK,step1,newK,genR,appR,obl,buildR,Value.cells,closeK,keepH,outV,retK,ret1,retC,RetV,Option.getD,runD,stepD,afterK,undef,simprocAttr,sxB,↓sxD,sxE,sxTab]))
  exact ⟨256-(i+1),clsSt M digB hexB (i+1),by omega,le_sub ⟨rfl,rfl,rfl,trivial⟩ ⟨rfl,rfl,trivial⟩ rfl rfl rfl (keepLt0 _),i+1,by omega,rfl,rfl⟩
 ·obtain rfl:i=256:=by omega
  have d1:decide (((256:Nat):Int)<256)=false:=by decide
  (replace hb0:=true_and True);refine Go1.mk ?_;repeat' ((first|(with_reducible refine Go1.go ?_)|((with_reducible first|refine brv_mk ?_ ?_|refine gsplitD ?_ ?_|refine gsplitG ?_ ?_)<;>intro h<;>(try simp only[Bool.not_eq_true',Bool.not_eq_false']at h)<;>replace hb0:=h)|((with_reducible refine isDraw [some 39,some 40,none,none] (by decide) ?_);refine draw_rule [(0,[]),(1,[0]),(2,[1]),(3,[])] [[],[],[0],[0,1,2]] [39,40] [] (by kernel_rfl) (by kernel_rfl) (by kernel_rfl) (by kernel_rfl) (by exact trivial) ?_)|(refine And.intro ?_ ?_;(try simp only[sxO]at *);omega)|fail)<;>(try simp (maxSteps:=1000000) only [hb0,clsSt,d1,par_all,cls_len,cls_take,cls_drop,cls_agg,cls_cellsG,cls_cellsA,cls_one,cls_ment,cls_kill,z256_def,z256_len,z256_drop,z256_ment,par_len,par_ment,Nat.mul_one,imp_ga,guard_pk,guard_pk2,↓hold_pre,awayP,runOps,regK,step1,newK,genR,appR,obl,buildR,Value.cells,closeK,keepH,outV,retK,ret1,retC,RetV,Option.getD,runD,stepD,afterK,undef,simprocAttr,sxB,↓sxD,sxE,sxTab]))
  exact hK
def runSt(M:Mem)(l:List UInt8)(p:UInt8→Bool)(i:Nat):St:={env:=[(5,.ext (.int .i64 (i:Int))),(3,.own 3 0),(0,.ext (.string (bs l)))],hp:=[(3,103,clsC p)],M:=M,kb:=0,fx:=[]}
theorem tw_len{p:UInt8→Bool}:∀{l:List UInt8} {i:Nat},i≤l.length→(∀j (h:j<l.length),j<i→p l[j]=true)→(∀h:i<l.length,p l[i]=false)→(l.takeWhile p).length=i
 | [],i,h,_,_=>by simp at h;simp[h]
 | b :: r,0,_,_,h3=>by have:=h3 (by simp);simp at this;simp[this]
 | b :: r,i+1,h1,h2,h3=>by
  have h0:=h2 0 (by simp) (by omega)
  simp only[List.getElem_cons_zero]at h0
  rw[List.takeWhile_cons_of_pos h0,List.length_cons,tw_len (l:=r) (i:=i) (by simp at h1;omega) (fun j hj hlt=>by have:=h2 (j+1) (by simp;omega) (by omega);simpa using this) (fun h=>by have:=h3 (by simp;omega);simpa using this)]
theorem getD_of{l:List UInt8}{i:Nat}(h:i<l.length):l.getD i 0=l[i]:=by simp[List.getD_eq_getElem?_getD,h]
theorem run_ok(l:List UInt8)(p:UInt8→Bool)(hl:l.length<1000000000)(hK:K (.ext (.int .i64 ((l.takeWhile p).length:Int))) [] M):CallS Tryz.prog 62 [.ext (.string (bs l)),.ext (clsV p)] [] M [] K:=by
 refine inlS (cs:=[]) Tryz.mixed Tryz.func62 rfl (by kernel_rfl) 0 rfl rfl ?_
 simp only[Tryz.f62]
 (replace hb0:=true_and True);refine Go1.mk ?_;repeat' ((first|(with_reducible refine Go1.go ?_)|((with_reducible first|refine brv_mk ?_ ?_|refine gsplitD ?_ ?_|refine gsplitG ?_ ?_)<;>intro h<;>(try simp only[Bool.not_eq_true',Bool.not_eq_false']at h)<;>replace hb0:=h)|(refine And.intro ?_ ?_;(try simp only[sxO]at *);omega)|fail)<;>(try simp (maxSteps:=1000000) only [hb0,cls_len,cls_take,cls_drop,cls_agg,cls_cellsG,cls_cellsA,cls_one,cls_ment,cls_kill,z256_def,z256_len,z256_drop,z256_ment,par_len,par_ment,Nat.mul_one,imp_ga,guard_pk,guard_pk2,↓hold_pre,awayP,runOps,regK,step1,newK,genR,appR,obl,buildR,Value.cells,closeK,keepH,outV,retK,ret1,retC,RetV,Option.getD,runD,stepD,afterK,undef,simprocAttr,sxB,↓sxD,sxE,sxTab]))
 refine ⟨fun m z=>∃i,i≤l.length∧(∀j (h:j<l.length),j<i→p l[j]=true)∧m=l.length-i∧z=runSt M l p i,⟨l.length,runSt M l p 0,le_sub ⟨rfl,rfl,rfl,trivial⟩ ⟨rfl,trivial⟩ rfl rfl rfl (keepLt0 _),⟨0,by omega,fun _ _ h=>by omega,rfl,rfl⟩⟩,?_⟩
 rintro m z ⟨i,hi,hpre,rfl,rfl⟩
 by_cases hlt:i<l.length
 ·have d1:decide ((i:Int)<(l.length:Int))=true:=by simp;omega
  have a1:(0:Int)≤(i:Int):=by omega
  have a2:(i:Int)<(l.length:Int):=by omega
  have g1:=getD_of hlt
  have c1:=cls_at p l[i]
  have a3:(0:Int)≤(l[i].toNat:Int):=by omega
  have a4:(l[i].toNat:Int)<256:=by have:=l[i].toNat_lt;omega
  have w2:IntKind.i64.wrap ((i:Int)+1)=((i+1:Nat):Int):=by rw[wrap_id (by omega) (by omega)];omega
  cases hp:p l[i] with
  | true=>
   rw[hp]at c1
   (replace hb0:=true_and True);refine Go1.mk ?_;repeat' ((first|(with_reducible refine Go1.go ?_)|((with_reducible first|refine brv_mk ?_ ?_|refine gsplitD ?_ ?_|refine gsplitG ?_ ?_)<;>intro h<;>(try simp only[Bool.not_eq_true',Bool.not_eq_false']at h)<;>replace hb0:=h)|(refine And.intro ?_ ?_;(try simp only[sxO]at *);omega)|fail)<;>(try simp (maxSteps:=1000000) only [hb0,runSt,d1,w2,a1,a2,a3,a4,g1,c1,cls_len,cls_take,cls_drop,cls_agg,cls_cellsG,cls_cellsA,cls_one,cls_ment,cls_kill,z256_def,z256_len,z256_drop,z256_ment,par_len,par_ment,Nat.mul_one,imp_ga,guard_pk,guard_pk2,bs_mk,bs_app,bs_ext,bs_size,bs_toList,bs_at,bs_cells,List.take_length,imp_ga,guard_pk,guard_pk2,↓hold_pre,awayP,runOps,regK,step1,newK,genR,appR,obl,buildR,Value.cells,closeK,keepH,outV,retK,ret1,retC,RetV,Option.getD,runD,stepD,afterK,undef,simprocAttr,sxB,↓sxD,sxE,sxTab]))
   exact ⟨l.length-(i+1),runSt M l p (i+1),by omega,le_sub ⟨rfl,rfl,rfl,trivial⟩ ⟨rfl,trivial⟩ rfl rfl rfl (keepLt0 _),i+1,by omega,fun j h hj=>by
    by_cases e:j=i
    ·subst e;exact hp
    ·exact hpre j h (by omega),rfl,rfl⟩
  | false=>
   rw[hp]at c1
   rw[tw_len hi hpre fun _=>hp]at hK
   (replace hb0:=true_and True);refine Go1.mk ?_;repeat' ((first|(with_reducible refine Go1.go ?_)|((with_reducible first|refine brv_mk ?_ ?_|refine gsplitD ?_ ?_|refine gsplitG ?_ ?_)<;>intro h<;>(try simp only[Bool.not_eq_true',Bool.not_eq_false']at h)<;>replace hb0:=h)|(refine And.intro ?_ ?_;(try simp only[sxO]at *);omega)|fail)<;>(try simp (maxSteps:=1000000) only [hb0,runSt,d1,w2,a1,a2,a3,a4,g1,c1,cls_len,cls_take,cls_drop,cls_agg,cls_cellsG,cls_cellsA,cls_one,cls_ment,cls_kill,z256_def,z256_len,z256_drop,z256_ment,par_len,par_ment,Nat.mul_one,imp_ga,guard_pk,guard_pk2,bs_mk,bs_app,bs_ext,bs_size,bs_toList,bs_at,bs_cells,List.take_length,imp_ga,guard_pk,guard_pk2,↓hold_pre,awayP,runOps,regK,step1,newK,genR,appR,obl,buildR,Value.cells,closeK,keepH,outV,retK,ret1,retC,RetV,Option.getD,runD,stepD,afterK,undef,simprocAttr,sxB,↓sxD,sxE,sxTab]))
   exact hK
 ·obtain rfl:i=l.length:=by omega
  have d1:decide ((l.length:Int)<(l.length:Int))=false:=by simp
  rw[tw_len (Nat.le_refl _) hpre fun h=>absurd h hlt]at hK
  have c0:=cls_at p (l.getD l.length 0)
  (replace hb0:=true_and True);refine Go1.mk ?_;repeat' ((first|(with_reducible refine Go1.go ?_)|((with_reducible first|refine brv_mk ?_ ?_|refine gsplitD ?_ ?_|refine gsplitG ?_ ?_)<;>intro h<;>(try simp only[Bool.not_eq_true',Bool.not_eq_false']at h)<;>replace hb0:=h)|(refine And.intro ?_ ?_;(try simp only[sxO]at *);omega)|fail)<;>(try simp (maxSteps:=1000000) only [hb0,runSt,d1,c0,cls_len,cls_take,cls_drop,cls_agg,cls_cellsG,cls_cellsA,cls_one,cls_ment,cls_kill,z256_def,z256_len,z256_drop,z256_ment,par_len,par_ment,Nat.mul_one,imp_ga,guard_pk,guard_pk2,bs_mk,bs_app,bs_ext,bs_size,bs_toList,bs_at,bs_cells,List.take_length,imp_ga,guard_pk,guard_pk2,↓hold_pre,awayP,runOps,regK,step1,newK,genR,appR,obl,buildR,Value.cells,closeK,keepH,outV,retK,ret1,retC,RetV,Option.getD,runD,stepD,afterK,undef,simprocAttr,sxB,↓sxD,sxE,sxTab]))
  exact hK
def allSt(M:Mem)(l:List UInt8)(p:UInt8→Bool)(i:Nat):St:={env:=[(8,.ext (.int .i64 (i:Int))),(7,.ext (.int .i64 (l.length:Int))),(3,.own 3 0),(0,.ext (.string (bs l)))],hp:=[(3,103,clsC p)],M:=M,kb:=0,fx:=[]}
theorem allB_ok(l:List UInt8)(p:UInt8→Bool)(hl:l.length<1000000000)(hK:K (.ext (.bool (l.all p))) [] M):CallS Tryz.prog 92 [.ext (.string (bs l)),.ext (clsV p)] [] M [] K:=by
 refine inlS (cs:=[]) Tryz.mixed Tryz.func92 rfl (by kernel_rfl) 0 rfl rfl ?_
 simp only[Tryz.f92]
 (replace hb0:=true_and True);refine Go1.mk ?_;repeat' ((first|(with_reducible refine Go1.go ?_)|((with_reducible first|refine brv_mk ?_ ?_|refine gsplitD ?_ ?_|refine gsplitG ?_ ?_)<;>intro h<;>(try simp only[Bool.not_eq_true',Bool.not_eq_false']at h)<;>replace hb0:=h)|(refine And.intro ?_ ?_;(try simp only[sxO]at *);omega)|fail)<;>(try simp (maxSteps:=1000000) only [hb0,cls_len,cls_take,cls_drop,cls_agg,cls_cellsG,cls_cellsA,cls_one,cls_ment,cls_kill,z256_def,z256_len,z256_drop,z256_ment,par_len,par_ment,Nat.mul_one,imp_ga,guard_pk,guard_pk2,bs_mk,bs_app,bs_ext,bs_size,bs_toList,bs_at,bs_cells,List.take_length,imp_ga,guard_pk,guard_pk2,↓hold_pre,awayP,runOps,regK,step1,newK,genR,appR,obl,buildR,Value.cells,closeK,keepH,outV,retK,ret1,retC,RetV,Option.getD,runD,stepD,afterK,undef,simprocAttr,sxB,↓sxD,sxE,sxTab]))
 refine ⟨fun m z=>∃i,i≤l.length∧(∀j (h:j<l.length),j<i→p l[j]=true)∧m=l.length-i∧z=allSt M l p i,⟨l.length,allSt M l p 0,le_sub ⟨rfl,rfl,rfl,rfl,trivial⟩ ⟨rfl,trivial⟩ rfl rfl rfl (keepLt0 _),⟨0,by omega,fun _ _ h=>by omega,rfl,rfl⟩⟩,?_⟩
 rintro m z ⟨i,hi,hpre,rfl,rfl⟩
 by_cases hlt:i<l.length
 ·have d1:decide ((i:Int)<(l.length:Int))=true:=by simp;omega
  have a1:(0:Int)≤(i:Int):=by omega
  have a2:(i:Int)<(l.length:Int):=by omega
  have g1:=getD_of hlt
  have c1:=cls_at p l[i]
  have a3:(0:Int)≤(l[i].toNat:Int):=by omega
  have a4:(l[i].toNat:Int)<256:=by have:=l[i].toNat_lt;omega
  have w2:IntKind.i64.wrap ((i:Int)+1)=((i+1:Nat):Int):=by rw[wrap_id (by omega) (by omega)];omega
  cases hp:p l[i] with
  | true=>
   rw[hp]at c1
   (replace hb0:=true_and True);refine Go1.mk ?_;repeat' ((first|(with_reducible refine Go1.go ?_)|((with_reducible first|refine brv_mk ?_ ?_|refine gsplitD ?_ ?_|refine gsplitG ?_ ?_)<;>intro h<;>(try simp only[Bool.not_eq_true',Bool.not_eq_false']at h)<;>replace hb0:=h)|(refine And.intro ?_ ?_;(try simp only[sxO]at *);omega)|fail)<;>(try simp (maxSteps:=1000000) only [hb0,allSt,d1,w2,a1,a2,a3,a4,g1,c1,cls_len,cls_take,cls_drop,cls_agg,cls_cellsG,cls_cellsA,cls_one,cls_ment,cls_kill,z256_def,z256_len,z256_drop,z256_ment,par_len,par_ment,Nat.mul_one,imp_ga,guard_pk,guard_pk2,bs_mk,bs_app,bs_ext,bs_size,bs_toList,bs_at,bs_cells,List.take_length,imp_ga,guard_pk,guard_pk2,↓hold_pre,awayP,runOps,regK,step1,newK,genR,appR,obl,buildR,Value.cells,closeK,keepH,outV,retK,ret1,retC,RetV,Option.getD,runD,stepD,afterK,undef,simprocAttr,sxB,↓sxD,sxE,sxTab]))
   exact ⟨l.length-(i+1),allSt M l p (i+1),by omega,le_sub ⟨rfl,rfl,rfl,rfl,trivial⟩ ⟨rfl,trivial⟩ rfl rfl rfl (keepLt0 _),i+1,by omega,fun j h hj=>by
    by_cases e:j=i
    ·subst e;exact hp
    ·exact hpre j h (by omega),rfl,rfl⟩
  | false=>
   rw[hp]at c1
   have e:l.all p=false:=by
    rw[List.all_eq_false]
    exact ⟨l[i],List.getElem_mem hlt,by simp[hp]⟩
   rw[e]at hK
   (replace hb0:=true_and True);refine Go1.mk ?_;repeat' ((first|(with_reducible refine Go1.go ?_)|((with_reducible first|refine brv_mk ?_ ?_|refine gsplitD ?_ ?_|refine gsplitG ?_ ?_)<;>intro h<;>(try simp only[Bool.not_eq_true',Bool.not_eq_false']at h)<;>replace hb0:=h)|(refine And.intro ?_ ?_;(try simp only[sxO]at *);omega)|fail)<;>(try simp (maxSteps:=1000000) only [hb0,allSt,d1,w2,a1,a2,a3,a4,g1,c1,cls_len,cls_take,cls_drop,cls_agg,cls_cellsG,cls_cellsA,cls_one,cls_ment,cls_kill,z256_def,z256_len,z256_drop,z256_ment,par_len,par_ment,Nat.mul_one,imp_ga,guard_pk,guard_pk2,bs_mk,bs_app,bs_ext,bs_size,bs_toList,bs_at,bs_cells,List.take_length,imp_ga,guard_pk,guard_pk2,↓hold_pre,awayP,runOps,regK,step1,newK,genR,appR,obl,buildR,Value.cells,closeK,keepH,outV,retK,ret1,retC,RetV,Option.getD,runD,stepD,afterK,undef,simprocAttr,sxB,↓sxD,sxE,sxTab]))
   exact hK
 ·obtain rfl:i=l.length:=by omega
  have d1:decide ((l.length:Int)<(l.length:Int))=false:=by simp
  have e:l.all p=true:=by
   rw[List.all_eq_true]
   intro x hx
   obtain ⟨j,hj,rfl⟩:=List.mem_iff_getElem.1 hx
   exact hpre j hj hj
  rw[e]at hK
  (replace hb0:=true_and True);refine Go1.mk ?_;repeat' ((first|(with_reducible refine Go1.go ?_)|((with_reducible first|refine brv_mk ?_ ?_|refine gsplitD ?_ ?_|refine gsplitG ?_ ?_)<;>intro h<;>(try simp only[Bool.not_eq_true',Bool.not_eq_false']at h)<;>replace hb0:=h)|(refine And.intro ?_ ?_;(try simp only[sxO]at *);omega)|fail)<;>(try simp (maxSteps:=1000000) only [hb0,allSt,d1,cls_len,cls_take,cls_drop,cls_agg,cls_cellsG,cls_cellsA,cls_one,cls_ment,cls_kill,z256_def,z256_len,z256_drop,z256_ment,par_len,par_ment,Nat.mul_one,imp_ga,guard_pk,guard_pk2,bs_mk,bs_app,bs_ext,bs_size,bs_toList,bs_at,bs_cells,List.take_length,imp_ga,guard_pk,guard_pk2,↓hold_pre,awayP,runOps,regK,step1,newK,genR,appR,obl,buildR,Value.cells,closeK,keepH,outV,retK,ret1,retC,RetV,Option.getD,runD,stepD,afterK,undef,simprocAttr,sxB,↓sxD,sxE,sxTab]))
  exact hK
end
end Go.Proofs.YtoblkpomikokhaaGreat.Sx
namespace Go.Proofs
open Go.Shelf
def Tryz.lays119_ren:Go.Shelf.Ren:=⟨fun|119=>101|n=>n,fun|21=>21|4=>4|n=>n,fun|n=>n⟩
theorem Tryz.lays119:Go.Proofs.Lays.n119 Tryz.prog Tryz.lays119_ren:={
 mixed:=by kernel_rfl
 f119:=Tryz.func101.trans (congrArg some (by kernel_rfl))
 t4:=Tryz.underlying4
 a4:=Tryz.isAgg4
 z4:=Tryz.sizeOf4
 v4:=Tryz.zeroValue4
 t21:=Tryz.underlying21
 a21:=Tryz.isAgg21
 z21:=Tryz.sizeOf21
 v21:=Tryz.zeroValue21}
theorem Tryz.utf8_ValidRune(r:Int)(w:World) :
  Calls Tryz.prog 101 #[.int .i32 r] w fun e w'=>e=.returned (.bool (Lib.validRune r))∧w'=w:=Any.utf8_ValidRune Tryz.lays119 r w
def Tryz.lays106_ren:Go.Shelf.Ren:=⟨fun|106=>68|213=>79|265=>94|n=>n,fun|9=>9|3=>3|n=>n,fun|n=>n⟩
theorem Tryz.lays106:Go.Proofs.Lays.n106 Tryz.prog Tryz.lays106_ren:={
 mixed:=by kernel_rfl
 f106:=Tryz.func68.trans (congrArg some (by kernel_rfl))
 f213:=Tryz.func79.trans (congrArg some (by kernel_rfl))
 f265:=Tryz.func94.trans (congrArg some (by kernel_rfl))
 t3:=Tryz.underlying3
 a3:=Tryz.isAgg3
 z3:=Tryz.sizeOf3
 v3:=Tryz.zeroValue3
 t9:=Tryz.underlying9
 a9:=Tryz.isAgg9
 z9:=Tryz.sizeOf9
 v9:=Tryz.zeroValue9}
open Go.RowKit in
theorem Tryz.strings_Compare(a b:ByteArray)(w:World) :
  Calls Tryz.prog 68 #[.string a,.string b] w fun e w'=>e=.returned (.int .i64 (Lib.compareBytes a.data.toList b.data.toList))∧w'=w:=Any.strings_Compare Tryz.lays106 a b w
def Tryz.lays137_ren:Go.Shelf.Ren:=⟨fun|137=>81|217=>95|266=>102|n=>n,fun|9=>9|5=>5|3=>3|n=>n,fun|n=>n⟩
theorem Tryz.lays137:Go.Proofs.Lays.n137 Tryz.prog Tryz.lays137_ren:={
 mixed:=by kernel_rfl
 f137:=Tryz.func81.trans (congrArg some (by kernel_rfl))
 f217:=Tryz.func95.trans (congrArg some (by kernel_rfl))
 f266:=Tryz.func102.trans (congrArg some (by kernel_rfl))
 t3:=Tryz.underlying3
 a3:=Tryz.isAgg3
 z3:=Tryz.sizeOf3
 v3:=Tryz.zeroValue3
 t5:=Tryz.underlying5
 a5:=Tryz.isAgg5
 z5:=Tryz.sizeOf5
 v5:=Tryz.zeroValue5
 t9:=Tryz.underlying9
 a9:=Tryz.isAgg9
 z9:=Tryz.sizeOf9
 v9:=Tryz.zeroValue9}
open Go.RowKit in
theorem Tryz.strings_IndexByte(s:ByteArray)(c:Int)(w:World) :
  Calls Tryz.prog 81 #[.string s,.int .u8 c] w fun e w'=>e=.returned (.int .i64 (Lib.indexByte s.data.toList c.toNat.toUInt8))∧w'=w:=Any.strings_IndexByte Tryz.lays137 s c w
def Tryz.lays143_ren:Go.Shelf.Ren:=⟨fun|143=>69|219=>80|217=>95|225=>96|224=>97|267=>98|266=>102|314=>103|n=>n,fun|9=>9|3=>3|4=>4|5=>5|46=>128|146=>130|51=>129|n=>n,fun|1=>0|n=>n⟩
theorem Tryz.lays143:Go.Proofs.Lays.n143 Tryz.prog Tryz.lays143_ren:={
 mixed:=by kernel_rfl
 f143:=Tryz.func69.trans (congrArg some (by kernel_rfl))
 f217:=Tryz.func95.trans (congrArg some (by kernel_rfl))
 f219:=Tryz.func80.trans (congrArg some (by kernel_rfl))
 f224:=Tryz.func97.trans (congrArg some (by kernel_rfl))
 f225:=Tryz.func96.trans (congrArg some (by kernel_rfl))
 f266:=Tryz.func102.trans (congrArg some (by kernel_rfl))
 f267:=Tryz.func98.trans (congrArg some (by kernel_rfl))
 f314:=Tryz.func103.trans (congrArg some (by kernel_rfl))
 t3:=Tryz.underlying3
 a3:=Tryz.isAgg3
 z3:=Tryz.sizeOf3
 v3:=Tryz.zeroValue3
 t4:=Tryz.underlying4
 a4:=Tryz.isAgg4
 z4:=Tryz.sizeOf4
 v4:=Tryz.zeroValue4
 t5:=Tryz.underlying5
 a5:=Tryz.isAgg5
 z5:=Tryz.sizeOf5
 v5:=Tryz.zeroValue5
 t9:=Tryz.underlying9
 a9:=Tryz.isAgg9
 z9:=Tryz.sizeOf9
 v9:=Tryz.zeroValue9
 t46:=Tryz.underlying128
 a46:=Tryz.isAgg128
 z46:=Tryz.sizeOf128
 v46:=Tryz.zeroValue128
 t51:=Tryz.underlying129
 a51:=Tryz.isAgg129
 z51:=Tryz.sizeOf129
 v51:=Tryz.zeroValue129
 t146:=Tryz.underlying130
 a146:=Tryz.isAgg130
 z146:=Tryz.sizeOf130
 v146:=Tryz.zeroValue130
 g1:=by kernel_rfl}
open Go.RowKit Go.Lib in
theorem Tryz.strings_Index_one(s:ByteArray)(c:UInt8)(w:World) :
  Calls Tryz.prog 69 #[.string s,.string ⟨#[c]⟩] w fun e w'=>e=.returned (.int .i64 (Lib.indexByte s.data.toList c))∧w'=w:=Any.strings_Index_one Tryz.lays143 s c w
def Tryz.lays149_ren:Go.Shelf.Ren:=⟨fun|149=>77|222=>83|n=>n,fun|9=>9|5=>5|3=>3|4=>4|n=>n,fun|n=>n⟩
theorem Tryz.lays149:Go.Proofs.Lays.n149 Tryz.prog Tryz.lays149_ren:={
 mixed:=by kernel_rfl
 f149:=Tryz.func77.trans (congrArg some (by kernel_rfl))
 f222:=Tryz.func83.trans (congrArg some (by kernel_rfl))
 t3:=Tryz.underlying3
 a3:=Tryz.isAgg3
 z3:=Tryz.sizeOf3
 v3:=Tryz.zeroValue3
 t4:=Tryz.underlying4
 a4:=Tryz.isAgg4
 z4:=Tryz.sizeOf4
 v4:=Tryz.zeroValue4
 t5:=Tryz.underlying5
 a5:=Tryz.isAgg5
 z5:=Tryz.sizeOf5
 v5:=Tryz.zeroValue5
 t9:=Tryz.underlying9
 a9:=Tryz.isAgg9
 z9:=Tryz.sizeOf9
 v9:=Tryz.zeroValue9}
open Go.RowKit Go.Lib in
theorem Tryz.strings_LastIndexByte(s:ByteArray)(c:Int)(hs:s.size<4611686018427387904)(w:World) :
  Calls Tryz.prog 77 #[.string s,.int .u8 c] w fun e w'=>e=.returned (.int .i64 (Lib.lastIndexByte s c))∧w'=w:=Any.strings_LastIndexByte Tryz.lays149 s c hs w
def Tryz.lays148_ren:Go.Shelf.Ren:=⟨fun|148=>72|222=>83|223=>84|269=>100|n=>n,fun|9=>9|3=>3|4=>4|5=>5|146=>130|51=>129|46=>128|n=>n,fun|n=>n⟩
theorem Tryz.lays148:Go.Proofs.Lays.n148 Tryz.prog Tryz.lays148_ren:={
 mixed:=by kernel_rfl
 f148:=Tryz.func72.trans (congrArg some (by kernel_rfl))
 f222:=Tryz.func83.trans (congrArg some (by kernel_rfl))
 f223:=Tryz.func84.trans (congrArg some (by kernel_rfl))
 f269:=Tryz.func100.trans (congrArg some (by kernel_rfl))
 t3:=Tryz.underlying3
 a3:=Tryz.isAgg3
 z3:=Tryz.sizeOf3
 v3:=Tryz.zeroValue3
 t4:=Tryz.underlying4
 a4:=Tryz.isAgg4
 z4:=Tryz.sizeOf4
 v4:=Tryz.zeroValue4
 t5:=Tryz.underlying5
 a5:=Tryz.isAgg5
 z5:=Tryz.sizeOf5
 v5:=Tryz.zeroValue5
 t9:=Tryz.underlying9
 a9:=Tryz.isAgg9
 z9:=Tryz.sizeOf9
 v9:=Tryz.zeroValue9
 t46:=Tryz.underlying128
 a46:=Tryz.isAgg128
 z46:=Tryz.sizeOf128
 v46:=Tryz.zeroValue128
 t51:=Tryz.underlying129
 a51:=Tryz.isAgg129
 z51:=Tryz.sizeOf129
 v51:=Tryz.zeroValue129
 t146:=Tryz.underlying130
 a146:=Tryz.isAgg130
 z146:=Tryz.sizeOf130
 v146:=Tryz.zeroValue130}
open Go.RowKit Go.Lib in
theorem Tryz.strings_LastIndex_one(s sub:ByteArray)(h1:sub.size=1)(hs:s.size<4611686018427387904)(w:World) :
  Calls Tryz.prog 72 #[.string s,.string sub] w fun e w'=>e=.returned (.int .i64 (Lib.lastIndexByte s ((sub[0]'(by omega)).toNat:Int)))∧w'=w:=Any.strings_LastIndex_one Tryz.lays148 s sub h1 hs w
def Tryz.lays152_ren:Go.Shelf.Ren:=⟨fun|152=>86|137=>81|119=>101|224=>97|225=>96|217=>95|266=>102|n=>n,fun|9=>9|21=>21|3=>3|4=>4|5=>5|0=>0|46=>128|n=>n,fun|n=>n⟩
theorem Tryz.lays152:Go.Proofs.Lays.n152 Tryz.prog Tryz.lays152_ren:={
 mixed:=by kernel_rfl
 f119:=Tryz.func101.trans (congrArg some (by kernel_rfl))
 f137:=Tryz.func81.trans (congrArg some (by kernel_rfl))
 f152:=Tryz.func86.trans (congrArg some (by kernel_rfl))
 f217:=Tryz.func95.trans (congrArg some (by kernel_rfl))
 f224:=Tryz.func97.trans (congrArg some (by kernel_rfl))
 f225:=Tryz.func96.trans (congrArg some (by kernel_rfl))
 f266:=Tryz.func102.trans (congrArg some (by kernel_rfl))
 t0:=Tryz.underlying0
 a0:=Tryz.isAgg0
 z0:=Tryz.sizeOf0
 v0:=Tryz.zeroValue0
 t3:=Tryz.underlying3
 a3:=Tryz.isAgg3
 z3:=Tryz.sizeOf3
 v3:=Tryz.zeroValue3
 t4:=Tryz.underlying4
 a4:=Tryz.isAgg4
 z4:=Tryz.sizeOf4
 v4:=Tryz.zeroValue4
 t5:=Tryz.underlying5
 a5:=Tryz.isAgg5
 z5:=Tryz.sizeOf5
 v5:=Tryz.zeroValue5
 t9:=Tryz.underlying9
 a9:=Tryz.isAgg9
 z9:=Tryz.sizeOf9
 v9:=Tryz.zeroValue9
 t21:=Tryz.underlying21
 a21:=Tryz.isAgg21
 z21:=Tryz.sizeOf21
 v21:=Tryz.zeroValue21
 t46:=Tryz.underlying128
 a46:=Tryz.isAgg128
 z46:=Tryz.sizeOf128
 v46:=Tryz.zeroValue128}
open Go.RowKit Go.Lib in
theorem Tryz.strings_IndexRune_ascii(s:ByteArray)(r:Int)(w:World)(h0:0≤r)(h1:r<128) :
  Calls Tryz.prog 86 #[.string s,.int .i32 r] w fun e w'=>e=.returned (.int .i64 (Lib.indexByte s.data.toList r.toNat.toUInt8))∧w'=w:=Any.strings_IndexRune_ascii Tryz.lays152 s r w h0 h1
def Tryz.lays226_ren:Go.Shelf.Ren:=⟨fun|226=>87|n=>n,fun|3=>3|4=>4|n=>n,fun|n=>n⟩
theorem Tryz.lays226:Go.Proofs.Lays.n226 Tryz.prog Tryz.lays226_ren:={
 mixed:=by kernel_rfl
 f226:=Tryz.func87.trans (congrArg some (by kernel_rfl))
 t3:=Tryz.underlying3
 a3:=Tryz.isAgg3
 z3:=Tryz.sizeOf3
 v3:=Tryz.zeroValue3
 t4:=Tryz.underlying4
 a4:=Tryz.isAgg4
 z4:=Tryz.sizeOf4
 v4:=Tryz.zeroValue4}
open Go.RowKit Go.Lib in
theorem Tryz.strings_shouldUseASCIISet(n:Int)(w:World) :
  Calls Tryz.prog 87 #[.int .i64 n] w fun e w'=>e=.returned (.bool (decide (8<n)))∧w'=w:=Any.strings_shouldUseASCIISet Tryz.lays226 n w
def Tryz.lays153_ren:Go.Shelf.Ren:=⟨fun|153=>74|152=>86|226=>87|227=>88|228=>89|137=>81|119=>101|224=>97|225=>96|217=>95|266=>102|n=>n,fun|9=>9|3=>3|4=>4|5=>5|21=>21|117=>121|116=>120|0=>0|46=>128|124=>133|n=>n,fun|n=>n⟩
theorem Tryz.lays153:Go.Proofs.Lays.n153 Tryz.prog Tryz.lays153_ren:={
 mixed:=by kernel_rfl
 f119:=Tryz.func101.trans (congrArg some (by kernel_rfl))
 f137:=Tryz.func81.trans (congrArg some (by kernel_rfl))
 f152:=Tryz.func86.trans (congrArg some (by kernel_rfl))
 f153:=Tryz.func74.trans (congrArg some (by kernel_rfl))
 f217:=Tryz.func95.trans (congrArg some (by kernel_rfl))
 f224:=Tryz.func97.trans (congrArg some (by kernel_rfl))
 f225:=Tryz.func96.trans (congrArg some (by kernel_rfl))
 f226:=Tryz.func87.trans (congrArg some (by kernel_rfl))
 f227:=Tryz.func88.trans (congrArg some (by kernel_rfl))
 f228:=Tryz.func89.trans (congrArg some (by kernel_rfl))
 f266:=Tryz.func102.trans (congrArg some (by kernel_rfl))
 t0:=Tryz.underlying0
 a0:=Tryz.isAgg0
 z0:=Tryz.sizeOf0
 v0:=Tryz.zeroValue0
 t3:=Tryz.underlying3
 a3:=Tryz.isAgg3
 z3:=Tryz.sizeOf3
 v3:=Tryz.zeroValue3
 t4:=Tryz.underlying4
 a4:=Tryz.isAgg4
 z4:=Tryz.sizeOf4
 v4:=Tryz.zeroValue4
 t5:=Tryz.underlying5
 a5:=Tryz.isAgg5
 z5:=Tryz.sizeOf5
 v5:=Tryz.zeroValue5
 t9:=Tryz.underlying9
 a9:=Tryz.isAgg9
 z9:=Tryz.sizeOf9
 v9:=Tryz.zeroValue9
 t21:=Tryz.underlying21
 a21:=Tryz.isAgg21
 z21:=Tryz.sizeOf21
 v21:=Tryz.zeroValue21
 t46:=Tryz.underlying128
 a46:=Tryz.isAgg128
 z46:=Tryz.sizeOf128
 v46:=Tryz.zeroValue128
 t116:=Tryz.underlying120
 a116:=Tryz.isAgg120
 z116:=Tryz.sizeOf120
 t117:=Tryz.underlying121
 a117:=Tryz.isAgg121
 z117:=Tryz.sizeOf121
 v117:=Tryz.zeroValue121
 t124:=Tryz.underlying133
 a124:=Tryz.isAgg133
 z124:=Tryz.sizeOf133
 v124:=Tryz.zeroValue133}
open Go.RowKit Go.Lib in
theorem Tryz.strings_IndexAny_long(hv116:∀w,(zeroValue 120).run Tryz.prog w=.ok (.agg (Array.replicate 256 (.bool false))) w)(s chars:ByteArray)(w:World)(h2:2≤chars.size)(h8:8<s.size)(hs:s.size<4294967281)(hcs:chars.size<4294967281)(hascii:∀(j:Nat) b,chars.data.toList[j]? = some b→b.toNat<128) :
  Calls Tryz.prog 74 #[.string s,.string chars] w fun e w'=>e=.returned (.int .i64 (Lib.indexAny s.data.toList chars.data.toList))∧w'=((w.alloc (.cells (Lib.setCells chars.data.toList) 120)).alloc (.cells (Lib.setCells chars.data.toList) 120)):=Any.strings_IndexAny_long Tryz.lays153 hv116 (by kernel_rfl) s chars w h2 h8 hs hcs hascii
def Tryz.lays150_ren:Go.Shelf.Ren:=⟨fun|150=>93|153=>74|152=>86|226=>87|227=>88|228=>89|137=>81|119=>101|224=>97|225=>96|217=>95|266=>102|n=>n,fun|9=>9|4=>4|3=>3|5=>5|21=>21|117=>121|116=>120|0=>0|46=>128|124=>133|n=>n,fun|n=>n⟩
theorem Tryz.lays150:Go.Proofs.Lays.n150 Tryz.prog Tryz.lays150_ren:={
 mixed:=by kernel_rfl
 f119:=Tryz.func101.trans (congrArg some (by kernel_rfl))
 f137:=Tryz.func81.trans (congrArg some (by kernel_rfl))
 f150:=Tryz.func93.trans (congrArg some (by kernel_rfl))
 f152:=Tryz.func86.trans (congrArg some (by kernel_rfl))
 f153:=Tryz.func74.trans (congrArg some (by kernel_rfl))
 f217:=Tryz.func95.trans (congrArg some (by kernel_rfl))
 f224:=Tryz.func97.trans (congrArg some (by kernel_rfl))
 f225:=Tryz.func96.trans (congrArg some (by kernel_rfl))
 f226:=Tryz.func87.trans (congrArg some (by kernel_rfl))
 f227:=Tryz.func88.trans (congrArg some (by kernel_rfl))
 f228:=Tryz.func89.trans (congrArg some (by kernel_rfl))
 f266:=Tryz.func102.trans (congrArg some (by kernel_rfl))
 t0:=Tryz.underlying0
 a0:=Tryz.isAgg0
 z0:=Tryz.sizeOf0
 v0:=Tryz.zeroValue0
 t3:=Tryz.underlying3
 a3:=Tryz.isAgg3
 z3:=Tryz.sizeOf3
 v3:=Tryz.zeroValue3
 t4:=Tryz.underlying4
 a4:=Tryz.isAgg4
 z4:=Tryz.sizeOf4
 v4:=Tryz.zeroValue4
 t5:=Tryz.underlying5
 a5:=Tryz.isAgg5
 z5:=Tryz.sizeOf5
 v5:=Tryz.zeroValue5
 t9:=Tryz.underlying9
 a9:=Tryz.isAgg9
 z9:=Tryz.sizeOf9
 v9:=Tryz.zeroValue9
 t21:=Tryz.underlying21
 a21:=Tryz.isAgg21
 z21:=Tryz.sizeOf21
 v21:=Tryz.zeroValue21
 t46:=Tryz.underlying128
 a46:=Tryz.isAgg128
 z46:=Tryz.sizeOf128
 v46:=Tryz.zeroValue128
 t116:=Tryz.underlying120
 a116:=Tryz.isAgg120
 z116:=Tryz.sizeOf120
 t117:=Tryz.underlying121
 a117:=Tryz.isAgg121
 z117:=Tryz.sizeOf121
 v117:=Tryz.zeroValue121
 t124:=Tryz.underlying133
 a124:=Tryz.isAgg133
 z124:=Tryz.sizeOf133
 v124:=Tryz.zeroValue133}
open Go.RowKit Go.Lib in
theorem Tryz.strings_ContainsAny_laid(s chars:ByteArray)(w:World)(hs:s.size<4294967281)(hcs:chars.size<4294967281)(has:∀(j:Nat) b,s.data.toList[j]? = some b→b.toNat<128)(hac:∀(j:Nat) b,chars.data.toList[j]? = some b→b.toNat<128) :
  Calls Tryz.prog 93 #[.string s,.string chars] w fun e w'=>e=.returned (.bool (Lib.containsAny s.data.toList chars.data.toList))∧Below w.heap.size w w':=Any.strings_ContainsAny_laid Tryz.lays150 (by kernel_rfl) s chars w hs hcs has hac
end Go.Proofs
namespace Go.Proofs.YtoblkpomikokhaaGreat.Sx
open Go Go.RowKit
set_option linter.unusedVariables false
set_option linter.unusedSimpArgs false
set_option maxRecDepth 100000
set_option maxHeartbeats 8000000
attribute [local congr] fin_congr finG_congr stepG_congr step1_congr runOps_congr brv_congr obl_congr condK_congr LoopK_congr seqK_congr CutK_congr vc_congr DrawK_congr regK_congr CallK_congr AskK_congr newK_congr retC_congr ret1_congr retK_congr outV_congr closeK_congr genR_congr appR_congr finD_congr finGD_congr stepGD_congr stepD_congr CallK0_congr runD_congr okR_congr CallS_congr vcX_congr
theorem Gam.noM{c:Cx}{n:Nat}{s:St}{ρ:Rho}{a:Act}{w:World}(g:Gam c n s ρ a w):s.M w.heap.size=none:=by
 cases hm:s.M w.heap.size with
 | none=>rfl
 | some o'=>
  have:=g.sub _ _ hm
  rw[Array.getElem?_eq_none (Nat.le_refl _)]at this
  cases this
theorem ask_range{P:Program}{s:St}{K:St→Prop}{o:Oper}{t:TypeId}{x:Operand}{v:ByteArray}(hop:o.op=.range t x)(ht:P.underlying t=some .string)(hx:ev s x=.ext (.string v))(hK:∀b,s.M b=none→K (({s with M:=updM s.M b (.stringIter v 0),fr:=b :: s.fr}:St).put o.dst (.ext (.pointer (some ⟨b,0,none⟩))))):AskK P o s K:=by
 intro c n a w Q hg hd
 obtain ⟨ρ,g⟩:=hg
 have ex:a.eval x=.string v:=by have:=g.ev x;rw[hx]at this;exact this
 have hrun:(Instr.range t (.string v)).run P w=.ok (.pointer (some ⟨w.heap.size,0,none⟩)) (w.alloc (.stringIter v 0)):=run_range_string w t v ht
 unfold Oper.wp
 simp[execOp,hop,ex,hrun,Result.andThen]
 exact ⟨_,hK w.heap.size g.noM,ρ,(g.newM _).put rfl hd⟩
theorem run_next_in(P:Program)(w:World)(b:Nat)(v:ByteArray)(pos:Nat)(ty:TypeId)(hb:w.heap[b]? = some (.stringIter v pos))(h:pos<v.size) :
  (Instr.next (.pointer (some ⟨b,0,none⟩)) true ty).run P w=.ok (.tuple #[.bool true,.int .i64 pos,.int .i32 (Utf8.decode v pos).1]) {w with heap:=w.heap.setIfInBounds b (.stringIter v (pos+(Utf8.decode v pos).2))}:=by
 have hlt:b<w.heap.size:=(Array.getElem?_eq_some_iff.1 hb).1
 simp only[Instr.next,getObj,setObj,Sem.run_bind,Sem.run,hb,Result.andThen,h,if_true]
 simp[goInt,hlt]
theorem run_next_out(P:Program)(w:World)(b:Nat)(v:ByteArray)(pos:Nat)(ty:TypeId)(hb:w.heap[b]? = some (.stringIter v pos))(h:¬pos<v.size) :
  (Instr.next (.pointer (some ⟨b,0,none⟩)) true ty).run P w=.ok (.tuple #[.bool false]) w:=by
 simp only[Instr.next,getObj,setObj,Sem.run_bind,Sem.run,hb,Result.andThen,h,if_false]
 simp
theorem ask_next{P:Program}{s:St}{K:St→Prop}{o:Oper}{x:Operand}{b pos:Nat}{v:ByteArray}(hop:o.op=.next x true)(hx:ev s x=.ext (.pointer (some ⟨b,0,none⟩)))(hfr:b∈s.fr)(hM:s.M b=some (.stringIter v pos))(hp:pos<v.size)
  (hK:K (({s with M:=updM s.M b (.stringIter v (pos+(Utf8.decode v pos).2))}:St).put o.dst (.ext (.tuple #[.bool true,.int .i64 pos,.int .i32 (Utf8.decode v pos).1])))):AskK P o s K:=by
 intro c n a w Q hg hd
 obtain ⟨ρ,g⟩:=hg
 have ex:a.eval x=.pointer (some ⟨b,0,none⟩):=by have:=g.ev x;rw[hx]at this;exact this
 have hb:=g.sub _ _ hM
 have hlt:b<w.heap.size:=(Array.getElem?_eq_some_iff.1 hb).1
 unfold Oper.wp
 simp[execOp,hop,ex,run_next_in P w b v pos _ hb hp,Result.andThen]
 exact ⟨_,hK,ρ,(g.chM hfr hM (w':={w with heap:=w.heap.setIfInBounds b (.stringIter v (pos+(Utf8.decode v pos).2))}) ⟨rfl,rfl,rfl,by simp,fun i hi=>by simp[Array.getElem?_setIfInBounds,Ne.symm hi]⟩ (by simp[Array.getElem?_setIfInBounds,hlt])).put rfl hd⟩
theorem ask_next_end{P:Program}{s:St}{K:St→Prop}{o:Oper}{x:Operand}{b pos:Nat}{v:ByteArray}(hop:o.op=.next x true)(hx:ev s x=.ext (.pointer (some ⟨b,0,none⟩)))(hM:s.M b=some (.stringIter v pos))(hp:¬pos<v.size)
  (hK:K (s.put o.dst (.ext (.tuple #[.bool false])))):AskK P o s K:=by
 intro c n a w Q hg hd
 obtain ⟨ρ,g⟩:=hg
 have ex:a.eval x=.pointer (some ⟨b,0,none⟩):=by have:=g.ev x;rw[hx]at this;exact this
 have hb:=g.sub _ _ hM
 unfold Oper.wp
 simp[execOp,hop,ex,run_next_out P w b v pos _ hb hp,Result.andThen]
 exact ⟨_,hK,ρ,g.put rfl hd⟩
theorem updM_le{M:Mem}{b:Nat}{o:Obj}(h:M b=none):Mem.le M (updM M b o):=fun x y hx=>by
 by_cases e:x=b
 ·subst e;rw[h]at hx;cases hx
 ·rw[updM_ne e];exact hx
def qnl:List UInt8:=[34,10]
theorem enc_tail{r:Int}(hv:Utf8.valid r=true)(h:128≤r):∃e:List UInt8,Utf8.encode r=bs e∧(2≤e.length∧e.length≤4)∧128≤(e.getD (e.length-1) 0).toNat:=by
 obtain ⟨h1,h2,h3⟩:=encode_facts r hv h
 refine ⟨(Utf8.encode r).data.toList,bs_of _,?_,?_⟩
 ·have:(Utf8.encode r).data.toList.length=(Utf8.encode r).size:=by simp
  omega
 ·have hl:(Utf8.encode r).data.toList.length=(Utf8.encode r).size:=by simp
  have:=h3 (by omega)
  rw[hl,List.getD_eq_getElem?_getD]
  have e:(Utf8.encode r).data.toList[(Utf8.encode r).size-1]? = some ((Utf8.encode r)[(Utf8.encode r).size-1]'(by omega)):=Lib.data_getElem? _ _ (by omega)
  rw[e];exact this
section
variable {M:Mem}{K:AV→Hp→Mem→Prop}
def riSt(M:Mem)(b:Nat)(r:Int):St:={env:=[(175,.ext (.pointer (some ⟨b,0,none⟩))),(1,.ext (.int .i32 r)),(0,.ext (.string (bs qnl)))],hp:=[],M:=M,kb:=0,fx:=[],fr:=[b]}
def rlSt(M:Mem)(r:Int)(e:List UInt8):St:={env:=[(10,.ext (.int .i64 0)),(9,.ext (.int .i64 ((e.length:Int)-1))),(8,.ext (.int .i64 ((e.length:Int)-1))),(7,.ext (.string (bs e))),(1,.ext (.int .i32 r)),(0,.ext (.string (bs qnl)))],hp:=[],M:=M,kb:=0,fx:=[]}
theorem idxRune_high(r:Int)(h:128≤r)(h2:r≤2147483647)(hK:∀M',Mem.le M M'→K (.ext (.int .i64 (-1))) [] M'):CallS Tryz.prog 86 [.ext (.string (bs qnl)),.ext (.int .i32 r)] [] M [] K:=by
 refine inlS (cs:=[]) Tryz.mixed Tryz.func86 rfl (by kernel_rfl) 0 rfl rfl ?_
 simp only[Tryz.f86]
 have d1:decide (0≤r)=true:=by simp;omega
 have d2:decide (r<128)=false:=by simp;omega
 by_cases he:r=65533
 ·have d3:decide (r=65533)=true:=by simp[he]
  (replace hb0:=true_and True);refine Go1.mk ?_;repeat' ((first|(with_reducible refine Go1.go ?_)|((with_reducible first|refine brv_mk ?_ ?_|refine gsplitD ?_ ?_|refine gsplitG ?_ ?_)<;>intro h<;>(try simp only[Bool.not_eq_true',Bool.not_eq_false']at h)<;>replace hb0:=h)|((with_reducible refine isDraw [some 27,some 28,some 29,some 30,some 31,some 32,some 33] (by decide) ?_);refine draw_rule [(0,[]),(1,[]),(2,[]),(3,[]),(4,[]),(5,[]),(6,[])] [[],[],[0,1],[],[],[3,4],[0,1,2,3,4,5]] [27,28,29,30,31,32] [] (by kernel_rfl) (by kernel_rfl) (by kernel_rfl) (by kernel_rfl) (by exact trivial) ?_)|((with_reducible refine isDraw [some 34,some 35,some 36,some 37,some 38,some 39,some 40,some 41,some 11] (by decide) ?_);refine draw_rule [(0,[]),(1,[]),(2,[]),(3,[]),(4,[3]),(5,[3]),(6,[3]),(7,[]),(8,[])] [[],[],[1],[0,1,2],[],[],[4,5],[0,1,2,3,4,5,6],[0,1,2,3,4,5,6,7]] [34,35,36,37,38,39,40] [] (by kernel_rfl) (by kernel_rfl) (by kernel_rfl) (by kernel_rfl) (by exact trivial) ?_)|((with_reducible refine isDraw [some 54,some 55,some 56,some 57,some 58,some 59,some 60,some 61,some 62,some 63,some 64] (by decide) ?_);refine draw_rule [(0,[]),(1,[]),(2,[]),(3,[]),(4,[]),(5,[]),(6,[]),(7,[]),(8,[]),(9,[]),(10,[])] [[],[],[],[1,2],[0,1,2,3],[],[],[],[6,7],[5,6,7,8],[0,1,2,3,4,5,6,7,8,9]] [54,55,56,57,58,59,60,61,62,63] [] (by kernel_rfl) (by kernel_rfl) (by kernel_rfl) (by kernel_rfl) (by exact trivial) ?_)|((with_reducible refine isDraw [some 146,some 147,some 148,some 149,some 150,some 151,some 152,some 153,some 154,some 155,some 156] (by decide) ?_);refine draw_rule [(0,[]),(1,[]),(2,[]),(3,[]),(4,[]),(5,[]),(6,[]),(7,[]),(8,[]),(9,[]),(10,[])] [[],[],[],[1,2],[0,1,2,3],[],[],[],[6,7],[5,6,7,8],[0,1,2,3,4,5,6,7,8,9]] [146,147,148,149,150,151,152,153,154,155] [] (by kernel_rfl) (by kernel_rfl) (by kernel_rfl) (by kernel_rfl) (by exact trivial) ?_)|(refine And.intro ?_ ?_;(try simp only[sxO]at *);omega)|fail)<;>(try simp (maxSteps:=1000000) only [hb0,d1,d2,d3,bs_mk,bs_app,bs_ext,bs_size,bs_toList,bs_at,bs_cells,List.take_length,imp_ga,guard_pk,guard_pk2,↓hold_pre,awayP,runOps,regK,step1,newK,genR,appR,obl,buildR,Value.cells,closeK,keepH,outV,retK,ret1,retC,RetV,Option.getD,runD,stepD,afterK,undef,simprocAttr,sxB,↓sxD,sxE,sxTab]))
  refine ask_range rfl (by kernel_rfl) rfl fun b hb=>?_
  have hb:M b=none:=hb
  (replace hb0:=true_and True);refine Go1.mk ?_;repeat' ((first|(with_reducible refine Go1.go ?_)|((with_reducible first|refine brv_mk ?_ ?_|refine gsplitD ?_ ?_|refine gsplitG ?_ ?_)<;>intro h<;>(try simp only[Bool.not_eq_true',Bool.not_eq_false']at h)<;>replace hb0:=h)|((with_reducible refine isDraw [some 27,some 28,some 29,some 30,some 31,some 32,some 33] (by decide) ?_);refine draw_rule [(0,[]),(1,[]),(2,[]),(3,[]),(4,[]),(5,[]),(6,[])] [[],[],[0,1],[],[],[3,4],[0,1,2,3,4,5]] [27,28,29,30,31,32] [] (by kernel_rfl) (by kernel_rfl) (by kernel_rfl) (by kernel_rfl) (by exact trivial) ?_)|((with_reducible refine isDraw [some 34,some 35,some 36,some 37,some 38,some 39,some 40,some 41,some 11] (by decide) ?_);refine draw_rule [(0,[]),(1,[]),(2,[]),(3,[]),(4,[3]),(5,[3]),(6,[3]),(7,[]),(8,[])] [[],[],[1],[0,1,2],[],[],[4,5],[0,1,2,3,4,5,6],[0,1,2,3,4,5,6,7]] [34,35,36,37,38,39,40] [] (by kernel_rfl) (by kernel_rfl) (by kernel_rfl) (by kernel_rfl) (by exact trivial) ?_)|((with_reducible refine isDraw [some 54,some 55,some 56,some 57,some 58,some 59,some 60,some 61,some 62,some 63,some 64] (by decide) ?_);refine draw_rule [(0,[]),(1,[]),(2,[]),(3,[]),(4,[]),(5,[]),(6,[]),(7,[]),(8,[]),(9,[]),(10,[])] [[],[],[],[1,2],[0,1,2,3],[],[],[],[6,7],[5,6,7,8],[0,1,2,3,4,5,6,7,8,9]] [54,55,56,57,58,59,60,61,62,63] [] (by kernel_rfl) (by kernel_rfl) (by kernel_rfl) (by kernel_rfl) (by exact trivial) ?_)|((with_reducible refine isDraw [some 146,some 147,some 148,some 149,some 150,some 151,some 152,some 153,some 154,some 155,some 156] (by decide) ?_);refine draw_rule [(0,[]),(1,[]),(2,[]),(3,[]),(4,[]),(5,[]),(6,[]),(7,[]),(8,[]),(9,[]),(10,[])] [[],[],[],[1,2],[0,1,2,3],[],[],[],[6,7],[5,6,7,8],[0,1,2,3,4,5,6,7,8,9]] [146,147,148,149,150,151,152,153,154,155] [] (by kernel_rfl) (by kernel_rfl) (by kernel_rfl) (by kernel_rfl) (by exact trivial) ?_)|(refine And.intro ?_ ?_;(try simp only[sxO]at *);omega)|fail)<;>(try simp (maxSteps:=1000000) only [hb0,St.put,↓hold_pre,awayP,runOps,regK,step1,newK,genR,appR,obl,buildR,Value.cells,closeK,keepH,outV,retK,ret1,retC,RetV,Option.getD,runD,stepD,afterK,undef,simprocAttr,sxB,↓sxD,sxE,sxTab]))
  refine ⟨fun m z=>∃M' pos,pos≤2∧m=2-pos∧M' b=some (.stringIter (bs qnl) pos)∧Mem.le M M'∧z=riSt M' b r,⟨2,riSt (updM M b (.stringIter (bs qnl) 0)) b r,le_sub ⟨rfl,rfl,rfl,trivial⟩ trivial rfl rfl rfl (keepLt0 _),⟨_,0,by omega,rfl,updM_self _ _ _,updM_le hb,rfl⟩⟩,?_⟩
  rintro m z ⟨M',pos,hpos,rfl,hit,hM',rfl⟩
  (replace hb0:=true_and True);refine Go1.mk ?_;repeat' ((first|(with_reducible refine Go1.go ?_)|((with_reducible first|refine brv_mk ?_ ?_|refine gsplitD ?_ ?_|refine gsplitG ?_ ?_)<;>intro h<;>(try simp only[Bool.not_eq_true',Bool.not_eq_false']at h)<;>replace hb0:=h)|((with_reducible refine isDraw [some 27,some 28,some 29,some 30,some 31,some 32,some 33] (by decide) ?_);refine draw_rule [(0,[]),(1,[]),(2,[]),(3,[]),(4,[]),(5,[]),(6,[])] [[],[],[0,1],[],[],[3,4],[0,1,2,3,4,5]] [27,28,29,30,31,32] [] (by kernel_rfl) (by kernel_rfl) (by kernel_rfl) (by kernel_rfl) (by exact trivial) ?_)|((with_reducible refine isDraw [some 34,some 35,some 36,some 37,some 38,some 39,some 40,some 41,some 11] (by decide) ?_);refine draw_rule [(0,[]),(1,[]),(2,[]),(3,[]),(4,[3]),(5,[3]),(6,[3]),(7,[]),(8,[])] [[],[],[1],[0,1,2],[],[],[4,5],[0,1,2,3,4,5,6],[0,1,2,3,4,5,6,7]] [34,35,36,37,38,39,40] [] (by kernel_rfl) (by kernel_rfl) (by kernel_rfl) (by kernel_rfl) (by exact trivial) ?_)|((with_reducible refine isDraw [some 54,some 55,some 56,some 57,some 58,some 59,some 60,some 61,some 62,some 63,some 64] (by decide) ?_);refine draw_rule [(0,[]),(1,[]),(2,[]),(3,[]),(4,[]),(5,[]),(6,[]),(7,[]),(8,[]),(9,[]),(10,[])] [[],[],[],[1,2],[0,1,2,3],[],[],[],[6,7],[5,6,7,8],[0,1,2,3,4,5,6,7,8,9]] [54,55,56,57,58,59,60,61,62,63] [] (by kernel_rfl) (by kernel_rfl) (by kernel_rfl) (by kernel_rfl) (by exact trivial) ?_)|((with_reducible refine isDraw [some 146,some 147,some 148,some 149,some 150,some 151,some 152,some 153,some 154,some 155,some 156] (by decide) ?_);refine draw_rule [(0,[]),(1,[]),(2,[]),(3,[]),(4,[]),(5,[]),(6,[]),(7,[]),(8,[]),(9,[]),(10,[])] [[],[],[],[1,2],[0,1,2,3],[],[],[],[6,7],[5,6,7,8],[0,1,2,3,4,5,6,7,8,9]] [146,147,148,149,150,151,152,153,154,155] [] (by kernel_rfl) (by kernel_rfl) (by kernel_rfl) (by kernel_rfl) (by exact trivial) ?_)|(refine And.intro ?_ ?_;(try simp only[sxO]at *);omega)|fail)<;>(try simp (maxSteps:=1000000) only [hb0,riSt,↓hold_pre,awayP,runOps,regK,step1,newK,genR,appR,obl,buildR,Value.cells,closeK,keepH,outV,retK,ret1,retC,RetV,Option.getD,runD,stepD,afterK,undef,simprocAttr,sxB,↓sxD,sxE,sxTab]))
  have hcs:pos=0∨pos=1∨pos=2:=by omega
  have step:∀(q:Nat),Mem.le M (updM M' b (.stringIter (bs qnl) q)):=fun q x y hx=>by
   by_cases e:x=b
   ·subst e;rw[hb]at hx;cases hx
   ·rw[updM_ne e];exact hM' _ _ hx
  rcases hcs with rfl|rfl|rfl
  ·refine ask_next (b:=b) (pos:=0) (v:=bs qnl) rfl rfl (List.mem_singleton.2 rfl) hit (by decide) ?_
   have hd:Utf8.decode (bs qnl) 0=(34,1):=by decide
   rw[hd]
   (replace hb0:=true_and True);refine Go1.mk ?_;repeat' ((first|(with_reducible refine Go1.go ?_)|((with_reducible first|refine brv_mk ?_ ?_|refine gsplitD ?_ ?_|refine gsplitG ?_ ?_)<;>intro h<;>(try simp only[Bool.not_eq_true',Bool.not_eq_false']at h)<;>replace hb0:=h)|((with_reducible refine isDraw [some 27,some 28,some 29,some 30,some 31,some 32,some 33] (by decide) ?_);refine draw_rule [(0,[]),(1,[]),(2,[]),(3,[]),(4,[]),(5,[]),(6,[])] [[],[],[0,1],[],[],[3,4],[0,1,2,3,4,5]] [27,28,29,30,31,32] [] (by kernel_rfl) (by kernel_rfl) (by kernel_rfl) (by kernel_rfl) (by exact trivial) ?_)|((with_reducible refine isDraw [some 34,some 35,some 36,some 37,some 38,some 39,some 40,some 41,some 11] (by decide) ?_);refine draw_rule [(0,[]),(1,[]),(2,[]),(3,[]),(4,[3]),(5,[3]),(6,[3]),(7,[]),(8,[])] [[],[],[1],[0,1,2],[],[],[4,5],[0,1,2,3,4,5,6],[0,1,2,3,4,5,6,7]] [34,35,36,37,38,39,40] [] (by kernel_rfl) (by kernel_rfl) (by kernel_rfl) (by kernel_rfl) (by exact trivial) ?_)|((with_reducible refine isDraw [some 54,some 55,some 56,some 57,some 58,some 59,some 60,some 61,some 62,some 63,some 64] (by decide) ?_);refine draw_rule [(0,[]),(1,[]),(2,[]),(3,[]),(4,[]),(5,[]),(6,[]),(7,[]),(8,[]),(9,[]),(10,[])] [[],[],[],[1,2],[0,1,2,3],[],[],[],[6,7],[5,6,7,8],[0,1,2,3,4,5,6,7,8,9]] [54,55,56,57,58,59,60,61,62,63] [] (by kernel_rfl) (by kernel_rfl) (by kernel_rfl) (by kernel_rfl) (by exact trivial) ?_)|((with_reducible refine isDraw [some 146,some 147,some 148,some 149,some 150,some 151,some 152,some 153,some 154,some 155,some 156] (by decide) ?_);refine draw_rule [(0,[]),(1,[]),(2,[]),(3,[]),(4,[]),(5,[]),(6,[]),(7,[]),(8,[]),(9,[]),(10,[])] [[],[],[],[1,2],[0,1,2,3],[],[],[],[6,7],[5,6,7,8],[0,1,2,3,4,5,6,7,8,9]] [146,147,148,149,150,151,152,153,154,155] [] (by kernel_rfl) (by kernel_rfl) (by kernel_rfl) (by kernel_rfl) (by exact trivial) ?_)|(refine And.intro ?_ ?_;(try simp only[sxO]at *);omega)|fail)<;>(try simp (maxSteps:=1000000) only [hb0,St.put,Int.cast_ofNat_Int,↓hold_pre,awayP,runOps,regK,step1,newK,genR,appR,obl,buildR,Value.cells,closeK,keepH,outV,retK,ret1,retC,RetV,Option.getD,runD,stepD,afterK,undef,simprocAttr,sxB,↓sxD,sxE,sxTab]))
   exact ⟨1,riSt (updM M' b (.stringIter (bs qnl) 1)) b r,by omega,le_sub ⟨rfl,rfl,rfl,trivial⟩ trivial rfl rfl rfl (keepLt0 _),_,1,by omega,rfl,updM_self _ _ _,step 1,rfl⟩
  ·refine ask_next (b:=b) (pos:=1) (v:=bs qnl) rfl rfl (List.mem_singleton.2 rfl) hit (by decide) ?_
   have hd:Utf8.decode (bs qnl) 1=(10,1):=by decide
   rw[hd]
   (replace hb0:=true_and True);refine Go1.mk ?_;repeat' ((first|(with_reducible refine Go1.go ?_)|((with_reducible first|refine brv_mk ?_ ?_|refine gsplitD ?_ ?_|refine gsplitG ?_ ?_)<;>intro h<;>(try simp only[Bool.not_eq_true',Bool.not_eq_false']at h)<;>replace hb0:=h)|((with_reducible refine isDraw [some 27,some 28,some 29,some 30,some 31,some 32,some 33] (by decide) ?_);refine draw_rule [(0,[]),(1,[]),(2,[]),(3,[]),(4,[]),(5,[]),(6,[])] [[],[],[0,1],[],[],[3,4],[0,1,2,3,4,5]] [27,28,29,30,31,32] [] (by kernel_rfl) (by kernel_rfl) (by kernel_rfl) (by kernel_rfl) (by exact trivial) ?_)|((with_reducible refine isDraw [some 34,some 35,some 36,some 37,some 38,some 39,some 40,some 41,some 11] (by decide) ?_);refine draw_rule [(0,[]),(1,[]),(2,[]),(3,[]),(4,[3]),(5,[3]),(6,[3]),(7,[]),(8,[])] [[],[],[1],[0,1,2],[],[],[4,5],[0,1,2,3,4,5,6],[0,1,2,3,4,5,6,7]] [34,35,36,37,38,39,40] [] (by kernel_rfl) (by kernel_rfl) (by kernel_rfl) (by kernel_rfl) (by exact trivial) ?_)|((with_reducible refine isDraw [some 54,some 55,some 56,some 57,some 58,some 59,some 60,some 61,some 62,some 63,some 64] (by decide) ?_);refine draw_rule [(0,[]),(1,[]),(2,[]),(3,[]),(4,[]),(5,[]),(6,[]),(7,[]),(8,[]),(9,[]),(10,[])] [[],[],[],[1,2],[0,1,2,3],[],[],[],[6,7],[5,6,7,8],[0,1,2,3,4,5,6,7,8,9]] [54,55,56,57,58,59,60,61,62,63] [] (by kernel_rfl) (by kernel_rfl) (by kernel_rfl) (by kernel_rfl) (by exact trivial) ?_)|((with_reducible refine isDraw [some 146,some 147,some 148,some 149,some 150,some 151,some 152,some 153,some 154,some 155,some 156] (by decide) ?_);refine draw_rule [(0,[]),(1,[]),(2,[]),(3,[]),(4,[]),(5,[]),(6,[]),(7,[]),(8,[]),(9,[]),(10,[])] [[],[],[],[1,2],[0,1,2,3],[],[],[],[6,7],[5,6,7,8],[0,1,2,3,4,5,6,7,8,9]] [146,147,148,149,150,151,152,153,154,155] [] (by kernel_rfl) (by kernel_rfl) (by kernel_rfl) (by kernel_rfl) (by exact trivial) ?_)|(refine And.intro ?_ ?_;(try simp only[sxO]at *);omega)|fail)<;>(try simp (maxSteps:=1000000) only [hb0,St.put,Int.cast_ofNat_Int,↓hold_pre,awayP,runOps,regK,step1,newK,genR,appR,obl,buildR,Value.cells,closeK,keepH,outV,retK,ret1,retC,RetV,Option.getD,runD,stepD,afterK,undef,simprocAttr,sxB,↓sxD,sxE,sxTab]))
   exact ⟨0,riSt (updM M' b (.stringIter (bs qnl) 2)) b r,by omega,le_sub ⟨rfl,rfl,rfl,trivial⟩ trivial rfl rfl rfl (keepLt0 _),_,2,by omega,rfl,updM_self _ _ _,step 2,rfl⟩
  ·refine ask_next_end (b:=b) (pos:=2) (v:=bs qnl) rfl rfl hit (by decide) ?_
   (replace hb0:=true_and True);refine Go1.mk ?_;repeat' ((first|(with_reducible refine Go1.go ?_)|((with_reducible first|refine brv_mk ?_ ?_|refine gsplitD ?_ ?_|refine gsplitG ?_ ?_)<;>intro h<;>(try simp only[Bool.not_eq_true',Bool.not_eq_false']at h)<;>replace hb0:=h)|((with_reducible refine isDraw [some 27,some 28,some 29,some 30,some 31,some 32,some 33] (by decide) ?_);refine draw_rule [(0,[]),(1,[]),(2,[]),(3,[]),(4,[]),(5,[]),(6,[])] [[],[],[0,1],[],[],[3,4],[0,1,2,3,4,5]] [27,28,29,30,31,32] [] (by kernel_rfl) (by kernel_rfl) (by kernel_rfl) (by kernel_rfl) (by exact trivial) ?_)|((with_reducible refine isDraw [some 34,some 35,some 36,some 37,some 38,some 39,some 40,some 41,some 11] (by decide) ?_);refine draw_rule [(0,[]),(1,[]),(2,[]),(3,[]),(4,[3]),(5,[3]),(6,[3]),(7,[]),(8,[])] [[],[],[1],[0,1,2],[],[],[4,5],[0,1,2,3,4,5,6],[0,1,2,3,4,5,6,7]] [34,35,36,37,38,39,40] [] (by kernel_rfl) (by kernel_rfl) (by kernel_rfl) (by kernel_rfl) (by exact trivial) ?_)|((with_reducible refine isDraw [some 54,some 55,some 56,some 57,some 58,some 59,some 60,some 61,some 62,some 63,some 64] (by decide) ?_);refine draw_rule [(0,[]),(1,[]),(2,[]),(3,[]),(4,[]),(5,[]),(6,[]),(7,[]),(8,[]),(9,[]),(10,[])] [[],[],[],[1,2],[0,1,2,3],[],[],[],[6,7],[5,6,7,8],[0,1,2,3,4,5,6,7,8,9]] [54,55,56,57,58,59,60,61,62,63] [] (by kernel_rfl) (by kernel_rfl) (by kernel_rfl) (by kernel_rfl) (by exact trivial) ?_)|((with_reducible refine isDraw [some 146,some 147,some 148,some 149,some 150,some 151,some 152,some 153,some 154,some 155,some 156] (by decide) ?_);refine draw_rule [(0,[]),(1,[]),(2,[]),(3,[]),(4,[]),(5,[]),(6,[]),(7,[]),(8,[]),(9,[]),(10,[])] [[],[],[],[1,2],[0,1,2,3],[],[],[],[6,7],[5,6,7,8],[0,1,2,3,4,5,6,7,8,9]] [146,147,148,149,150,151,152,153,154,155] [] (by kernel_rfl) (by kernel_rfl) (by kernel_rfl) (by kernel_rfl) (by exact trivial) ?_)|(refine And.intro ?_ ?_;(try simp only[sxO]at *);omega)|fail)<;>(try simp (maxSteps:=1000000) only [hb0,St.put,↓hold_pre,awayP,runOps,regK,step1,newK,genR,appR,obl,buildR,Value.cells,closeK,keepH,outV,retK,ret1,retC,RetV,Option.getD,runD,stepD,afterK,undef,simprocAttr,sxB,↓sxD,sxE,sxTab]))
   exact hK _ hM'
 ·have d3:decide (r=65533)=false:=by simp[he]
  cases hv:Lib.validRune r with
  | false=>
   (replace hb0:=true_and True);refine Go1.mk ?_;repeat' ((first|(with_reducible refine Go1.go ?_)|((with_reducible first|refine brv_mk ?_ ?_|refine gsplitD ?_ ?_|refine gsplitG ?_ ?_)<;>intro h<;>(try simp only[Bool.not_eq_true',Bool.not_eq_false']at h)<;>replace hb0:=h)|(((with_reducible refine isCall (f:=101) ?_);refine callA_nil (by kernel_rfl) ?_;refine (callS_of (us:=[.int .i32 r]) (fun w=>(Tryz.utf8_ValidRune r w).mono fun e w' h=>⟨h.1,h.2▸Below.refl _ _⟩) ?_)))|((with_reducible refine isDraw [some 27,some 28,some 29,some 30,some 31,some 32,some 33] (by decide) ?_);refine draw_rule [(0,[]),(1,[]),(2,[]),(3,[]),(4,[]),(5,[]),(6,[])] [[],[],[0,1],[],[],[3,4],[0,1,2,3,4,5]] [27,28,29,30,31,32] [] (by kernel_rfl) (by kernel_rfl) (by kernel_rfl) (by kernel_rfl) (by exact trivial) ?_)|((with_reducible refine isDraw [some 34,some 35,some 36,some 37,some 38,some 39,some 40,some 41,some 11] (by decide) ?_);refine draw_rule [(0,[]),(1,[]),(2,[]),(3,[]),(4,[3]),(5,[3]),(6,[3]),(7,[]),(8,[])] [[],[],[1],[0,1,2],[],[],[4,5],[0,1,2,3,4,5,6],[0,1,2,3,4,5,6,7]] [34,35,36,37,38,39,40] [] (by kernel_rfl) (by kernel_rfl) (by kernel_rfl) (by kernel_rfl) (by exact trivial) ?_)|((with_reducible refine isDraw [some 54,some 55,some 56,some 57,some 58,some 59,some 60,some 61,some 62,some 63,some 64] (by decide) ?_);refine draw_rule [(0,[]),(1,[]),(2,[]),(3,[]),(4,[]),(5,[]),(6,[]),(7,[]),(8,[]),(9,[]),(10,[])] [[],[],[],[1,2],[0,1,2,3],[],[],[],[6,7],[5,6,7,8],[0,1,2,3,4,5,6,7,8,9]] [54,55,56,57,58,59,60,61,62,63] [] (by kernel_rfl) (by kernel_rfl) (by kernel_rfl) (by kernel_rfl) (by exact trivial) ?_)|((with_reducible refine isDraw [some 146,some 147,some 148,some 149,some 150,some 151,some 152,some 153,some 154,some 155,some 156] (by decide) ?_);refine draw_rule [(0,[]),(1,[]),(2,[]),(3,[]),(4,[]),(5,[]),(6,[]),(7,[]),(8,[]),(9,[]),(10,[])] [[],[],[],[1,2],[0,1,2,3],[],[],[],[6,7],[5,6,7,8],[0,1,2,3,4,5,6,7,8,9]] [146,147,148,149,150,151,152,153,154,155] [] (by kernel_rfl) (by kernel_rfl) (by kernel_rfl) (by kernel_rfl) (by exact trivial) ?_)|(refine And.intro ?_ ?_;(try simp only[sxO]at *);omega)|fail)<;>(try simp (maxSteps:=1000000) only [hb0,d1,d2,d3,hv,bs_mk,bs_app,bs_ext,bs_size,bs_toList,bs_at,bs_cells,List.take_length,imp_ga,guard_pk,guard_pk2,↓hold_pre,awayP,runOps,regK,step1,newK,genR,appR,obl,buildR,Value.cells,closeK,keepH,outV,retK,ret1,retC,RetV,Option.getD,runD,stepD,afterK,undef,simprocAttr,sxB,↓sxD,sxE,sxTab]))
   exact hK _ (Mem.le.refl _)
  | true=>
   (replace hb0:=true_and True);refine Go1.mk ?_;repeat' ((first|(with_reducible refine Go1.go ?_)|((with_reducible first|refine brv_mk ?_ ?_|refine gsplitD ?_ ?_|refine gsplitG ?_ ?_)<;>intro h<;>(try simp only[Bool.not_eq_true',Bool.not_eq_false']at h)<;>replace hb0:=h)|(((with_reducible refine isCall (f:=101) ?_);refine callA_nil (by kernel_rfl) ?_;refine (callS_of (us:=[.int .i32 r]) (fun w=>(Tryz.utf8_ValidRune r w).mono fun e w' h=>⟨h.1,h.2▸Below.refl _ _⟩) ?_)))|((with_reducible refine isDraw [some 27,some 28,some 29,some 30,some 31,some 32,some 33] (by decide) ?_);refine draw_rule [(0,[]),(1,[]),(2,[]),(3,[]),(4,[]),(5,[]),(6,[])] [[],[],[0,1],[],[],[3,4],[0,1,2,3,4,5]] [27,28,29,30,31,32] [] (by kernel_rfl) (by kernel_rfl) (by kernel_rfl) (by kernel_rfl) (by exact trivial) ?_)|((with_reducible refine isDraw [some 34,some 35,some 36,some 37,some 38,some 39,some 40,some 41,some 11] (by decide) ?_);refine draw_rule [(0,[]),(1,[]),(2,[]),(3,[]),(4,[3]),(5,[3]),(6,[3]),(7,[]),(8,[])] [[],[],[1],[0,1,2],[],[],[4,5],[0,1,2,3,4,5,6],[0,1,2,3,4,5,6,7]] [34,35,36,37,38,39,40] [] (by kernel_rfl) (by kernel_rfl) (by kernel_rfl) (by kernel_rfl) (by exact trivial) ?_)|((with_reducible refine isDraw [some 54,some 55,some 56,some 57,some 58,some 59,some 60,some 61,some 62,some 63,some 64] (by decide) ?_);refine draw_rule [(0,[]),(1,[]),(2,[]),(3,[]),(4,[]),(5,[]),(6,[]),(7,[]),(8,[]),(9,[]),(10,[])] [[],[],[],[1,2],[0,1,2,3],[],[],[],[6,7],[5,6,7,8],[0,1,2,3,4,5,6,7,8,9]] [54,55,56,57,58,59,60,61,62,63] [] (by kernel_rfl) (by kernel_rfl) (by kernel_rfl) (by kernel_rfl) (by exact trivial) ?_)|((with_reducible refine isDraw [some 146,some 147,some 148,some 149,some 150,some 151,some 152,some 153,some 154,some 155,some 156] (by decide) ?_);refine draw_rule [(0,[]),(1,[]),(2,[]),(3,[]),(4,[]),(5,[]),(6,[]),(7,[]),(8,[]),(9,[]),(10,[])] [[],[],[],[1,2],[0,1,2,3],[],[],[],[6,7],[5,6,7,8],[0,1,2,3,4,5,6,7,8,9]] [146,147,148,149,150,151,152,153,154,155] [] (by kernel_rfl) (by kernel_rfl) (by kernel_rfl) (by kernel_rfl) (by exact trivial) ?_)|(refine And.intro ?_ ?_;(try simp only[sxO]at *);omega)|fail)<;>(try simp (maxSteps:=1000000) only [hb0,d1,d2,d3,hv,bs_mk,bs_app,bs_ext,bs_size,bs_toList,bs_at,bs_cells,List.take_length,imp_ga,guard_pk,guard_pk2,↓hold_pre,awayP,runOps,regK,step1,newK,genR,appR,obl,buildR,Value.cells,closeK,keepH,outV,retK,ret1,retC,RetV,Option.getD,runD,stepD,afterK,undef,simprocAttr,sxB,↓sxD,sxE,sxTab]))
   have hval:Utf8.valid r=true:=by
    unfold Lib.validRune at hv
    unfold Utf8.valid
    revert hv
    simp
    omega
   obtain ⟨e,he,hle,htop⟩:=enc_tail hval h
   rw[he]
   have w1:IntKind.i64.wrap ((e.length:Int)-1)=(e.length:Int)-1:=wrap_id (by omega) (by omega)
   refine ⟨fun _ z=>z=rlSt M r e,⟨0,rlSt M r e,le_sub ⟨rfl,by simp only[bs_size,w1];rfl,by simp only[bs_size,w1];rfl,rfl,rfl,rfl,trivial⟩ trivial rfl rfl rfl (keepLt0 _),rfl⟩,?_⟩
   rintro _ z rfl
   have q2:(qnl.length:Int)=2:=rfl
   by_cases h3:e.length=2
   ·have d4:decide ((e.length:Int)-1<2)=true:=by simp;omega
    have e1:(e.length:Int)-1=1:=by omega
    rw[h3]at htop
    have htop:128≤(e.getD 1 0).toNat:=htop
    have d5:decide ((10:Int)=((e.getD 1 0).toNat:Int))=false:=by rw[decide_eq_false_iff_not];omega
    have ib:∀c,Lib.indexByte [] c=-1:=fun _=>rfl
    have q3:qnl.getD 1 0=10:=rfl
    have q4:((10:UInt8).toNat:Int)=10:=rfl
    have w2:IntKind.i64.wrap 2=2:=by decide
    have x1:List.drop 2 (List.take 2 qnl)=[]:=rfl
    have x2:(1:Int)<(e.length:Int):=by omega
    (replace hb0:=true_and True);refine Go1.mk ?_;repeat' ((first|(with_reducible refine Go1.go ?_)|((with_reducible first|refine brv_mk ?_ ?_|refine gsplitD ?_ ?_|refine gsplitG ?_ ?_)<;>intro h<;>(try simp only[Bool.not_eq_true',Bool.not_eq_false']at h)<;>replace hb0:=h)|((first|((with_reducible refine isCall (f:=81) ?_);refine callA_nil (by kernel_rfl) ?_)|((with_reducible refine isCall0 (f:=81) ?_);refine callA0_nil (by kernel_rfl) ?_));refine (callS_of (us:=[.string (bs []),.int .u8 ((e.getD 1 0).toNat:Int)]) (fun w=>(Tryz.strings_IndexByte (bs []) _ w).mono fun e w' h=>⟨h.1,h.2▸Below.refl _ _⟩) ?_))|((with_reducible refine isDraw [some 27,some 28,some 29,some 30,some 31,some 32,some 33] (by decide) ?_);refine draw_rule [(0,[]),(1,[]),(2,[]),(3,[]),(4,[]),(5,[]),(6,[])] [[],[],[0,1],[],[],[3,4],[0,1,2,3,4,5]] [27,28,29,30,31,32] [] (by kernel_rfl) (by kernel_rfl) (by kernel_rfl) (by kernel_rfl) (by exact trivial) ?_)|((with_reducible refine isDraw [some 34,some 35,some 36,some 37,some 38,some 39,some 40,some 41,some 11] (by decide) ?_);refine draw_rule [(0,[]),(1,[]),(2,[]),(3,[]),(4,[3]),(5,[3]),(6,[3]),(7,[]),(8,[])] [[],[],[1],[0,1,2],[],[],[4,5],[0,1,2,3,4,5,6],[0,1,2,3,4,5,6,7]] [34,35,36,37,38,39,40] [] (by kernel_rfl) (by kernel_rfl) (by kernel_rfl) (by kernel_rfl) (by exact trivial) ?_)|((with_reducible refine isDraw [some 54,some 55,some 56,some 57,some 58,some 59,some 60,some 61,some 62,some 63,some 64] (by decide) ?_);refine draw_rule [(0,[]),(1,[]),(2,[]),(3,[]),(4,[]),(5,[]),(6,[]),(7,[]),(8,[]),(9,[]),(10,[])] [[],[],[],[1,2],[0,1,2,3],[],[],[],[6,7],[5,6,7,8],[0,1,2,3,4,5,6,7,8,9]] [54,55,56,57,58,59,60,61,62,63] [] (by kernel_rfl) (by kernel_rfl) (by kernel_rfl) (by kernel_rfl) (by exact trivial) ?_)|((with_reducible refine isDraw [some 146,some 147,some 148,some 149,some 150,some 151,some 152,some 153,some 154,some 155,some 156] (by decide) ?_);refine draw_rule [(0,[]),(1,[]),(2,[]),(3,[]),(4,[]),(5,[]),(6,[]),(7,[]),(8,[]),(9,[]),(10,[])] [[],[],[],[1,2],[0,1,2,3],[],[],[],[6,7],[5,6,7,8],[0,1,2,3,4,5,6,7,8,9]] [146,147,148,149,150,151,152,153,154,155] [] (by kernel_rfl) (by kernel_rfl) (by kernel_rfl) (by kernel_rfl) (by exact trivial) ?_)|(refine And.intro ?_ ?_;(try simp only[sxO]at *);omega)|fail)<;>(try simp (maxSteps:=1000000) only [hb0,rlSt,q2,e1,d5,q3,q4,w2,x1,x2,ib,bs_mk,bs_app,bs_ext,bs_size,bs_toList,bs_at,bs_cells,List.take_length,imp_ga,guard_pk,guard_pk2,↓hold_pre,awayP,runOps,regK,step1,newK,genR,appR,obl,buildR,Value.cells,closeK,keepH,outV,retK,ret1,retC,RetV,Option.getD,runD,stepD,afterK,undef,simprocAttr,sxB,↓sxD,sxE,sxTab]))
    exact hK _ (Mem.le.refl _)
   ·have d4:decide ((e.length:Int)-1<2)=false:=by simp;omega
    (replace hb0:=true_and True);refine Go1.mk ?_;repeat' ((first|(with_reducible refine Go1.go ?_)|((with_reducible first|refine brv_mk ?_ ?_|refine gsplitD ?_ ?_|refine gsplitG ?_ ?_)<;>intro h<;>(try simp only[Bool.not_eq_true',Bool.not_eq_false']at h)<;>replace hb0:=h)|((with_reducible refine isDraw [some 27,some 28,some 29,some 30,some 31,some 32,some 33] (by decide) ?_);refine draw_rule [(0,[]),(1,[]),(2,[]),(3,[]),(4,[]),(5,[]),(6,[])] [[],[],[0,1],[],[],[3,4],[0,1,2,3,4,5]] [27,28,29,30,31,32] [] (by kernel_rfl) (by kernel_rfl) (by kernel_rfl) (by kernel_rfl) (by exact trivial) ?_)|((with_reducible refine isDraw [some 34,some 35,some 36,some 37,some 38,some 39,some 40,some 41,some 11] (by decide) ?_);refine draw_rule [(0,[]),(1,[]),(2,[]),(3,[]),(4,[3]),(5,[3]),(6,[3]),(7,[]),(8,[])] [[],[],[1],[0,1,2],[],[],[4,5],[0,1,2,3,4,5,6],[0,1,2,3,4,5,6,7]] [34,35,36,37,38,39,40] [] (by kernel_rfl) (by kernel_rfl) (by kernel_rfl) (by kernel_rfl) (by exact trivial) ?_)|((with_reducible refine isDraw [some 54,some 55,some 56,some 57,some 58,some 59,some 60,some 61,some 62,some 63,some 64] (by decide) ?_);refine draw_rule [(0,[]),(1,[]),(2,[]),(3,[]),(4,[]),(5,[]),(6,[]),(7,[]),(8,[]),(9,[]),(10,[])] [[],[],[],[1,2],[0,1,2,3],[],[],[],[6,7],[5,6,7,8],[0,1,2,3,4,5,6,7,8,9]] [54,55,56,57,58,59,60,61,62,63] [] (by kernel_rfl) (by kernel_rfl) (by kernel_rfl) (by kernel_rfl) (by exact trivial) ?_)|((with_reducible refine isDraw [some 146,some 147,some 148,some 149,some 150,some 151,some 152,some 153,some 154,some 155,some 156] (by decide) ?_);refine draw_rule [(0,[]),(1,[]),(2,[]),(3,[]),(4,[]),(5,[]),(6,[]),(7,[]),(8,[]),(9,[]),(10,[])] [[],[],[],[1,2],[0,1,2,3],[],[],[],[6,7],[5,6,7,8],[0,1,2,3,4,5,6,7,8,9]] [146,147,148,149,150,151,152,153,154,155] [] (by kernel_rfl) (by kernel_rfl) (by kernel_rfl) (by kernel_rfl) (by exact trivial) ?_)|(refine And.intro ?_ ?_;(try simp only[sxO]at *);omega)|fail)<;>(try simp (maxSteps:=1000000) only [hb0,rlSt,q2,d4,bs_mk,bs_app,bs_ext,bs_size,bs_toList,bs_at,bs_cells,List.take_length,imp_ga,guard_pk,guard_pk2,↓hold_pre,awayP,runOps,regK,step1,newK,genR,appR,obl,buildR,Value.cells,closeK,keepH,outV,retK,ret1,retC,RetV,Option.getD,runD,stepD,afterK,undef,simprocAttr,sxB,↓sxD,sxE,sxTab]))
    exact hK _ (Mem.le.refl _)
theorem decode_skip(l:List UInt8)(pos:Nat)(h:pos<l.length)(ha:128≤(l[pos]'h).toNat):pos+(Utf8.decode (bs l) pos).2≤l.length∧∀j b,pos≤j→j<pos+(Utf8.decode (bs l) pos).2→l[j]? = some b→128≤b.toNat:=by
 have hg:∀k (hk:pos+k<l.length),(bs l).get! (pos+k)=l[pos+k]:=fun k hk=>by
  show (bs l).data[pos+k]! = _
  simp[bs,hk]
 have hs:(bs l).size=l.length:=rfl
 have h0:=hg 0 h
 have hn:¬(l[pos+0]'h).toNat<128:=by simp only[Nat.add_zero];omega
 have key:∀m,1≤m→m≤4→(∀k,1≤k→k<m→(decide (pos+k<l.length)&&((bs l).get! (pos+k)).toNat / 64==2)=true)→pos+m≤l.length∧∀j b,pos≤j→j<pos+m→l[j]? = some b→128≤b.toNat:=fun m h1 h4 hc=>by
  have hc2:∀k,1≤k→k<m→∃hk:pos+k<l.length,128≤(l[pos+k]'hk).toNat:=fun k hk1 hk2=>by
   have:=hc k hk1 hk2
   simp only[Bool.and_eq_true,decide_eq_true_eq,beq_iff_eq]at this
   obtain ⟨a1,a2⟩:=this
   rw[hg k a1]at a2
   exact ⟨a1,by omega⟩
  refine ⟨?_,fun j b hj1 hj2 hb=>?_⟩
  ·by_cases e:m=1
   ·omega
   ·obtain ⟨a,_⟩:=hc2 (m-1) (by omega) (by omega)
    omega
  ·by_cases e:j=pos
   ·subst e
    rw[List.getElem?_eq_getElem h]at hb
    obtain rfl:=Option.some.inj hb
    exact ha
   ·obtain ⟨a,a2⟩:=hc2 (j-pos) (by omega) (by omega)
    have ej:pos+(j-pos)=j:=by omega
    simp only[ej]at a a2
    rw[List.getElem?_eq_getElem a]at hb
    obtain rfl:=Option.some.inj hb
    exact a2
 simp only[Utf8.decode,h0,hn,if_false,hs]
 have one:=key 1 (by omega) (by omega) (fun k hk1 hk2=>by omega)
 split
 ·rename_i hc
  split
  ·refine key 2 (by omega) (by omega) fun k hk1 hk2=>?_
   obtain rfl:k=1:=by omega
   simp only[Bool.and_eq_true]at hc ⊢
   exact hc.2
  ·exact one
 ·split
  ·rename_i hc
   split
   ·refine key 3 (by omega) (by omega) fun k hk1 hk2=>?_
    simp only[Bool.and_eq_true]at hc ⊢
    have:k=1∨k=2:=by omega
    rcases this with rfl|rfl
    ·exact hc.1.2
    ·exact hc.2
   ·exact one
  ·split
   ·rename_i hc
    split
    ·refine key 4 (by omega) (by omega) fun k hk1 hk2=>?_
     simp only[Bool.and_eq_true]at hc ⊢
     have:k=1∨k=2∨k=3:=by omega
     rcases this with rfl|rfl|rfl
     ·exact hc.1.1.2
     ·exact hc.1.2
     ·exact hc.2
    ·exact one
   ·exact one
theorem idxRune_low(b:UInt8)(hb:b.toNat<128)(hK:K (.ext (.int .i64 (Lib.indexByte qnl b))) [] M):CallS Tryz.prog 86 [.ext (.string (bs qnl)),.ext (.int .i32 (b.toNat:Int))] [] M [] K:=by
 refine callS_of (us:=[.string (bs qnl),.int .i32 (b.toNat:Int)]) (fun w=>?_) hK
 have:=(Tryz.strings_IndexRune_ascii (bs qnl) (b.toNat:Int) w (by omega) (by omega)).mono (fun e w' h=>(⟨h.1,h.2▸Below.refl _ _⟩:_∧Below w.heap.size w w'))
 simpa [bs_data] using this
theorem indexAny_long(l:List UInt8)(hl:l.length<1000000000)(h8:8<l.length)(hK:K (.ext (.int .i64 (Lib.indexAny l qnl))) [] M):CallS Tryz.prog 74 [.ext (.string (bs l)),.ext (.string (bs qnl))] [] M [] K:=by
 have h116:(Tryz.prog.info? 120).map (fun i=>(i.zero,i.size))=some (some (.agg (Array.replicate 256 (.bool false))),256):=by kernel_rfl
 refine callS_of (us:=[.string (bs l),.string (bs qnl)]) (fun w=>?_) hK
 refine (Tryz.strings_IndexAny_long (zero_of_info h116).1 (bs l) (bs qnl) w (by decide) (by rw[bs_size];exact h8) (by rw[bs_size];omega) (by decide) (fun j b hb=>by
  have:b∈qnl:=List.mem_of_getElem? hb
  simp[qnl]at this
  rcases this with rfl|rfl<;>decide)).mono fun e w' ⟨h1,h2⟩=>⟨h1,?_⟩
 rw[h2]
 exact ((Below.refl _ _).alloc (Nat.le_refl _) _).alloc (by simp) _
def iaSt(M:Mem)(b:Nat):St:={env:=[(45,.ext (.pointer (some ⟨b,0,none⟩))),(1,.ext (.string (bs qnl)))],hp:=[],M:=M,kb:=0,fx:=[],fr:=[b]}
theorem indexAny_ok(l:List UInt8)(hl:l.length<1000000000)(hK:∀M',Mem.le M M'→K (.ext (.int .i64 (Lib.indexAny l qnl))) [] M'):CallS Tryz.prog 74 [.ext (.string (bs l)),.ext (.string (bs qnl))] [] M [] K:=by
 by_cases h8:8<l.length
 ·exact indexAny_long l hl h8 (hK _ (Mem.le.refl _))
 refine inlS (cs:=[]) Tryz.mixed Tryz.func74 rfl (by kernel_rfl) 0 rfl rfl ?_
 simp only[Tryz.f74]
 have d1:(qnl==[])=false:=rfl
 have d2:(qnl.length:Int)=2:=rfl
 have d3:decide ((8:Int)<(l.length:Int))=false:=by simp;omega
 (replace hb0:=true_and True);refine Go1.mk ?_;repeat' ((first|(with_reducible refine Go1.go ?_)|((with_reducible first|refine brv_mk ?_ ?_|refine gsplitD ?_ ?_|refine gsplitG ?_ ?_)<;>intro h<;>(try simp only[Bool.not_eq_true',Bool.not_eq_false']at h)<;>replace hb0:=h)|(((with_reducible refine isCall (f:=87) ?_);refine callA_nil (by kernel_rfl) ?_;refine (callS_of (us:=[.int .i64 (l.length:Int)]) (fun w=>(Tryz.strings_shouldUseASCIISet _ w).mono fun e w' h=>⟨h.1,h.2▸Below.refl _ _⟩) ?_)))|(refine And.intro ?_ ?_;(try simp only[sxO]at *);omega)|fail)<;>(try simp (maxSteps:=1000000) only [hb0,d1,d2,d3,bs_mk,bs_app,bs_ext,bs_size,bs_toList,bs_at,bs_cells,List.take_length,imp_ga,guard_pk,guard_pk2,↓hold_pre,awayP,runOps,regK,step1,newK,genR,appR,obl,buildR,Value.cells,closeK,keepH,outV,retK,ret1,retC,RetV,Option.getD,runD,stepD,afterK,undef,simprocAttr,sxB,↓sxD,sxE,sxTab]))
 refine ask_range rfl (by kernel_rfl) rfl fun b hb=>?_
 have hb:M b=none:=hb
 (replace hb0:=true_and True);refine Go1.mk ?_;repeat' ((first|(with_reducible refine Go1.go ?_)|((with_reducible first|refine brv_mk ?_ ?_|refine gsplitD ?_ ?_|refine gsplitG ?_ ?_)<;>intro h<;>(try simp only[Bool.not_eq_true',Bool.not_eq_false']at h)<;>replace hb0:=h)|(refine And.intro ?_ ?_;(try simp only[sxO]at *);omega)|fail)<;>(try simp (maxSteps:=1000000) only [hb0,St.put,↓hold_pre,awayP,runOps,regK,step1,newK,genR,appR,obl,buildR,Value.cells,closeK,keepH,outV,retK,ret1,retC,RetV,Option.getD,runD,stepD,afterK,undef,simprocAttr,sxB,↓sxD,sxE,sxTab]))
 refine ⟨fun m z=>∃M' pos,pos≤l.length∧m=l.length-pos∧M' b=some (.stringIter (bs l) pos)∧Mem.le M M'∧Lib.NoAny l qnl pos∧z=iaSt M' b,⟨l.length,iaSt (updM M b (.stringIter (bs l) 0)) b,le_sub ⟨rfl,rfl,trivial⟩ trivial rfl rfl rfl (keepLt0 _),⟨_,0,by omega,rfl,updM_self _ _ _,updM_le hb,Lib.NoAny.zero _ _,rfl⟩⟩,?_⟩
 rintro m z ⟨M',pos,hpos,rfl,hit,hM',hno,rfl⟩
 (replace hb0:=true_and True);refine Go1.mk ?_;repeat' ((first|(with_reducible refine Go1.go ?_)|((with_reducible first|refine brv_mk ?_ ?_|refine gsplitD ?_ ?_|refine gsplitG ?_ ?_)<;>intro h<;>(try simp only[Bool.not_eq_true',Bool.not_eq_false']at h)<;>replace hb0:=h)|(refine And.intro ?_ ?_;(try simp only[sxO]at *);omega)|fail)<;>(try simp (maxSteps:=1000000) only [hb0,iaSt,↓hold_pre,awayP,runOps,regK,step1,newK,genR,appR,obl,buildR,Value.cells,closeK,keepH,outV,retK,ret1,retC,RetV,Option.getD,runD,stepD,afterK,undef,simprocAttr,sxB,↓sxD,sxE,sxTab]))
 have step:∀(q:Nat),Mem.le M (updM M' b (.stringIter (bs l) q)):=fun q x y hx=>by
  by_cases e:x=b
  ·subst e;rw[hb]at hx;cases hx
  ·rw[updM_ne e];exact hM' _ _ hx
 by_cases hlt:pos<l.length
 ·refine ask_next (b:=b) (pos:=pos) (v:=bs l) rfl rfl (List.mem_singleton.2 rfl) hit hlt ?_
  by_cases ha:(l[pos]'hlt).toNat<128
  ·have hd:Utf8.decode (bs l) pos=((l[pos]'hlt).toNat,1):=decode_ascii (bs l) pos hlt ha
   rw[hd]
   cases hin:qnl.contains l[pos] with
   | true=>
    have hge:decide ((0:Int)≤Lib.indexByte qnl l[pos])=true:=by rw[←Lib.contains_iff_indexByte];exact hin
    (replace hb0:=true_and True);refine Go1.mk ?_;repeat' ((first|(with_reducible refine Go1.go ?_)|((with_reducible first|refine brv_mk ?_ ?_|refine gsplitD ?_ ?_|refine gsplitG ?_ ?_)<;>intro h<;>(try simp only[Bool.not_eq_true',Bool.not_eq_false']at h)<;>replace hb0:=h)|(((with_reducible refine isCall (f:=86) ?_);refine callA_nil (by kernel_rfl) ?_;refine (idxRune_low l[pos] ha ?_)))|(refine And.intro ?_ ?_;(try simp only[sxO]at *);omega)|fail)<;>(try simp (maxSteps:=1000000) only [hb0,St.put,hge,bs_mk,bs_app,bs_ext,bs_size,bs_toList,bs_at,bs_cells,List.take_length,imp_ga,guard_pk,guard_pk2,↓hold_pre,awayP,runOps,regK,step1,newK,genR,appR,obl,buildR,Value.cells,closeK,keepH,outV,retK,ret1,retC,RetV,Option.getD,runD,stepD,afterK,undef,simprocAttr,sxB,↓sxD,sxE,sxTab]))
    have:=hK _ (step (pos+1))
    rw[Lib.indexAny_hit hno (List.getElem?_eq_getElem hlt) hin]at this
    exact this
   | false=>
    have hge:decide ((0:Int)≤Lib.indexByte qnl l[pos])=false:=by rw[←Lib.contains_iff_indexByte];exact hin
    (replace hb0:=true_and True);refine Go1.mk ?_;repeat' ((first|(with_reducible refine Go1.go ?_)|((with_reducible first|refine brv_mk ?_ ?_|refine gsplitD ?_ ?_|refine gsplitG ?_ ?_)<;>intro h<;>(try simp only[Bool.not_eq_true',Bool.not_eq_false']at h)<;>replace hb0:=h)|(((with_reducible refine isCall (f:=86) ?_);refine callA_nil (by kernel_rfl) ?_;refine (idxRune_low l[pos] ha ?_)))|(refine And.intro ?_ ?_;(try simp only[sxO]at *);omega)|fail)<;>(try simp (maxSteps:=1000000) only [hb0,St.put,hge,bs_mk,bs_app,bs_ext,bs_size,bs_toList,bs_at,bs_cells,List.take_length,imp_ga,guard_pk,guard_pk2,↓hold_pre,awayP,runOps,regK,step1,newK,genR,appR,obl,buildR,Value.cells,closeK,keepH,outV,retK,ret1,retC,RetV,Option.getD,runD,stepD,afterK,undef,simprocAttr,sxB,↓sxD,sxE,sxTab]))
    exact ⟨l.length-(pos+1),iaSt (updM M' b (.stringIter (bs l) (pos+1))) b,by omega,le_sub ⟨rfl,rfl,trivial⟩ trivial rfl rfl rfl (keepLt0 _),_,pos+1,by omega,rfl,updM_self _ _ _,step _,hno.succ (List.getElem?_eq_getElem hlt) hin,rfl⟩
  ·have h1:=decode_high (bs l) pos hlt (show 128≤(l[pos]'hlt).toNat by omega)
   have h2:=decode_le (bs l) pos
   have h3:=decode_skip l pos hlt (by omega)
   generalize Utf8.decode (bs l) pos=cw at h1 h2 h3
   obtain ⟨c,wd⟩:=cw
   simp only at h1 h2 h3
   (replace hb0:=true_and True);refine Go1.mk ?_;repeat' ((first|(with_reducible refine Go1.go ?_)|((with_reducible first|refine brv_mk ?_ ?_|refine gsplitD ?_ ?_|refine gsplitG ?_ ?_)<;>intro h<;>(try simp only[Bool.not_eq_true',Bool.not_eq_false']at h)<;>replace hb0:=h)|(((with_reducible refine isCall (f:=86) ?_);refine callA_nil (by kernel_rfl) ?_;refine (idxRune_high (c:Int) (by omega) (by omega) (fun M'' hM''=>?_))))|(refine And.intro ?_ ?_;(try simp only[sxO]at *);omega)|fail)<;>(try simp (maxSteps:=1000000) only [hb0,St.put,bs_mk,bs_app,bs_ext,bs_size,bs_toList,bs_at,bs_cells,List.take_length,imp_ga,guard_pk,guard_pk2,↓hold_pre,awayP,runOps,regK,step1,newK,genR,appR,obl,buildR,Value.cells,closeK,keepH,outV,retK,ret1,retC,RetV,Option.getD,runD,stepD,afterK,undef,simprocAttr,sxB,↓sxD,sxE,sxTab]))
   have hM'':Mem.le (updM M' b (.stringIter (bs l) (pos+wd))) M'':=hM''
   (replace hb0:=true_and True);refine Go1.mk ?_;repeat' ((first|(with_reducible refine Go1.go ?_)|((with_reducible first|refine brv_mk ?_ ?_|refine gsplitD ?_ ?_|refine gsplitG ?_ ?_)<;>intro h<;>(try simp only[Bool.not_eq_true',Bool.not_eq_false']at h)<;>replace hb0:=h)|(refine And.intro ?_ ?_;(try simp only[sxO]at *);omega)|fail)<;>(try simp (maxSteps:=1000000) only [hb0,St.put,bs_mk,bs_app,bs_ext,bs_size,bs_toList,bs_at,bs_cells,List.take_length,imp_ga,guard_pk,guard_pk2,↓hold_pre,awayP,runOps,regK,step1,newK,genR,appR,obl,buildR,Value.cells,closeK,keepH,outV,retK,ret1,retC,RetV,Option.getD,runD,stepD,afterK,undef,simprocAttr,sxB,↓sxD,sxE,sxTab]))
   refine ⟨l.length-(pos+wd),iaSt M'' b,by omega,le_sub ⟨rfl,rfl,trivial⟩ trivial rfl rfl rfl (keepLt0 _),M'',pos+wd,h3.1,rfl,hM'' _ _ (updM_self _ _ _),(step _).trans hM'',fun j x hj hx=>?_,rfl⟩
   by_cases hj2:j<pos
   ·exact hno j x hj2 hx
   ·have:=h3.2 j x (by omega) hj hx
    simp[qnl]
    refine ⟨fun e=>?_,fun e=>?_⟩<;>(subst e;revert this;decide)
 ·obtain rfl:pos=l.length:=by omega
  refine ask_next_end (b:=b) (pos:=l.length) (v:=bs l) rfl rfl hit hlt ?_
  (replace hb0:=true_and True);refine Go1.mk ?_;repeat' ((first|(with_reducible refine Go1.go ?_)|((with_reducible first|refine brv_mk ?_ ?_|refine gsplitD ?_ ?_|refine gsplitG ?_ ?_)<;>intro h<;>(try simp only[Bool.not_eq_true',Bool.not_eq_false']at h)<;>replace hb0:=h)|(refine And.intro ?_ ?_;(try simp only[sxO]at *);omega)|fail)<;>(try simp (maxSteps:=1000000) only [hb0,St.put,bs_mk,bs_app,bs_ext,bs_size,bs_toList,bs_at,bs_cells,List.take_length,imp_ga,guard_pk,guard_pk2,↓hold_pre,awayP,runOps,regK,step1,newK,genR,appR,obl,buildR,Value.cells,closeK,keepH,outV,retK,ret1,retC,RetV,Option.getD,runD,stepD,afterK,undef,simprocAttr,sxB,↓sxD,sxE,sxTab]))
  have:=hK _ hM'
  rw[Lib.indexAny_none hno]at this
  exact this
end
end Go.Proofs.YtoblkpomikokhaaGreat.Sx
namespace Go.Proofs.YtoblkpomikokhaaGreat.Sx
open Go Go.RowKit
set_option linter.unusedVariables false
set_option linter.unusedSimpArgs false
set_option maxRecDepth 100000
set_option maxHeartbeats 8000000
attribute [local congr] fin_congr finG_congr stepG_congr step1_congr runOps_congr brv_congr obl_congr condK_congr LoopK_congr seqK_congr CutK_congr vc_congr DrawK_congr regK_congr CallK_congr AskK_congr newK_congr retC_congr ret1_congr retK_congr outV_congr closeK_congr genR_congr appR_congr finD_congr finGD_congr stepGD_congr stepD_congr CallK0_congr runD_congr okR_congr CallS_congr vcX_congr
theorem dig_ascii{b:UInt8}(h:hexB b=true):b.toNat<128:=by
 have:=u8_all (P:=fun b=>!(hexB b) || decide (b.toNat<128)) (by decide +kernel) b
 simpa [h] using this
def tenD:List UInt8:=[48,49,50,51,52,53,54,55,56,57]
theorem ten_dig(b:UInt8):tenD.contains b=digB b:=by
 have:=u8_all (P:=fun b=>tenD.contains b==digB b) (by decide +kernel) b
 simpa using this
theorem containsAny_any(ch:List UInt8):∀l:List UInt8,Lib.containsAny l ch=l.any fun b=>ch.contains b
 | []=>rfl
 | b :: l=>by
  have ih:=containsAny_any ch l
  have hge:=Lib.indexAny_ge ch l
  unfold Lib.containsAny at ih ⊢
  rw[Lib.indexAny,List.any_cons,←ih]
  cases ch.contains b with
  | true=>simp
  | false=>
   simp only[Bool.false_or,Bool.false_eq_true,if_false]
   split
   ·rename_i h;simp at h;rw[h]
   ·rename_i h;simp at h;rw[decide_eq_decide];omega
theorem containsD(l:List UInt8):Lib.containsAny l tenD=l.any digB:=by
 rw[containsAny_any]
 congr 1
 funext b
 exact ten_dig b
section
variable {M:Mem}{K:AV→Hp→Mem→Prop}
theorem containsAny_ok(l:List UInt8)(hl:l.length<1000000000)(h:l.all hexB=true)(hK:K (.ext (.bool (l.any digB))) [] M):CallS Tryz.prog 93 [.ext (.string (bs l)),.ext (.string (bs tenD))] [] M [] K:=by
 rw[←containsD]at hK
 refine callS_of (us:=[.string (bs l),.string (bs tenD)]) (fun w=>?_) hK
 exact Tryz.strings_ContainsAny_laid (bs l) (bs tenD) w (by rw[bs_size];omega) (by decide) (fun j b hb=>dig_ascii (List.all_eq_true.1 h b (List.mem_of_getElem? hb))) (fun j b hb=>by
  have:b∈tenD:=List.mem_of_getElem? hb
  have h2:tenD.contains b=true:=by simpa using this
  rw[ten_dig]at h2
  exact dig_ascii (by simp[hexB,h2]))
theorem number_ok(l:List UInt8)(hl:l.length<1000000000)(hK:K (.ext (.bool (numB l))) [] M):CallS Tryz.prog 76 [.ext (.string (bs l))] [] M [] K:=by
 refine inlS (cs:=[]) Tryz.mixed Tryz.func76 rfl (by kernel_rfl) 0 rfl rfl ?_
 simp only[Tryz.f76]
 generalize hr:numB l=r at hK
 have t1:([48,49,50,51,52,53,54,55,56,57]:List UInt8)=tenD:=rfl
 (replace hb0:=true_and True);refine Go1.mk ?_;repeat' ((first|(with_reducible refine Go1.go ?_)|((with_reducible first|refine brv_mk ?_ ?_|refine gsplitD ?_ ?_|refine gsplitG ?_ ?_)<;>intro h<;>(try simp only[Bool.not_eq_true',Bool.not_eq_false']at h)<;>replace hb0:=h)|(((with_reducible refine isCall (f:=91) ?_);refine callA_nil (by kernel_rfl) ?_;refine (digits_ok ?_)))|((first|((with_reducible refine isCall (f:=92) ?_);refine callA_nil (by kernel_rfl) ?_)|((with_reducible refine isCall0 (f:=92) ?_);refine callA0_nil (by kernel_rfl) ?_));refine (allB_ok _ _ (by first|omega|(simp;omega)) ?_))|(((with_reducible refine isCall (f:=93) ?_);refine callA_nil (by kernel_rfl) ?_;refine (containsAny_ok l hl (by first|assumption|simp_all) ?_)))|((with_reducible refine isDraw [some 27,some 28,some 29,some 30,some 2] (by decide) ?_);refine draw_rule [(0,[]),(1,[]),(2,[1]),(3,[]),(4,[])] [[],[0],[],[0,1,2],[0,1,2,3]] [27,28,29] [] (by kernel_rfl) (by kernel_rfl) (by kernel_rfl) (by kernel_rfl) (by exact trivial) ?_)|(refine And.intro ?_ ?_;(try simp only[sxO]at *);omega)|fail)<;>(try simp (maxSteps:=1000000) only [hb0,cls_len,cls_take,cls_drop,cls_agg,cls_cellsG,cls_cellsA,cls_one,cls_ment,cls_kill,z256_def,z256_len,z256_drop,z256_ment,par_len,par_ment,Nat.mul_one,imp_ga,guard_pk,guard_pk2,bs_mk,bs_app,bs_ext,bs_size,bs_toList,bs_at,bs_cells,List.take_length,imp_ga,guard_pk,guard_pk2,List.take_length,t1,↓hold_pre,awayP,runOps,regK,step1,newK,genR,appR,obl,buildR,Value.cells,closeK,keepH,outV,retK,ret1,retC,RetV,Option.getD,runD,stepD,afterK,undef,simprocAttr,sxB,↓sxD,sxE,sxTab]))
 all_goals
  have e2:decide (2<l.length)=decide ((2:Int)<(l.length:Int)):=by rw[decide_eq_decide];omega
  have e8:decide (8≤l.length)=decide ((8:Int)≤(l.length:Int)):=by rw[decide_eq_decide];omega
  unfold numB at hr
  rw[e2,e8]at hr
  simp only[*,Bool.true_or,Bool.false_or,if_true,if_false,Bool.true_and,Bool.false_and,Bool.false_eq_true]at hr
  subst hr
  exact hK
theorem base_split(l:List UInt8):(∃i:Nat,i<l.length∧Lib.lastIndexByte (bs l) 47=(i:Int)∧l.drop (i+1)=baseB l)∨(Lib.lastIndexByte (bs l) 47=-1∧l=baseB l):=by
 have hsz:(bs l).size=l.length:=rfl
 have hat:∀j (h:j<l.length),((bs l).data[j]!)=l[j]:=fun j h=>by simp[bs,h]
 rcases Lib.lastIdx_spec (bs l) 47 (bs l).size with ⟨h1,h2⟩|⟨i,hi,h1,h2,h3⟩
 ·refine .inr ⟨h1,(base_id fun b hb=>?_).symm⟩
  obtain ⟨j,hj,rfl⟩:=List.mem_iff_getElem.1 hb
  intro e
  have:=h2 j hj
  rw[hat j hj,e]at this
  exact this rfl
 ·rw[hsz]at hi
  refine .inl ⟨i,hi,h1,?_⟩
  have hb:l[i]=47:=by
   rw[hat i hi]at h2
   apply UInt8.toNat_inj.1
   exact_mod_cast h2
  have e:l=l.take i++47 :: l.drop (i+1):=by
   conv=>lhs;rw[←List.take_append_drop i l,List.drop_eq_getElem_cons hi,hb]
  conv=>rhs;rw[e]
  refine (base_slash fun b hm=>?_).symm
  obtain ⟨j,hj,rfl⟩:=List.mem_iff_getElem.1 hm
  rw[List.length_drop]at hj
  intro e2
  have:=h3 (i+1+j) (by omega) (by rw[hsz];omega)
  rw[hat (i+1+j) (by omega)]at this
  rw[List.getElem_drop]at e2
  rw[e2]at this
  exact this rfl
theorem base_ok(l:List UInt8)(hl:l.length<1000000000000000)(hK:K (.ext (.string (bs (baseB l)))) [] M):CallS Tryz.prog 66 [.ext (.string (bs l))] [] M [] K:=by
 refine inlS (cs:=[]) Tryz.mixed Tryz.func66 rfl (by kernel_rfl) 0 rfl rfl ?_
 simp only[Tryz.f66]
 have hc:∀{K:AV→Hp→Mem→Prop},K (.ext (.int .i64 (Lib.lastIndexByte (bs l) 47))) [] M→CallS Tryz.prog 77 [.ext (.string (bs l)),.ext (.int .u8 47)] [] M [] K:=fun hK=>callS_of (us:=[.string (bs l),.int .u8 47]) (fun w=>(Tryz.strings_LastIndexByte (bs l) 47 (by rw[bs_size];omega) w).mono fun e w' h=>⟨h.1,h.2▸Below.refl _ _⟩) hK
 rcases base_split l with ⟨i,hi,h1,h2⟩|⟨h1,h2⟩
 ·have w1:IntKind.i64.wrap ((i:Int)+1)=((i+1:Nat):Int):=by rw[wrap_id (by omega) (by omega)];omega
  (replace hb0:=true_and True);refine Go1.mk ?_;repeat' ((first|(with_reducible refine Go1.go ?_)|((with_reducible first|refine brv_mk ?_ ?_|refine gsplitD ?_ ?_|refine gsplitG ?_ ?_)<;>intro h<;>(try simp only[Bool.not_eq_true',Bool.not_eq_false']at h)<;>replace hb0:=h)|(((with_reducible refine isCall (f:=77) ?_);refine callA_nil (by kernel_rfl) ?_;refine (hc ?_)))|(refine And.intro ?_ ?_;(try simp only[sxO]at *);omega)|fail)<;>(try simp (maxSteps:=1000000) only [hb0,h1,h2,w1,bs_mk,bs_app,bs_ext,bs_size,bs_toList,bs_at,bs_cells,List.take_length,imp_ga,guard_pk,guard_pk2,↓hold_pre,awayP,runOps,regK,step1,newK,genR,appR,obl,buildR,Value.cells,closeK,keepH,outV,retK,ret1,retC,RetV,Option.getD,runD,stepD,afterK,undef,simprocAttr,sxB,↓sxD,sxE,sxTab]))
  exact hK
 ·have w1:IntKind.i64.wrap 0=0:=by decide
  rw[←h2]at hK
  clear h2
  (replace hb0:=true_and True);refine Go1.mk ?_;repeat' ((first|(with_reducible refine Go1.go ?_)|((with_reducible first|refine brv_mk ?_ ?_|refine gsplitD ?_ ?_|refine gsplitG ?_ ?_)<;>intro h<;>(try simp only[Bool.not_eq_true',Bool.not_eq_false']at h)<;>replace hb0:=h)|(((with_reducible refine isCall (f:=77) ?_);refine callA_nil (by kernel_rfl) ?_;refine (hc ?_)))|(refine And.intro ?_ ?_;(try simp only[sxO]at *);omega)|fail)<;>(try simp (maxSteps:=1000000) only [hb0,h1,w1,Int.toNat_zero,bs_mk,bs_app,bs_ext,bs_size,bs_toList,bs_at,bs_cells,List.take_length,imp_ga,guard_pk,guard_pk2,↓hold_pre,awayP,runOps,regK,step1,newK,genR,appR,obl,buildR,Value.cells,closeK,keepH,outV,retK,ret1,retC,RetV,Option.getD,runD,stepD,afterK,undef,simprocAttr,sxB,↓sxD,sxE,sxTab]))
  exact hK
theorem idx_qnl:∀r:List UInt8,(Lib.indexAny r qnl=-1∧r.dropWhile qst=[])∨(Lib.indexAny r qnl=((r.takeWhile qst).length:Int)∧∃h:(r.takeWhile qst).length<r.length,r.dropWhile qst=r[(r.takeWhile qst).length] :: r.drop ((r.takeWhile qst).length+1))
 | []=>.inl ⟨rfl,rfl⟩
 | b :: r=>by
  have hq:qnl.contains b = !(qst b):=by
   have:=u8_all (P:=fun b=>qnl.contains b==!(qst b)) (by decide +kernel) b
   simpa using this
  have ih:=idx_qnl r
  rw[Lib.indexAny,hq]
  cases hb:qst b with
  | false=>
   right
   simp[hb]
  | true=>
   simp only[Bool.not_true,Bool.false_eq_true,if_false]
   rw[List.takeWhile_cons_of_pos hb,List.dropWhile_cons_of_pos hb]
   rcases ih with ⟨h1,h2⟩|⟨h1,h2,h3⟩
   ·left;simp[h1,h2]
   ·right
    have:¬((r.takeWhile qst).length:Int)=-1:=by omega
    refine ⟨by rw[h1];simp only[beq_iff_eq,this,if_false];simp,by simp only[List.length_cons];omega,?_⟩
    rw[h3];simp
theorem quoted_ok(c:UInt8)(r:List UInt8)(hl:r.length<1000000)(hK:∀M',Mem.le M M'→K (.ext (.int .i64 (quoB (c :: r):Int))) [] M'):CallS Tryz.prog 60 [.ext (.string (bs (c :: r)))] [] M [] K:=by
 refine inlS (cs:=[]) Tryz.mixed Tryz.func60 rfl (by kernel_rfl) 0 rfl rfl ?_
 simp only[Tryz.f60]
 have g0:((c :: r).getD 0 0)=c:=rfl
 have a0:(0:Int)<((c :: r).length:Int):=by simp
 by_cases hc:c=34
 ·subst hc
  have d1:decide (((34:UInt8).toNat:Int)=34)=true:=by decide
  have t1:List.drop 1 (List.take (34 :: r).length (34 :: r))=r:=by simp
  have t2:(1:Int)≤((34 :: r).length:Int):=by simp;omega
  have hq:([34,10]:List UInt8)=qnl:=rfl
  rcases idx_qnl r with ⟨h1,h2⟩|⟨h1,h2,h3⟩
  ·have hz:quoB (34 :: r)=0:=by simp[quoB,h2]
   rw[hz]at hK
   (replace hb0:=true_and True);refine Go1.mk ?_;repeat' ((first|(with_reducible refine Go1.go ?_)|((with_reducible first|refine brv_mk ?_ ?_|refine gsplitD ?_ ?_|refine gsplitG ?_ ?_)<;>intro h<;>(try simp only[Bool.not_eq_true',Bool.not_eq_false']at h)<;>replace hb0:=h)|(((with_reducible refine isCall (f:=74) ?_);refine callA_nil (by kernel_rfl) ?_;refine (indexAny_ok r (by omega) (fun M' hM'=>?_))))|(refine And.intro ?_ ?_;(try simp only[sxO]at *);omega)|fail)<;>(try simp (maxSteps:=1000000) only [hb0,g0,a0,d1,t1,t2,hq,h1,Int.toNat_one,Int.toNat_zero,bs_mk,bs_app,bs_ext,bs_size,bs_toList,bs_at,bs_cells,List.take_length,imp_ga,guard_pk,guard_pk2,↓hold_pre,awayP,runOps,regK,step1,newK,genR,appR,obl,buildR,Value.cells,closeK,keepH,outV,retK,ret1,retC,RetV,Option.getD,runD,stepD,afterK,undef,simprocAttr,sxB,↓sxD,sxE,sxTab]))
   exact hK _ hM'
  ·have hlt:decide (((r.takeWhile qst).length:Int)<0)=false:=by simp
   have w1:IntKind.i64.wrap (1+((r.takeWhile qst).length:Int))=(((r.takeWhile qst).length+1:Nat):Int):=by rw[wrap_id (by omega) (by omega)];omega
   have w2:IntKind.i64.wrap (((r.takeWhile qst).length:Int)+2)=(((r.takeWhile qst).length+2:Nat):Int):=by rw[wrap_id (by omega) (by omega)];omega
   have g1:(34 :: r).getD ((r.takeWhile qst).length+1) 0=r[(r.takeWhile qst).length]:=by
    rw[List.getD_cons_succ];exact getD_of h2
   have a1:(0:Int)≤(((r.takeWhile qst).length+1:Nat):Int):=by omega
   have a2:(((r.takeWhile qst).length+1:Nat):Int)<((r.length+1:Nat):Int):=by omega
   by_cases hd:r[(r.takeWhile qst).length]=34
   ·have d2:decide (((34:UInt8).toNat:Int)=34)=true:=by decide
    have hz:quoB (34 :: r)=(r.takeWhile qst).length+2:=by simp only[quoB,if_true,h3,hd]
    rw[hz]at hK
    rw[hd]at g1
    (replace hb0:=true_and True);refine Go1.mk ?_;repeat' ((first|(with_reducible refine Go1.go ?_)|((with_reducible first|refine brv_mk ?_ ?_|refine gsplitD ?_ ?_|refine gsplitG ?_ ?_)<;>intro h<;>(try simp only[Bool.not_eq_true',Bool.not_eq_false']at h)<;>replace hb0:=h)|(((with_reducible refine isCall (f:=74) ?_);refine callA_nil (by kernel_rfl) ?_;refine (indexAny_ok r (by omega) (fun M' hM'=>?_))))|(refine And.intro ?_ ?_;(try simp only[sxO]at *);omega)|fail)<;>(try simp (maxSteps:=1000000) only [hb0,g0,a0,d1,t1,t2,hq,h1,hlt,w1,w2,g1,a1,a2,d2,Int.toNat_one,Int.toNat_zero,bs_mk,bs_app,bs_ext,bs_size,bs_toList,bs_at,bs_cells,List.take_length,imp_ga,guard_pk,guard_pk2,↓hold_pre,awayP,runOps,regK,step1,newK,genR,appR,obl,buildR,Value.cells,closeK,keepH,outV,retK,ret1,retC,RetV,Option.getD,runD,stepD,afterK,undef,simprocAttr,sxB,↓sxD,sxE,sxTab]))
    exact hK _ hM'
   ·have d2:decide ((r[(r.takeWhile qst).length].toNat:Int)=34)=false:=by
     rw[decide_eq_false_iff_not]
     intro e
     exact hd (UInt8.toNat_inj.1 (by exact_mod_cast e))
    have hz:quoB (34 :: r)=0:=by simp only[quoB,if_true,h3,hd,if_false]
    rw[hz]at hK
    (replace hb0:=true_and True);refine Go1.mk ?_;repeat' ((first|(with_reducible refine Go1.go ?_)|((with_reducible first|refine brv_mk ?_ ?_|refine gsplitD ?_ ?_|refine gsplitG ?_ ?_)<;>intro h<;>(try simp only[Bool.not_eq_true',Bool.not_eq_false']at h)<;>replace hb0:=h)|(((with_reducible refine isCall (f:=74) ?_);refine callA_nil (by kernel_rfl) ?_;refine (indexAny_ok r (by omega) (fun M' hM'=>?_))))|(refine And.intro ?_ ?_;(try simp only[sxO]at *);omega)|fail)<;>(try simp (maxSteps:=1000000) only [hb0,g0,a0,d1,t1,t2,hq,h1,hlt,w1,w2,g1,a1,a2,d2,Int.toNat_one,Int.toNat_zero,bs_mk,bs_app,bs_ext,bs_size,bs_toList,bs_at,bs_cells,List.take_length,imp_ga,guard_pk,guard_pk2,↓hold_pre,awayP,runOps,regK,step1,newK,genR,appR,obl,buildR,Value.cells,closeK,keepH,outV,retK,ret1,retC,RetV,Option.getD,runD,stepD,afterK,undef,simprocAttr,sxB,↓sxD,sxE,sxTab]))
    exact hK _ hM'
 ·have d1:decide ((c.toNat:Int)=34)=false:=by
   rw[decide_eq_false_iff_not]
   intro e
   exact hc (UInt8.toNat_inj.1 (by exact_mod_cast e))
  have hz:quoB (c :: r)=0:=by simp only[quoB,hc,if_false]
  rw[hz]at hK
  (replace hb0:=true_and True);refine Go1.mk ?_;repeat' ((first|(with_reducible refine Go1.go ?_)|((with_reducible first|refine brv_mk ?_ ?_|refine gsplitD ?_ ?_|refine gsplitG ?_ ?_)<;>intro h<;>(try simp only[Bool.not_eq_true',Bool.not_eq_false']at h)<;>replace hb0:=h)|(refine And.intro ?_ ?_;(try simp only[sxO]at *);omega)|fail)<;>(try simp (maxSteps:=1000000) only [hb0,g0,a0,d1,Int.toNat_zero,bs_mk,bs_app,bs_ext,bs_size,bs_toList,bs_at,bs_cells,List.take_length,imp_ga,guard_pk,guard_pk2,↓hold_pre,awayP,runOps,regK,step1,newK,genR,appR,obl,buildR,Value.cells,closeK,keepH,outV,retK,ret1,retC,RetV,Option.getD,runD,stepD,afterK,undef,simprocAttr,sxB,↓sxD,sxE,sxTab]))
  exact hK _ (Mem.le.refl _)
end
end Go.Proofs.YtoblkpomikokhaaGreat.Sx
namespace Go.Proofs.YtoblkpomikokhaaGreat.Sx
open Go Go.RowKit
set_option linter.unusedVariables false
set_option linter.unusedSimpArgs false
set_option maxRecDepth 100000
set_option maxHeartbeats 8000000
attribute [local congr] fin_congr finG_congr stepG_congr step1_congr runOps_congr brv_congr obl_congr condK_congr LoopK_congr seqK_congr CutK_congr vc_congr DrawK_congr regK_congr CallK_congr AskK_congr newK_congr retC_congr ret1_congr retK_congr outV_congr closeK_congr genR_congr appR_congr finD_congr finGD_congr stepGD_congr stepD_congr CallK0_congr runD_congr okR_congr CallS_congr vcX_congr
theorem take_tw{p:UInt8→Bool}(l:List UInt8):l.take (l.takeWhile p).length=l.takeWhile p:=by
 conv=>lhs;arg 2;rw[←List.takeWhile_append_dropWhile (p:=p) (l:=l)]
 exact List.take_left
theorem drop_tw{p:UInt8→Bool}(l:List UInt8):l.drop (l.takeWhile p).length=l.dropWhile p:=by
 conv=>lhs;arg 2;rw[←List.takeWhile_append_dropWhile (p:=p) (l:=l)]
 exact List.drop_left
section
variable {M:Mem}{K:AV→Hp→Mem→Prop}
def partSt(M:Mem)(p:AV)(o r:List UInt8):St:={env:=[(5,.own 105 0),(4,.ext (.string (bs r))),(0,.own 3 0)],hp:=(105,103,clsC wordB) :: bldH 3 90 p o,M:=M,kb:=100,fx:=[3]}
theorem part_ok(p:AV)(o l:List UInt8)(hp:p=.ext (.pointer none)∨p=.own 3 0)(hl:o.length+l.length<1000000)(hK:K (.ext (.tuple #[])) (bldH 3 90 (.own 3 0) (o++partB l)) M) :
  CallS Tryz.prog 63 [.own 3 0,.ext (.string (bs l))] (bldH 3 90 p o) M [90] K:=by
 refine callS_ok Tryz.mixed Tryz.func63 rfl (by kernel_rfl) 100 [90] [3] [] rfl (by intro j hj;simp[bldH,keysH]at hj ⊢;exact hj) (by intro j hj;simp[bldH,keysH]at hj;omega) ?_
 simp only[Tryz.f63]
 by_cases hb:baseB l=[]
 ·have e:partB l=[47]:=by simp[partB,hb]
  have d1:([]:List UInt8)==[]:=rfl
  rw[e]at hK
  rcases hp with rfl|rfl
  all_goals (
   (replace hb0:=true_and True);refine Go1.mk ?_;repeat' ((first|(with_reducible refine Go1.go ?_)|((with_reducible first|refine brv_mk ?_ ?_|refine gsplitD ?_ ?_|refine gsplitG ?_ ?_)<;>intro h<;>(try simp only[Bool.not_eq_true',Bool.not_eq_false']at h)<;>replace hb0:=h)|(((with_reducible refine isCall (f:=66) ?_);refine callA_nil (by kernel_rfl) ?_;refine (base_ok l (by omega) ?_)))|((with_reducible refine isCall (f:=64) ?_);refine callKm [90] rfl (by rfl) (by simp[hasK]) ?_)|((with_reducible refine isCallS (f:=64) ?_);refine (wbyte_ok 3 90 _ o 47 _ rfl (by decide) (by omega) (by simp) ?_))|(refine And.intro ?_ ?_;(try simp only[sxO]at *);omega)|fail)<;>(try simp (maxSteps:=1000000) only [hb0,bldH,hb,d1,cE_ment,cls_len,cls_take,cls_drop,cls_agg,cls_cellsG,cls_cellsA,cls_one,cls_ment,cls_kill,z256_def,z256_len,z256_drop,z256_ment,par_len,par_ment,Nat.mul_one,imp_ga,guard_pk,guard_pk2,bs_mk,bs_app,bs_ext,bs_size,bs_toList,bs_at,bs_cells,List.take_length,imp_ga,guard_pk,guard_pk2,↓hold_pre,awayP,runOps,regK,step1,newK,genR,appR,obl,buildR,Value.cells,closeK,keepH,outV,retK,ret1,retC,RetV,Option.getD,runD,stepD,afterK,undef,simprocAttr,sxB,↓sxD,sxE,sxTab]))
   exact hK)
 ·have e:partB l=wordsB (baseB l):=by simp[partB,hb]
  have hbl:=base_len l
  rw[e]at hK
  have d1:(baseB l==[])=false:=by simpa using hb
  obtain ⟨r0,hr0⟩:∃r0,baseB l=r0:=⟨_,rfl⟩
  rw[hr0]at hb d1 hK hbl
  rcases hp with rfl|rfl
  all_goals (
   (replace hb0:=true_and True);refine Go1.mk ?_;repeat' ((first|(with_reducible refine Go1.go ?_)|((with_reducible first|refine brv_mk ?_ ?_|refine gsplitD ?_ ?_|refine gsplitG ?_ ?_)<;>intro h<;>(try simp only[Bool.not_eq_true',Bool.not_eq_false']at h)<;>replace hb0:=h)|(((with_reducible refine isCall (f:=66) ?_);refine callA_nil (by kernel_rfl) ?_;refine (base_ok l (by omega) ?_)))|(((with_reducible refine isCall (f:=59) ?_);refine callA_nil (by kernel_rfl) ?_;refine (classes_ok ?_)))|(refine And.intro ?_ ?_;(try simp only[sxO]at *);omega)|fail)<;>(try simp (maxSteps:=1000000) only [hb0,hr0,bldH,d1,cE_ment,cls_len,cls_take,cls_drop,cls_agg,cls_cellsG,cls_cellsA,cls_one,cls_ment,cls_kill,z256_def,z256_len,z256_drop,z256_ment,par_len,par_ment,Nat.mul_one,imp_ga,guard_pk,guard_pk2,bs_mk,bs_app,bs_ext,bs_size,bs_toList,bs_at,bs_cells,List.take_length,imp_ga,guard_pk,guard_pk2,↓hold_pre,awayP,runOps,regK,step1,newK,genR,appR,obl,buildR,Value.cells,closeK,keepH,outV,retK,ret1,retC,RetV,Option.getD,runD,stepD,afterK,undef,simprocAttr,sxB,↓sxD,sxE,sxTab]))
   refine ⟨fun m z=>∃q o' r,(q=.ext (.pointer none)∨q=.own 3 0)∧o'.length+r.length<1000000∧o'++wordsB r=o++wordsB r0∧(q=.ext (.pointer none)→r≠[])∧m=r.length∧z=partSt M q o' r,⟨r0.length,partSt M _ o r0,le_sub ⟨rfl,rfl,rfl,trivial⟩ ⟨rfl,rfl,rfl,trivial⟩ rfl rfl rfl (keepLt_of rfl),⟨_,o,r0,by first|exact .inl rfl|exact .inr rfl,by omega,rfl,fun _=>hb,rfl,rfl⟩⟩,?_⟩
   rintro m z ⟨q,o',r,hq,hlen,hrel,hq0,rfl,rfl⟩
   cases r with
   | nil=>
    rcases hq with rfl|rfl
    ·exact absurd rfl (hq0 rfl)
    have e0:o'=o++wordsB r0:=by rw[←hrel];simp[wordsB]
    have d2:(([]:List UInt8)==[])=true:=rfl
    rw[←e0]at hK
    (replace hb0:=true_and True);refine Go1.mk ?_;repeat' ((first|(with_reducible refine Go1.go ?_)|((with_reducible first|refine brv_mk ?_ ?_|refine gsplitD ?_ ?_|refine gsplitG ?_ ?_)<;>intro h<;>(try simp only[Bool.not_eq_true',Bool.not_eq_false']at h)<;>replace hb0:=h)|(refine And.intro ?_ ?_;(try simp only[sxO]at *);omega)|fail)<;>(try simp (maxSteps:=1000000) only [hb0,partSt,bldH,d2,cE_ment,cls_len,cls_take,cls_drop,cls_agg,cls_cellsG,cls_cellsA,cls_one,cls_ment,cls_kill,z256_def,z256_len,z256_drop,z256_ment,par_len,par_ment,Nat.mul_one,imp_ga,guard_pk,guard_pk2,bs_mk,bs_app,bs_ext,bs_size,bs_toList,bs_at,bs_cells,List.take_length,imp_ga,guard_pk,guard_pk2,↓hold_pre,awayP,runOps,regK,step1,newK,genR,appR,obl,buildR,Value.cells,closeK,keepH,outV,retK,ret1,retC,RetV,Option.getD,runD,stepD,afterK,undef,simprocAttr,sxB,↓sxD,sxE,sxTab]))
    exact hK
   | cons c t=>
    have d2:((c :: t)==[])=false:=rfl
    have a0:(0:Int)<(((c :: t).length:Nat):Int):=by simp only[List.length_cons];omega
    have g0:(c :: t).getD 0 0=c:=rfl
    cases hc:wordB c with
    | false=>
     have n0:((c :: t).takeWhile wordB).length=0:=by rw[List.takeWhile_cons_of_neg (by simp[hc])];rfl
     have hw:wordsB (c :: t)=c :: wordsB t:=words_cons hc
     have t1:(1:Int)≤(((c :: t).length:Nat):Int):=by simp only[List.length_cons];omega
     rcases hq with rfl|rfl
     all_goals (
      (replace hb0:=true_and True);refine Go1.mk ?_;repeat' ((first|(with_reducible refine Go1.go ?_)|((with_reducible first|refine brv_mk ?_ ?_|refine gsplitD ?_ ?_|refine gsplitG ?_ ?_)<;>intro h<;>(try simp only[Bool.not_eq_true',Bool.not_eq_false']at h)<;>replace hb0:=h)|(((with_reducible refine isCall (f:=62) ?_);refine callA_nil (by kernel_rfl) ?_;refine (run_ok _ _ (by simp at hlen ⊢;omega) ?_)))|((with_reducible refine isCall (f:=64) ?_);refine callKm [90] rfl (by rfl) (by simp[hasK]) ?_)|((with_reducible refine isCallS (f:=64) ?_);refine (wbyte_ok 3 90 _ o' c _ rfl (by decide) (by omega) (by simp) ?_))|(refine And.intro ?_ ?_;(try simp only[sxO]at *);omega)|fail)<;>(try simp (maxSteps:=1000000) only [hb0,partSt,bldH,d2,a0,g0,n0,t1,Int.toNat_one,Int.toNat_zero,Int.cast_ofNat_Int,cE_ment,cE_kill,cls_len,cls_take,cls_drop,cls_agg,cls_cellsG,cls_cellsA,cls_one,cls_ment,cls_kill,z256_def,z256_len,z256_drop,z256_ment,par_len,par_ment,Nat.mul_one,imp_ga,guard_pk,guard_pk2,bs_mk,bs_app,bs_ext,bs_size,bs_toList,bs_at,bs_cells,List.take_length,imp_ga,guard_pk,guard_pk2,↓hold_pre,awayP,runOps,regK,step1,newK,genR,appR,obl,buildR,Value.cells,closeK,keepH,outV,retK,ret1,retC,RetV,Option.getD,runD,stepD,afterK,undef,simprocAttr,sxB,↓sxD,sxE,sxTab]))
      exact ⟨t.length,partSt M _ (o'++[c]) t,by simp,le_sub ⟨rfl,rfl,rfl,trivial⟩ ⟨rfl,rfl,rfl,trivial⟩ rfl rfl rfl (keepLt_of rfl),_,o'++[c],t,.inr rfl,by simp at hlen ⊢;omega,by rw[←hrel,hw];simp,(fun e=>by cases e),rfl,rfl⟩)
    | true=>
     have hdl:=dropW_lt (r:=t) hc
     have hw:wordsB (c :: t)=(if numB ((c :: t).takeWhile wordB) then [35] else (c :: t).takeWhile wordB)++wordsB ((c :: t).dropWhile wordB):=by rw[wordsB,dif_pos hc]
     have hpos:0<((c :: t).takeWhile wordB).length:=by rw[List.takeWhile_cons_of_pos hc];simp
     have hle:=(List.takeWhile_sublist wordB (l:=c :: t)).length_le
     have hadd:=congrArg List.length (List.takeWhile_append_dropWhile (p:=wordB) (l:=c :: t))
     rw[List.length_append]at hadd
     have x1:=take_tw (p:=wordB) (c :: t)
     have x2:=drop_tw (p:=wordB) (c :: t)
     generalize hct:c :: t=L at *
     obtain ⟨w,hW⟩:∃w,L.takeWhile wordB=w:=⟨_,rfl⟩
     obtain ⟨v,hV⟩:∃v,L.dropWhile wordB=v:=⟨_,rfl⟩
     simp only[hW,hV]at hw hpos hle hadd hdl x1 x2
     have n0:decide ((w.length:Int)=0)=false:=by rw[decide_eq_false_iff_not];omega
     have t1:(w.length:Int)≤(L.length:Int):=by omega
     have t0:(0:Int)≤(w.length:Int):=by omega
     cases hn:numB w with
     | true=>
      rw[hn]at hw
      simp only[if_true]at hw
      rcases hq with rfl|rfl
      all_goals (
       (replace hb0:=true_and True);refine Go1.mk ?_;repeat' ((first|(with_reducible refine Go1.go ?_)|((with_reducible first|refine brv_mk ?_ ?_|refine gsplitD ?_ ?_|refine gsplitG ?_ ?_)<;>intro h<;>(try simp only[Bool.not_eq_true',Bool.not_eq_false']at h)<;>replace hb0:=h)|(((with_reducible refine isCall (f:=62) ?_);refine callA_nil (by kernel_rfl) ?_;refine (run_ok _ _ (by omega) ?_)))|(((with_reducible refine isCall (f:=76) ?_);refine callA_nil (by kernel_rfl) ?_;refine (number_ok _ (by omega) ?_)))|((with_reducible refine isCall (f:=64) ?_);refine callKm [90] rfl (by rfl) (by simp[hasK]) ?_)|((with_reducible refine isCallS (f:=64) ?_);refine (wbyte_ok 3 90 _ o' 35 _ rfl (by decide) (by omega) (by simp) ?_))|(refine And.intro ?_ ?_;(try simp only[sxO]at *);omega)|fail)<;>(try simp (maxSteps:=1000000) only [hb0,partSt,bldH,hW,d2,n0,t0,t1,x1,x2,hn,cE_ment,cE_kill,cls_len,cls_take,cls_drop,cls_agg,cls_cellsG,cls_cellsA,cls_one,cls_ment,cls_kill,z256_def,z256_len,z256_drop,z256_ment,par_len,par_ment,Nat.mul_one,imp_ga,guard_pk,guard_pk2,bs_mk,bs_app,bs_ext,bs_size,bs_toList,bs_at,bs_cells,List.take_length,imp_ga,guard_pk,guard_pk2,↓hold_pre,awayP,runOps,regK,step1,newK,genR,appR,obl,buildR,Value.cells,closeK,keepH,outV,retK,ret1,retC,RetV,Option.getD,runD,stepD,afterK,undef,simprocAttr,sxB,↓sxD,sxE,sxTab]))
       exact ⟨v.length,partSt M _ (o'++[35]) v,by omega,le_sub ⟨rfl,rfl,rfl,trivial⟩ ⟨rfl,rfl,rfl,trivial⟩ rfl rfl rfl (keepLt_of rfl),_,o'++[35],v,.inr rfl,by simp;omega,by rw[←hrel,hw];simp,(fun e=>by cases e),rfl,rfl⟩)
     | false=>
      rw[hn]at hw
      simp only[Bool.false_eq_true,if_false]at hw
      rcases hq with rfl|rfl
      all_goals (
       (replace hb0:=true_and True);refine Go1.mk ?_;repeat' ((first|(with_reducible refine Go1.go ?_)|((with_reducible first|refine brv_mk ?_ ?_|refine gsplitD ?_ ?_|refine gsplitG ?_ ?_)<;>intro h<;>(try simp only[Bool.not_eq_true',Bool.not_eq_false']at h)<;>replace hb0:=h)|(((with_reducible refine isCall (f:=62) ?_);refine callA_nil (by kernel_rfl) ?_;refine (run_ok _ _ (by omega) ?_)))|(((with_reducible refine isCall (f:=76) ?_);refine callA_nil (by kernel_rfl) ?_;refine (number_ok _ (by omega) ?_)))|((with_reducible refine isCall (f:=61) ?_);refine callKm [90] rfl (by rfl) (by simp[hasK]) ?_)|((with_reducible refine isCallS (f:=61) ?_);refine (wstr_ok 3 90 _ o' w (by decide) (by omega) (by omega) (by simp) ?_))|(refine And.intro ?_ ?_;(try simp only[sxO]at *);omega)|fail)<;>(try simp (maxSteps:=1000000) only [hb0,partSt,bldH,hW,d2,n0,t0,t1,x1,x2,hn,cE_ment,cE_kill,cls_len,cls_take,cls_drop,cls_agg,cls_cellsG,cls_cellsA,cls_one,cls_ment,cls_kill,z256_def,z256_len,z256_drop,z256_ment,par_len,par_ment,Nat.mul_one,imp_ga,guard_pk,guard_pk2,bs_mk,bs_app,bs_ext,bs_size,bs_toList,bs_at,bs_cells,List.take_length,imp_ga,guard_pk,guard_pk2,↓hold_pre,awayP,runOps,regK,step1,newK,genR,appR,obl,buildR,Value.cells,closeK,keepH,outV,retK,ret1,retC,RetV,Option.getD,runD,stepD,afterK,undef,simprocAttr,sxB,↓sxD,sxE,sxTab]))
       exact ⟨v.length,partSt M _ (o'++w) v,by omega,le_sub ⟨rfl,rfl,rfl,trivial⟩ ⟨rfl,rfl,rfl,trivial⟩ rfl rfl rfl (keepLt_of rfl),_,o'++w,v,.inr rfl,by simp;omega,by rw[←hrel,hw];simp,(fun e=>by cases e),rfl,rfl⟩))
theorem blank_build:∃ob:Prop,ob∧buildR Tryz.prog 103 [(32,.ext (.bool true)),(9,.ext (.bool true)),(13,.ext (.bool true))]=.put ob (.ext (clsV blankB)):=by
 have h1:plT Tryz.prog 103=some (plN 1 false 256 0):=by kernel_rfl
 have h2:zeroC Tryz.prog 103=some (List.replicate 256 (.bool false)):=by kernel_rfl
 have h3:∃ob:Prop,ob∧buildL (plN 1 false 256 0) z256 [(32,.ext (.bool true)),(9,.ext (.bool true)),(13,.ext (.bool true))]=some (ob,clsC blankB):=by
  refine ⟨_,?_,by rfl⟩
  exact ⟨rfl,⟨rfl,rfl⟩,by decide,rfl,⟨rfl,rfl⟩,by decide,rfl,⟨rfl,rfl⟩,by decide,trivial⟩
 obtain ⟨ob,hob,h3⟩:=h3
 refine ⟨ob,hob,?_⟩
 unfold buildR
 rw[h1,h2]
 simp only[z256_def,h3,cls_agg]
end
end Go.Proofs.YtoblkpomikokhaaGreat.Sx
namespace Go.Proofs.YtoblkpomikokhaaGreat.Sx
open Go Go.RowKit
set_option linter.unusedVariables false
set_option linter.unusedSimpArgs false
set_option maxRecDepth 100000
set_option maxHeartbeats 8000000
attribute [local congr] fin_congr finG_congr stepG_congr step1_congr runOps_congr brv_congr obl_congr condK_congr LoopK_congr seqK_congr CutK_congr vc_congr DrawK_congr regK_congr CallK_congr AskK_congr newK_congr retC_congr ret1_congr retK_congr outV_congr closeK_congr genR_congr appR_congr finD_congr finGD_congr stepGD_congr stepD_congr CallK0_congr runD_congr okR_congr CallS_congr vcX_congr
theorem oth_int(c:UInt8):(decide ((c.toNat:Int)=10) || decide (33≤(c.toNat:Int))&&decide ((c.toNat:Int)≤126))=(decide (c.toNat=10) || inR c 33 126):=by
 have h1:decide ((c.toNat:Int)=10)=decide (c.toNat=10):=by rw[decide_eq_decide];omega
 have h2:decide (33≤(c.toNat:Int))=decide (33≤c.toNat):=by rw[decide_eq_decide];omega
 have h3:decide ((c.toNat:Int)≤126)=decide (c.toNat≤126):=by rw[decide_eq_decide];omega
 rw[h1,h2,h3];rfl
section
variable {M:Mem}{K:AV→Hp→Mem→Prop}
def normSt(M:Mem)(p:AV)(o r:List UInt8):St:={env:=[(6,.own 6 0),(5,.own 5 0),(3,.own 3 0),(0,.ext (.string (bs r)))],hp:=(6,103,clsC blankB) :: (5,103,clsC pathB) :: bldH 3 90 p o,M:=M,kb:=0,fx:=[]}
def norm0St(M:Mem):St:={env:=[(3,.own 3 0),(0,.ext (.string (bs [])))],hp:=[(3,102,[.ext (.pointer none),.ext (.slice none 0 0)])],M:=M,kb:=0,fx:=[]}
theorem normal_ok(l:List UInt8)(hl:l.length<1000000000000000)(hK:∀M',Mem.le M M'→K (.ext (.string (bs (normalB l)))) [] M'):CallS Tryz.prog 43 [.ext (.string (bs l))] [] M [] K:=by
 refine inlS (cs:=[]) Tryz.mixed Tryz.func43 rfl (by kernel_rfl) 0 rfl rfl ?_
 simp only[Tryz.f43]
 obtain ⟨ob,hob,hbl⟩:=blank_build
 have hob:=eq_true hob
 have m1:(if (512:Int)<(l.length:Int) then (512:Int) else (l.length:Int))=((min l.length 512:Nat):Int):=by split<;>omega
 have m2:(0:Int)≤((min l.length 512:Nat):Int):=by omega
 have m3:((min l.length 512:Nat):Int)≤(l.length:Int):=by omega
 have m4:l.take (min l.length 512)=l.take 512:=by
  by_cases h:l.length≤512
  ·rw[Nat.min_eq_left h,List.take_of_length_le (Nat.le_refl _),List.take_of_length_le h]
  ·rw[Nat.min_eq_right (by omega)]
 unfold normalB at hK
 obtain ⟨r0,hr0⟩:∃r0,l.take 512=r0:=⟨_,rfl⟩
 have hlen:r0.length≤512:=by rw[←hr0,List.length_take];omega
 rw[hr0]at hK m4
 clear hr0
 cases r0 with
 | nil=>
  have d0:(([]:List UInt8)==[])=true:=rfl
  (replace hb0:=true_and True);refine Go1.mk ?_;repeat' ((first|(with_reducible refine Go1.go ?_)|((with_reducible first|refine brv_mk ?_ ?_|refine gsplitD ?_ ?_|refine gsplitG ?_ ?_)<;>intro h<;>(try simp only[Bool.not_eq_true',Bool.not_eq_false']at h)<;>replace hb0:=h)|(((with_reducible refine isCall (f:=59) ?_);refine callA_nil (by kernel_rfl) ?_;refine (classes_ok ?_)))|(refine And.intro ?_ ?_;(try simp only[sxO]at *);omega)|fail)<;>(try simp (maxSteps:=1000000) only [hb0,hbl,hob,m1,m2,m3,m4,cls_len,cls_take,cls_drop,cls_agg,cls_cellsG,cls_cellsA,cls_one,cls_ment,cls_kill,z256_def,z256_len,z256_drop,z256_ment,par_len,par_ment,Nat.mul_one,imp_ga,guard_pk,guard_pk2,bs_mk,bs_app,bs_ext,bs_size,bs_toList,bs_at,bs_cells,List.take_length,imp_ga,guard_pk,guard_pk2,↓hold_pre,awayP,runOps,regK,step1,newK,genR,appR,obl,Value.cells,closeK,keepH,outV,retK,ret1,retC,RetV,Option.getD,runD,stepD,afterK,undef,simprocAttr,sxB,↓sxD,sxE,sxTab]))
  refine ⟨fun _ z=>z=norm0St M,⟨0,norm0St M,le_sub ⟨rfl,rfl,trivial⟩ ⟨rfl,trivial⟩ rfl rfl rfl (keepLt_of rfl),rfl⟩,?_⟩
  rintro _ z rfl
  (replace hb0:=true_and True);refine Go1.mk ?_;repeat' ((first|(with_reducible refine Go1.go ?_)|((with_reducible first|refine brv_mk ?_ ?_|refine gsplitD ?_ ?_|refine gsplitG ?_ ?_)<;>intro h<;>(try simp only[Bool.not_eq_true',Bool.not_eq_false']at h)<;>replace hb0:=h)|((with_reducible refine isCall (f:=65) ?_);refine callA ?_)|((with_reducible refine isCallS (f:=65) ?_);refine (string_nil 3 _ (by simp) ?_))|(refine And.intro ?_ ?_;(try simp only[sxO]at *);omega)|fail)<;>(try simp (maxSteps:=1000000) only [hb0,norm0St,d0,cls_len,cls_take,cls_drop,cls_agg,cls_cellsG,cls_cellsA,cls_one,cls_ment,cls_kill,z256_def,z256_len,z256_drop,z256_ment,par_len,par_ment,Nat.mul_one,imp_ga,guard_pk,guard_pk2,bs_mk,bs_app,bs_ext,bs_size,bs_toList,bs_at,bs_cells,List.take_length,imp_ga,guard_pk,guard_pk2,↓hold_pre,awayP,runOps,regK,step1,newK,genR,appR,obl,buildR,Value.cells,closeK,keepH,outV,retK,ret1,retC,RetV,Option.getD,runD,stepD,afterK,undef,simprocAttr,sxB,↓sxD,sxE,sxTab]))
  have:=hK M (Mem.le.refl _)
  rw[normB]at this
  exact this
 | cons c0 t0=>
  (replace hb0:=true_and True);refine Go1.mk ?_;repeat' ((first|(with_reducible refine Go1.go ?_)|((with_reducible first|refine brv_mk ?_ ?_|refine gsplitD ?_ ?_|refine gsplitG ?_ ?_)<;>intro h<;>(try simp only[Bool.not_eq_true',Bool.not_eq_false']at h)<;>replace hb0:=h)|(((with_reducible refine isCall (f:=59) ?_);refine callA_nil (by kernel_rfl) ?_;refine (classes_ok ?_)))|(refine And.intro ?_ ?_;(try simp only[sxO]at *);omega)|fail)<;>(try simp (maxSteps:=1000000) only [hb0,hbl,hob,m1,m2,m3,m4,cls_len,cls_take,cls_drop,cls_agg,cls_cellsG,cls_cellsA,cls_one,cls_ment,cls_kill,z256_def,z256_len,z256_drop,z256_ment,par_len,par_ment,Nat.mul_one,imp_ga,guard_pk,guard_pk2,bs_mk,bs_app,bs_ext,bs_size,bs_toList,bs_at,bs_cells,List.take_length,imp_ga,guard_pk,guard_pk2,↓hold_pre,awayP,runOps,regK,step1,newK,genR,appR,obl,Value.cells,closeK,keepH,outV,retK,ret1,retC,RetV,Option.getD,runD,stepD,afterK,undef,simprocAttr,sxB,↓sxD,sxE,sxTab]))
  refine ⟨fun m z=>∃M' p o r,(p=.ext (.pointer none)∨p=.own 3 0)∧Mem.le M M'∧o.length+r.length≤512∧o++normB r=normB (c0 :: t0)∧(r=[]→o≠[])∧m=r.length∧z=normSt M' p o r,⟨(c0 :: t0).length,normSt M (.ext (.pointer none)) [] (c0 :: t0),(le_nilH 3 1 90 5 102 [.ext (.pointer none),.ext (.slice none 0 0)] 1 rfl rfl (.inl rfl)).trans (le_sub ⟨rfl,rfl,rfl,rfl,trivial⟩ ⟨rfl,rfl,rfl,rfl,trivial⟩ rfl rfl rfl (keepLt_of rfl)),⟨M,_,[],c0 :: t0,.inl rfl,Mem.le.refl _,by simpa using hlen,rfl,(fun e=>by cases e),rfl,rfl⟩⟩,?_⟩
  clear hbl m1 m2 m3 m4
  rintro m z ⟨M',p,o,r,hp,hM',hlen',hrel,hne,rfl,rfl⟩
  cases r with
  | nil=>
   have d0:(([]:List UInt8)==[])=true:=rfl
   have e0:o=normB (c0 :: t0):=by rw[←hrel,normB];simp
   have hK:=hK _ hM'
   rw[←e0]at hK
   have ho:=hne rfl
   rcases hp with rfl|rfl
   all_goals (
    (replace hb0:=true_and True);refine Go1.mk ?_;repeat' ((first|(with_reducible refine Go1.go ?_)|((with_reducible first|refine brv_mk ?_ ?_|refine gsplitD ?_ ?_|refine gsplitG ?_ ?_)<;>intro h<;>(try simp only[Bool.not_eq_true',Bool.not_eq_false']at h)<;>replace hb0:=h)|((with_reducible refine isCall (f:=65) ?_);refine callKm [90] rfl (by rfl) (by simp[hasK]) ?_)|((with_reducible refine isCallS (f:=65) ?_);refine (string_ok 3 90 _ o (by decide) (by simp) ho (by omega) ?_))|(refine And.intro ?_ ?_;(try simp only[sxO]at *);omega)|fail)<;>(try simp (maxSteps:=1000000) only [hb0,normSt,bldH,d0,cE_ment,cE_kill,cls_len,cls_take,cls_drop,cls_agg,cls_cellsG,cls_cellsA,cls_one,cls_ment,cls_kill,z256_def,z256_len,z256_drop,z256_ment,par_len,par_ment,Nat.mul_one,imp_ga,guard_pk,guard_pk2,bs_mk,bs_app,bs_ext,bs_size,bs_toList,bs_at,bs_cells,List.take_length,imp_ga,guard_pk,guard_pk2,↓hold_pre,awayP,runOps,regK,step1,newK,genR,appR,obl,buildR,Value.cells,closeK,keepH,outV,retK,ret1,retC,RetV,Option.getD,runD,stepD,afterK,undef,simprocAttr,sxB,↓sxD,sxE,sxTab]))
    exact hK)
  | cons c t=>
   have d0:((c :: t)==[])=false:=rfl
   have hL:(c :: t).length=t.length+1:=rfl
   have a0:(0:Int)<(((c :: t).length:Nat):Int):=by simp only[List.length_cons];omega
   have a1:(1:Int)≤(((c :: t).length:Nat):Int):=by simp only[List.length_cons];omega
   have g0:(c :: t).getD 0 0=c:=rfl
   have cp:=cls_at pathB c
   have cb:=cls_at blankB c
   have c1:(0:Int)≤(c.toNat:Int):=by omega
   have c2:(c.toNat:Int)<256:=by have:=c.toNat_lt;omega
   by_cases hq:0<quoB (c :: t)
   ·have hn:normB (c :: t)=34 :: 34 :: normB ((c :: t).drop (quoB (c :: t))):=by rw[normB,if_pos hq]
    have hqle:quoB (c :: t)≤(c :: t).length:=by
     simp only[quoB]
     split
     ·have hh:=congrArg List.length (List.takeWhile_append_dropWhile (p:=qst) (l:=t))
      rw[List.length_append]at hh
      split
      ·rename_i e
       rw[e]at hh
       simp only[List.length_cons]at hh ⊢
       split<;>omega
      ·omega
     ·omega
    have hq2:2≤quoB (c :: t):=by
     revert hq
     simp only[quoB]
     split
     ·split
      ·split<;>omega
      ·omega
     ·omega
    obtain ⟨q,hQ⟩:∃q,quoB (c :: t)=q:=⟨_,rfl⟩
    rw[hQ]at hq hn hqle hq2
    have q1:decide ((0:Int)<(q:Int))=true:=by simp;omega
    have q2:(0:Int)≤(q:Int):=by omega
    have q3:(q:Int)≤(((c :: t).length:Nat):Int):=by omega
    have hdl:((c :: t).drop q).length=(c :: t).length-q:=List.length_drop
    obtain ⟨v,hv⟩:∃v,(c :: t).drop q=v:=⟨_,rfl⟩
    rw[hv]at hn hdl
    rcases hp with rfl|rfl
    all_goals (
     (replace hb0:=true_and True);refine Go1.mk ?_;repeat' ((first|(with_reducible refine Go1.go ?_)|((with_reducible first|refine brv_mk ?_ ?_|refine gsplitD ?_ ?_|refine gsplitG ?_ ?_)<;>intro h<;>(try simp only[Bool.not_eq_true',Bool.not_eq_false']at h)<;>replace hb0:=h)|(((with_reducible refine isCall (f:=60) ?_);refine callA_nil (by kernel_rfl) ?_;refine (quoted_ok c t (by omega) (fun M2 hM2=>?_))))|((with_reducible refine isCall (f:=61) ?_);refine callKm [90] rfl (by rfl) (by simp[hasK]) ?_)|((with_reducible refine isCallS (f:=61) ?_);refine (wstr_ok 3 90 _ o [34,34] (by decide) (by omega) (by decide) (by simp) ?_))|(refine And.intro ?_ ?_;(try simp only[sxO]at *);omega)|fail)<;>(try simp (maxSteps:=1000000) only [hb0,normSt,bldH,d0,a0,g0,hQ,q1,q2,q3,hv,cE_ment,cE_kill,cls_len,cls_take,cls_drop,cls_agg,cls_cellsG,cls_cellsA,cls_one,cls_ment,cls_kill,z256_def,z256_len,z256_drop,z256_ment,par_len,par_ment,Nat.mul_one,imp_ga,guard_pk,guard_pk2,bs_mk,bs_app,bs_ext,bs_size,bs_toList,bs_at,bs_cells,List.take_length,imp_ga,guard_pk,guard_pk2,↓hold_pre,awayP,runOps,regK,step1,newK,genR,appR,obl,buildR,Value.cells,closeK,keepH,outV,retK,ret1,retC,RetV,Option.getD,runD,stepD,afterK,undef,simprocAttr,sxB,↓sxD,sxE,sxTab]))
     rename_i Ma hMa
     have hMa:Mem.le M' Ma:=hMa
     have hM2:Mem.le Ma M2:=hM2
     exact ⟨v.length,normSt M2 _ (o++[34,34]) v,by simp only[List.length_cons]at *;omega,le_sub ⟨rfl,rfl,rfl,rfl,trivial⟩ ⟨rfl,rfl,rfl,rfl,trivial⟩ rfl rfl rfl (keepLt_of rfl),M2,_,o++[34,34],v,.inr rfl,(hM'.trans hMa).trans hM2,by simp only[List.length_append,List.length_cons,List.length_nil]at *;omega,by rw[←hrel,hn];simp,fun _=>by simp,rfl,rfl⟩)
   ·have q0:quoB (c :: t)=0:=by omega
    have hQ:=q0
    have q1:decide ((0:Int)<((0:Nat):Int))=false:=by decide
    cases hpc:pathB c with
    | true=>
     rw[hpc]at cp
     have hn:normB (c :: t)=partB ((c :: t).takeWhile pathB)++normB ((c :: t).dropWhile pathB):=by rw[normB,if_neg hq,dif_pos hpc]
     have hdl:=dropW_lt (r:=t) hpc
     have hpos:0<((c :: t).takeWhile pathB).length:=by rw[List.takeWhile_cons_of_pos hpc];simp
     have hadd:=congrArg List.length (List.takeWhile_append_dropWhile (p:=pathB) (l:=c :: t))
     rw[List.length_append]at hadd
     have x1:=take_tw (p:=pathB) (c :: t)
     have x2:=drop_tw (p:=pathB) (c :: t)
     obtain ⟨w,hW⟩:∃w,(c :: t).takeWhile pathB=w:=⟨_,rfl⟩
     obtain ⟨v,hV⟩:∃v,(c :: t).dropWhile pathB=v:=⟨_,rfl⟩
     simp only[hW,hV]at hn hdl hpos hadd x1 x2
     have t1:(w.length:Int)≤(((c :: t).length:Nat):Int):=by omega
     have t0:(0:Int)≤(w.length:Int):=by omega
     have hpl:=part_len (l:=w) (fun e=>by rw[e]at hpos;simp at hpos)
     have hpn:partB w≠[]:=by
      unfold partB
      split
      ·simp
      ·rename_i hb;exact fun e=>hb (words_nil e)
     rcases hp with rfl|rfl
     all_goals (
      (replace hb0:=true_and True);refine Go1.mk ?_;repeat' ((first|(with_reducible refine Go1.go ?_)|((with_reducible first|refine brv_mk ?_ ?_|refine gsplitD ?_ ?_|refine gsplitG ?_ ?_)<;>intro h<;>(try simp only[Bool.not_eq_true',Bool.not_eq_false']at h)<;>replace hb0:=h)|(((with_reducible refine isCall (f:=60) ?_);refine callA_nil (by kernel_rfl) ?_;refine (quoted_ok c t (by omega) (fun M2 hM2=>?_))))|(((with_reducible refine isCall (f:=62) ?_);refine callA_nil (by kernel_rfl) ?_;refine (run_ok _ _ (by omega) ?_)))|((with_reducible refine isCall (f:=63) ?_);refine callKm [90] rfl (by rfl) (by simp[hasK]) ?_)|((with_reducible refine isCallS (f:=63) ?_);refine (part_ok _ o w (by simp) (by omega) ?_))|(refine And.intro ?_ ?_;(try simp only[sxO]at *);omega)|fail)<;>(try simp (maxSteps:=1000000) only [hb0,normSt,bldH,d0,a0,g0,hQ,q1,cp,c1,c2,hW,x1,x2,t0,t1,cE_ment,cE_kill,cls_len,cls_take,cls_drop,cls_agg,cls_cellsG,cls_cellsA,cls_one,cls_ment,cls_kill,z256_def,z256_len,z256_drop,z256_ment,par_len,par_ment,Nat.mul_one,imp_ga,guard_pk,guard_pk2,bs_mk,bs_app,bs_ext,bs_size,bs_toList,bs_at,bs_cells,List.take_length,imp_ga,guard_pk,guard_pk2,↓hold_pre,awayP,runOps,regK,step1,newK,genR,appR,obl,buildR,Value.cells,closeK,keepH,outV,retK,ret1,retC,RetV,Option.getD,runD,stepD,afterK,undef,simprocAttr,sxB,↓sxD,sxE,sxTab]))
      have hM2:Mem.le M' M2:=hM2
      exact ⟨v.length,normSt M2 _ (o++partB w) v,by simp only[List.length_cons]at *;omega,le_sub ⟨rfl,rfl,rfl,rfl,trivial⟩ ⟨rfl,rfl,rfl,rfl,trivial⟩ rfl rfl rfl (keepLt_of rfl),M2,_,o++partB w,v,.inr rfl,hM'.trans hM2,by simp only[List.length_append,List.length_cons]at *;omega,by rw[←hrel,hn];simp,fun _=>by simp[hpn],rfl,rfl⟩)
    | false=>
     rw[hpc]at cp
     cases hbc:blankB c with
     | true=>
      rw[hbc]at cb
      have hn:normB (c :: t)=32 :: normB ((c :: t).dropWhile blankB):=by rw[normB,if_neg hq,dif_neg (by simp[hpc]),dif_pos hbc]
      have hdl:=dropW_lt (r:=t) hbc
      have hadd:=congrArg List.length (List.takeWhile_append_dropWhile (p:=blankB) (l:=c :: t))
      rw[List.length_append]at hadd
      have x2:=drop_tw (p:=blankB) (c :: t)
      obtain ⟨w,hW⟩:∃w,(c :: t).takeWhile blankB=w:=⟨_,rfl⟩
      obtain ⟨v,hV⟩:∃v,(c :: t).dropWhile blankB=v:=⟨_,rfl⟩
      simp only[hW,hV]at hn hdl hadd x2
      have t1:(w.length:Int)≤(((c :: t).length:Nat):Int):=by omega
      have t0:(0:Int)≤(w.length:Int):=by omega
      rcases hp with rfl|rfl
      all_goals (
       (replace hb0:=true_and True);refine Go1.mk ?_;repeat' ((first|(with_reducible refine Go1.go ?_)|((with_reducible first|refine brv_mk ?_ ?_|refine gsplitD ?_ ?_|refine gsplitG ?_ ?_)<;>intro h<;>(try simp only[Bool.not_eq_true',Bool.not_eq_false']at h)<;>replace hb0:=h)|(((with_reducible refine isCall (f:=60) ?_);refine callA_nil (by kernel_rfl) ?_;refine (quoted_ok c t (by omega) (fun M2 hM2=>?_))))|(((with_reducible refine isCall (f:=62) ?_);refine callA_nil (by kernel_rfl) ?_;refine (run_ok _ _ (by omega) ?_)))|((with_reducible refine isCall (f:=64) ?_);refine callKm [90] rfl (by rfl) (by simp[hasK]) ?_)|((with_reducible refine isCallS (f:=64) ?_);refine (wbyte_ok 3 90 _ o 32 _ rfl (by decide) (by omega) (by simp) ?_))|(refine And.intro ?_ ?_;(try simp only[sxO]at *);omega)|fail)<;>(try simp (maxSteps:=1000000) only [hb0,normSt,bldH,d0,a0,g0,hQ,q1,cp,cb,c1,c2,hW,x2,t0,t1,cE_ment,cE_kill,cls_len,cls_take,cls_drop,cls_agg,cls_cellsG,cls_cellsA,cls_one,cls_ment,cls_kill,z256_def,z256_len,z256_drop,z256_ment,par_len,par_ment,Nat.mul_one,imp_ga,guard_pk,guard_pk2,bs_mk,bs_app,bs_ext,bs_size,bs_toList,bs_at,bs_cells,List.take_length,imp_ga,guard_pk,guard_pk2,↓hold_pre,awayP,runOps,regK,step1,newK,genR,appR,obl,buildR,Value.cells,closeK,keepH,outV,retK,ret1,retC,RetV,Option.getD,runD,stepD,afterK,undef,simprocAttr,sxB,↓sxD,sxE,sxTab]))
       have hM2:Mem.le M' M2:=hM2
       exact ⟨v.length,normSt M2 _ (o++[32]) v,by simp only[List.length_cons]at *;omega,le_sub ⟨rfl,rfl,rfl,rfl,trivial⟩ ⟨rfl,rfl,rfl,rfl,trivial⟩ rfl rfl rfl (keepLt_of rfl),M2,_,o++[32],v,.inr rfl,hM'.trans hM2,by simp only[List.length_append,List.length_cons,List.length_nil]at *;omega,by rw[←hrel,hn];simp,fun _=>by simp,rfl,rfl⟩)
     | false=>
      rw[hbc]at cb
      have hn:normB (c :: t)=othB c :: normB t:=by rw[normB,if_neg hq,dif_neg (by simp[hpc]),dif_neg (by simp[hbc])]
      have x0:=oth_int c
      have x2:List.drop 1 (c :: t)=t:=rfl
      cases ho:(decide (c.toNat=10) || inR c 33 126) with
      | true=>
       rw[ho]at x0
       have e1:othB c=c:=by unfold othB;rw[ho];rfl
       rw[e1]at hn
       rcases hp with rfl|rfl
       all_goals (
        (replace hb0:=true_and True);refine Go1.mk ?_;repeat' ((first|(with_reducible refine Go1.go ?_)|((with_reducible first|refine brv_mk ?_ ?_|refine gsplitD ?_ ?_|refine gsplitG ?_ ?_)<;>intro h<;>(try simp only[Bool.not_eq_true',Bool.not_eq_false']at h)<;>replace hb0:=h)|(((with_reducible refine isCall (f:=60) ?_);refine callA_nil (by kernel_rfl) ?_;refine (quoted_ok c t (by omega) (fun M2 hM2=>?_))))|((with_reducible refine isCall (f:=64) ?_);refine callKm [90] rfl (by rfl) (by simp[hasK]) ?_)|((with_reducible refine isCallS (f:=64) ?_);refine (wbyte_ok 3 90 _ o c _ rfl (by decide) (by omega) (by simp) ?_))|(refine And.intro ?_ ?_;(try simp only[sxO]at *);omega)|fail)<;>(try simp (maxSteps:=1000000) only [hb0,normSt,bldH,d0,a0,a1,g0,hQ,q1,cp,cb,c1,c2,x0,Int.toNat_one,Int.cast_ofNat_Int,cE_ment,cE_kill,cls_len,cls_take,cls_drop,cls_agg,cls_cellsG,cls_cellsA,cls_one,cls_ment,cls_kill,z256_def,z256_len,z256_drop,z256_ment,par_len,par_ment,Nat.mul_one,imp_ga,guard_pk,guard_pk2,bs_mk,bs_app,bs_ext,bs_size,bs_toList,bs_at,bs_cells,List.take_length,imp_ga,guard_pk,guard_pk2,↓hold_pre,awayP,runOps,regK,step1,newK,genR,appR,obl,buildR,Value.cells,closeK,keepH,outV,retK,ret1,retC,RetV,Option.getD,runD,stepD,afterK,undef,simprocAttr,sxB,↓sxD,sxE,sxTab]))
        have hM2:Mem.le M' M2:=hM2
        exact ⟨t.length,normSt M2 _ (o++[c]) t,by simp only[List.length_cons]at *;omega,le_sub ⟨rfl,rfl,rfl,rfl,trivial⟩ ⟨rfl,rfl,rfl,rfl,trivial⟩ rfl rfl rfl (keepLt_of rfl),M2,_,o++[c],t,.inr rfl,hM'.trans hM2,by simp only[List.length_append,List.length_cons,List.length_nil]at *;omega,by rw[←hrel,hn];simp,fun _=>by simp,rfl,rfl⟩)
      | false=>
       rw[ho]at x0
       have e1:othB c=63:=by unfold othB;rw[ho];rfl
       rw[e1]at hn
       rcases hp with rfl|rfl
       all_goals (
        (replace hb0:=true_and True);refine Go1.mk ?_;repeat' ((first|(with_reducible refine Go1.go ?_)|((with_reducible first|refine brv_mk ?_ ?_|refine gsplitD ?_ ?_|refine gsplitG ?_ ?_)<;>intro h<;>(try simp only[Bool.not_eq_true',Bool.not_eq_false']at h)<;>replace hb0:=h)|(((with_reducible refine isCall (f:=60) ?_);refine callA_nil (by kernel_rfl) ?_;refine (quoted_ok c t (by omega) (fun M2 hM2=>?_))))|((with_reducible refine isCall (f:=64) ?_);refine callKm [90] rfl (by rfl) (by simp[hasK]) ?_)|((with_reducible refine isCallS (f:=64) ?_);refine (wbyte_ok 3 90 _ o 63 _ rfl (by decide) (by omega) (by simp) ?_))|(refine And.intro ?_ ?_;(try simp only[sxO]at *);omega)|fail)<;>(try simp (maxSteps:=1000000) only [hb0,normSt,bldH,d0,a0,a1,g0,hQ,q1,cp,cb,c1,c2,x0,Int.toNat_one,Int.cast_ofNat_Int,cE_ment,cE_kill,cls_len,cls_take,cls_drop,cls_agg,cls_cellsG,cls_cellsA,cls_one,cls_ment,cls_kill,z256_def,z256_len,z256_drop,z256_ment,par_len,par_ment,Nat.mul_one,imp_ga,guard_pk,guard_pk2,bs_mk,bs_app,bs_ext,bs_size,bs_toList,bs_at,bs_cells,List.take_length,imp_ga,guard_pk,guard_pk2,↓hold_pre,awayP,runOps,regK,step1,newK,genR,appR,obl,buildR,Value.cells,closeK,keepH,outV,retK,ret1,retC,RetV,Option.getD,runD,stepD,afterK,undef,simprocAttr,sxB,↓sxD,sxE,sxTab]))
        have hM2:Mem.le M' M2:=hM2
        exact ⟨t.length,normSt M2 _ (o++[63]) t,by simp only[List.length_cons]at *;omega,le_sub ⟨rfl,rfl,rfl,rfl,trivial⟩ ⟨rfl,rfl,rfl,rfl,trivial⟩ rfl rfl rfl (keepLt_of rfl),M2,_,o++[63],t,.inr rfl,hM'.trans hM2,by simp only[List.length_append,List.length_cons,List.length_nil]at *;omega,by rw[←hrel,hn];simp,fun _=>by simp,rfl,rfl⟩)
end
end Go.Proofs.YtoblkpomikokhaaGreat.Sx
set_option linter.unusedVariables false
namespace Go.Proofs.YtoblkpomikokhaaGreat.Sx
variable {α:Type}[DecidableEq α]
def twiB(l:List α)(k:Nat):Bool:=decide (2*k≤l.length)&&decide (l.drop (l.length-k)=(l.drop (l.length-2*k)).take k)
def fstep(out:List α)(s:α):List α:=
 let l:=out++[s]
 if twiB l 1 then l.take (l.length-1) else if twiB l 2 then l.take (l.length-2) else if twiB l 3 then l.take (l.length-3) else if twiB l 4 then l.take (l.length-4) else l
def foldB(l:List α):List α:=l.foldl fstep []
theorem twi_le{l:List α}{k:Nat}(h:twiB l k=true):2*k≤l.length:=by
 simp only[twiB,Bool.and_eq_true,decide_eq_true_eq]at h;exact h.1
theorem fstep_cases(out:List α)(s:α):(∃k,1≤k∧k≤4∧twiB (out++[s]) k=true∧fstep out s=(out++[s]).take ((out++[s]).length-k))∨((∀k,1≤k→k≤4→twiB (out++[s]) k=false)∧fstep out s=out++[s]):=by
 simp only[fstep]
 by_cases h1:twiB (out++[s]) 1=true
 ·exact .inl ⟨1,by omega,by omega,h1,by rw[if_pos h1]⟩
 by_cases h2:twiB (out++[s]) 2=true
 ·exact .inl ⟨2,by omega,by omega,h2,by rw[if_neg h1,if_pos h2]⟩
 by_cases h3:twiB (out++[s]) 3=true
 ·exact .inl ⟨3,by omega,by omega,h3,by rw[if_neg h1,if_neg h2,if_pos h3]⟩
 by_cases h4:twiB (out++[s]) 4=true
 ·exact .inl ⟨4,by omega,by omega,h4,by rw[if_neg h1,if_neg h2,if_neg h3,if_pos h4]⟩
 ·refine .inr ⟨fun k ha hb=>?_,by rw[if_neg h1,if_neg h2,if_neg h3,if_neg h4]⟩
  have:k=1∨k=2∨k=3∨k=4:=by omega
  rcases this with rfl|rfl|rfl|rfl<;>simp_all
end Go.Proofs.YtoblkpomikokhaaGreat.Sx
namespace Go.Proofs.YtoblkpomikokhaaGreat.Sx
open Go Go.RowKit
set_option linter.unusedVariables false
set_option linter.unusedSimpArgs false
set_option maxRecDepth 100000
set_option maxHeartbeats 8000000
attribute [local congr] fin_congr finG_congr stepG_congr step1_congr runOps_congr brv_congr obl_congr condK_congr LoopK_congr seqK_congr CutK_congr vc_congr DrawK_congr regK_congr CallK_congr AskK_congr newK_congr retC_congr ret1_congr retK_congr outV_congr closeK_congr genR_congr appR_congr finD_congr finGD_congr stepGD_congr stepD_congr CallK0_congr runD_congr okR_congr CallS_congr vcX_congr
theorem fstep_hit{α:Type}[DecidableEq α]{out:List α}{s:α}{k:Nat}(h1:1≤k)(h4:k≤4)(hno:∀j,1≤j→j<k→twiB (out++[s]) j=false)(ht:twiB (out++[s]) k=true):fstep out s=(out++[s]).take ((out++[s]).length-k):=by
 have:k=1∨k=2∨k=3∨k=4:=by omega
 simp only[fstep]
 rcases this with rfl|rfl|rfl|rfl
 ·rw[if_pos ht]
 ·rw[if_neg (by simp[hno 1 (by omega) (by omega)]),if_pos ht]
 ·rw[if_neg (by simp[hno 1 (by omega) (by omega)]),if_neg (by simp[hno 2 (by omega) (by omega)]),if_pos ht]
 ·rw[if_neg (by simp[hno 1 (by omega) (by omega)]),if_neg (by simp[hno 2 (by omega) (by omega)]),if_neg (by simp[hno 3 (by omega) (by omega)]),if_pos ht]
theorem fstep_miss{α:Type}[DecidableEq α]{out:List α}{s:α}{k:Nat}(hk:¬(k≤4∧2*k≤(out++[s]).length))(hno:∀j,1≤j→j<k→twiB (out++[s]) j=false):fstep out s=out++[s]:=by
 have h:∀j,1≤j→j≤4→twiB (out++[s]) j=false:=fun j h1 h4=>by
  by_cases hj:j<k
  ·exact hno j h1 hj
  ·cases ht:twiB (out++[s]) j with
   | false=>rfl
   | true=>have:=twi_le ht;exact absurd ⟨by omega,by omega⟩ hk
 simp only[fstep]
 rw[if_neg (by simp[h 1 (by omega) (by omega)]),if_neg (by simp[h 2 (by omega) (by omega)]),if_neg (by simp[h 3 (by omega) (by omega)]),if_neg (by simp[h 4 (by omega) (by omega)])]
section
variable {M:Mem}{K:AV→Hp→Mem→Prop}
def foSt(M:Mem)(u:Value)(n i:Nat)(o:List Bst):St:={env:=[(9,.ext (.int .i64 (i:Int))),(8,.ext (.int .i64 (n:Int))),(7,.ext u),(3,.slo 90 0 o.length 1)],hp:=[(90,9,cE sbV o)],M:=M,kb:=0,fx:=[]}
def fkSt(M:Mem)(u:Value)(n i:Nat)(o:List Bst)(k:Nat):St:={env:=[(6,.ext (.int .i64 (k:Int))),(9,.ext (.int .i64 (i:Int))),(8,.ext (.int .i64 (n:Int))),(7,.ext u),(3,.slo 90 0 o.length 1)],hp:=[(90,9,cE sbV o)],M:=M,kb:=0,fx:=[]}
theorem foldM_ok(u:Value)(l:List Bst)(hu:IsL M sbV u l)(hl:l.length<1000000)(hK:∀u' M',Mem.le M M'→IsL M' sbV u' (foldB l)→FreshS M u'→K (.ext u') [] M'):CallS Tryz.prog 67 [.ext u] [] M [] K:=by
 refine CallS.frzF ?_
 refine inlS (cs:=[]) Tryz.mixed Tryz.func67 rfl (by kernel_rfl) 0 rfl rfl ?_
 simp only[Tryz.f67]
 (replace hb0:=true_and True);refine Go1.mk ?_;repeat' ((first|(with_reducible refine Go1.go ?_)|((with_reducible first|refine brv_mk ?_ ?_|refine gsplitD ?_ ?_|refine gsplitG ?_ ?_)<;>intro h<;>(try simp only[Bool.not_eq_true',Bool.not_eq_false']at h)<;>replace hb0:=h)|((with_reducible refine isDraw [some 28,some 29,some 30,some 31,some 32,some 33,some 34,some 35,some 36,some 37,some 38,some 39,some 40,some 41,some 42,some 43,some 44,some 45] (by decide) ?_);refine draw_rule [(0,[]),(1,[]),(2,[]),(3,[]),(4,[]),(5,[]),(6,[5]),(7,[5]),(8,[5]),(9,[5]),(10,[5]),(11,[5]),(12,[5]),(13,[5]),(14,[5]),(15,[5]),(16,[5]),(17,[])] [[],[],[1],[],[1,2,3],[0,1,2,3,4],[],[],[7],[],[9],[7,8,9,10],[],[12],[],[12,13,14],[6,7,8,9,10,11,12,13,14,15],[0,1,2,3,4,5,6,7,8,9,10,11,12,13,14,15,16]] [28,29,30,31,32,33,34,35,36,37,38,39,40,41,42,43,44] [] (by kernel_rfl) (by kernel_rfl) (by kernel_rfl) (by kernel_rfl) (by exact trivial) ?_)|(refine And.intro ?_ ?_;(try simp only[sxO]at *);omega)|fail)<;>(try simp (maxSteps:=1000000) only [hb0,hu.len,hu.sl,↓hold_pre,awayP,runOps,regK,step1,newK,genR,appR,obl,buildR,Value.cells,closeK,keepH,outV,retK,ret1,retC,RetV,Option.getD,runD,stepD,afterK,undef,simprocAttr,sxB,↓sxD,sxE,sxTab]))
 refine ⟨fun m z=>∃i o,i≤l.length∧o=(l.take i).foldl fstep []∧o.length≤i∧m=l.length-i∧z=foSt M u l.length i o,⟨l.length,foSt M u l.length 0 [],(le_nil 3 90 9 1 rfl (.inl rfl)).trans (le_sub ⟨rfl,rfl,rfl,rfl,trivial⟩ ⟨rfl,trivial⟩ rfl rfl rfl (keepLt0 _)),⟨0,[],by omega,rfl,by simp,rfl,rfl⟩⟩,?_⟩
 rintro m z ⟨i,o,hi,ho,hol,rfl,rfl⟩
 by_cases hlt:i<l.length
 ·have f1:=hu.idx (P:=Tryz.prog) (T:=9) tk9 tz9 (by omega) hlt
  (replace hb0:=true_and True);refine Go1.mk ?_;repeat' ((first|(with_reducible refine Go1.go ?_)|((with_reducible first|refine brv_mk ?_ ?_|refine gsplitD ?_ ?_|refine gsplitG ?_ ?_)<;>intro h<;>(try simp only[Bool.not_eq_true',Bool.not_eq_false']at h)<;>replace hb0:=h)|((with_reducible refine isDraw [some 28,some 29,some 30,some 31,some 32,some 33,some 34,some 35,some 36,some 37,some 38,some 39,some 40,some 41,some 42,some 43,some 44,some 45] (by decide) ?_);refine draw_rule [(0,[]),(1,[]),(2,[]),(3,[]),(4,[]),(5,[]),(6,[5]),(7,[5]),(8,[5]),(9,[5]),(10,[5]),(11,[5]),(12,[5]),(13,[5]),(14,[5]),(15,[5]),(16,[5]),(17,[])] [[],[],[1],[],[1,2,3],[0,1,2,3,4],[],[],[7],[],[9],[7,8,9,10],[],[12],[],[12,13,14],[6,7,8,9,10,11,12,13,14,15],[0,1,2,3,4,5,6,7,8,9,10,11,12,13,14,15,16]] [28,29,30,31,32,33,34,35,36,37,38,39,40,41,42,43,44] [] (by kernel_rfl) (by kernel_rfl) (by kernel_rfl) (by kernel_rfl) (by exact trivial) ?_)|(refine And.intro ?_ ?_;(try simp only[sxO]at *);omega)|fail)<;>(try simp (maxSteps:=1000000) only [hb0,foSt,f1,sbV,str_snoc,cE_ment,cE_len,hasK_nil,maxLen,Nat.mul_one,↓hold_pre,awayP,runOps,regK,step1,newK,genR,appR,obl,buildR,Value.cells,closeK,keepH,outV,retK,ret1,retC,RetV,Option.getD,runD,stepD,afterK,undef,simprocAttr,sxB,↓sxD,sxE,sxTab]))
  obtain ⟨o',ho'⟩:∃o',o++[l[i]]=o':=⟨_,rfl⟩
  have hlen':o'.length=o.length+1:=by rw[←ho'];simp
  rw[ho',←hlen']
  have hnext:(l.take (i+1)).foldl fstep []=fstep o l[i]:=by rw[List.take_succ_eq_append_getElem hlt,List.foldl_append,←ho];rfl
  refine ⟨fun m z=>∃k,1≤k∧k≤5∧(∀j,1≤j→j<k→twiB o' j=false)∧m=5-k∧z=fkSt M u l.length i o' k,⟨4,fkSt M u l.length i o' 1,le_sub ⟨rfl,rfl,rfl,rfl,rfl,trivial⟩ ⟨rfl,trivial⟩ rfl rfl rfl (keepLt0 _),⟨1,by omega,by omega,fun j h1 h2=>by omega,rfl,rfl⟩⟩,?_⟩
  rintro m z ⟨k,hk1,hk5,hno,rfl,rfl⟩
  by_cases hc:k≤4∧2*k≤o'.length
  ·obtain ⟨c1,c2⟩:=hc
   have d1:decide ((k:Int)≤4)=true:=by simp;omega
   have w1:IntKind.i64.wrap (2*(k:Int))=((2*k:Nat):Int):=by rw[wrap_id (by omega) (by omega)];omega
   have w2:IntKind.i64.wrap ((o'.length:Int)-(k:Int))=((o'.length-k:Nat):Int):=by rw[wrap_id (by omega) (by omega)];omega
   have w3:IntKind.i64.wrap ((o'.length:Int)-((2*k:Nat):Int))=((o'.length-2*k:Nat):Int):=by rw[wrap_id (by omega) (by omega)];omega
   have w4:IntKind.i64.wrap ((k:Int)+1)=((k+1:Nat):Int):=by rw[wrap_id (by omega) (by omega)];omega
   have d2:decide (((2*k:Nat):Int)≤(o'.length:Int))=true:=by simp;omega
   have b1:(0:Int)≤((o'.length-k:Nat):Int):=by omega
   have b2:((o'.length-k:Nat):Int)≤(o'.length:Int):=by omega
   have b3:(0:Int)≤((o'.length-2*k:Nat):Int):=by omega
   have b4:((o'.length-2*k:Nat):Int)≤((o'.length-k:Nat):Int):=by omega
   have s1:o'.length-(o'.length-k)=k:=by omega
   have s2:o'.length-k-(o'.length-2*k)=k:=by omega
   have eT:decide ((o'.drop (o'.length-k)).take k=(o'.drop (o'.length-2*k)).take k)=twiB o' k:=by
    have:decide (2*k≤o'.length)=true:=by simp;omega
    unfold twiB
    rw[this,Bool.true_and,List.take_of_length_le (l:=o'.drop (o'.length-k)) (by rw[List.length_drop];omega)]
   cases ht:twiB o' k with
   | true=>
    rw[ht]at eT
    (replace hb0:=true_and True);refine Go1.mk ?_;repeat' ((first|(with_reducible refine Go1.go ?_)|((with_reducible first|refine brv_mk ?_ ?_|refine gsplitD ?_ ?_|refine gsplitG ?_ ?_)<;>intro h<;>(try simp only[Bool.not_eq_true',Bool.not_eq_false']at h)<;>replace hb0:=h)|((with_reducible refine isCall0 (f:=78) ?_);refine callA0 ?_)|((with_reducible refine isCallS (f:=78) ?_);refine (equalS_bor (L:=o') (by omega) (by omega) (by omega) ?_))|((with_reducible refine isDraw [some 28,some 29,some 30,some 31,some 32,some 33,some 34,some 35,some 36,some 37,some 38,some 39,some 40,some 41,some 42,some 43,some 44,some 45] (by decide) ?_);refine draw_rule [(0,[]),(1,[]),(2,[]),(3,[]),(4,[]),(5,[]),(6,[5]),(7,[5]),(8,[5]),(9,[5]),(10,[5]),(11,[5]),(12,[5]),(13,[5]),(14,[5]),(15,[5]),(16,[5]),(17,[])] [[],[],[1],[],[1,2,3],[0,1,2,3,4],[],[],[7],[],[9],[7,8,9,10],[],[12],[],[12,13,14],[6,7,8,9,10,11,12,13,14,15],[0,1,2,3,4,5,6,7,8,9,10,11,12,13,14,15,16]] [28,29,30,31,32,33,34,35,36,37,38,39,40,41,42,43,44] [] (by kernel_rfl) (by kernel_rfl) (by kernel_rfl) (by kernel_rfl) (by exact trivial) ?_)|(refine And.intro ?_ ?_;(try simp only[sxO]at *);omega)|fail)<;>(try simp (maxSteps:=1000000) only [hb0,fkSt,f1,Nat.sub_zero,d1,d2,w1,w2,w3,b1,b2,b3,b4,s1,s2,eT,cE_ment,cE_len,hasK_nil,Nat.mul_one,↓hold_pre,awayP,runOps,regK,step1,newK,genR,appR,obl,buildR,Value.cells,closeK,keepH,outV,retK,ret1,retC,RetV,Option.getD,runD,stepD,afterK,undef,simprocAttr,sxB,↓sxD,sxE,sxTab]))
    have hs:fstep o l[i]=o'.take (o'.length-k):=by
     have:=fstep_hit hk1 c1 (by rw[ho'];exact hno) (by rw[ho'];exact ht)
     rw[ho']at this
     exact this
    have hl2:(o'.take (o'.length-k)).length=o'.length-k:=by rw[List.length_take];omega
    refine ⟨l.length-(i+1),foSt M u l.length (i+1) (o'.take (o'.length-k)),by omega,(le_take 90 (o'.length-k) 9 (cE sbV o') rfl).trans (le_sub ⟨rfl,rfl,rfl,by rw[hl2];rfl,trivial⟩ ⟨?_,trivial⟩ rfl rfl rfl (keepLt0 _)),i+1,_,by omega,by rw[hnext,hs],by omega,rfl,rfl⟩
    simp[upH,lkH,cE_take]
   | false=>
    rw[ht]at eT
    (replace hb0:=true_and True);refine Go1.mk ?_;repeat' ((first|(with_reducible refine Go1.go ?_)|((with_reducible first|refine brv_mk ?_ ?_|refine gsplitD ?_ ?_|refine gsplitG ?_ ?_)<;>intro h<;>(try simp only[Bool.not_eq_true',Bool.not_eq_false']at h)<;>replace hb0:=h)|((with_reducible refine isCall0 (f:=78) ?_);refine callA0 ?_)|((with_reducible refine isCallS (f:=78) ?_);refine (equalS_bor (L:=o') (by omega) (by omega) (by omega) ?_))|((with_reducible refine isDraw [some 28,some 29,some 30,some 31,some 32,some 33,some 34,some 35,some 36,some 37,some 38,some 39,some 40,some 41,some 42,some 43,some 44,some 45] (by decide) ?_);refine draw_rule [(0,[]),(1,[]),(2,[]),(3,[]),(4,[]),(5,[]),(6,[5]),(7,[5]),(8,[5]),(9,[5]),(10,[5]),(11,[5]),(12,[5]),(13,[5]),(14,[5]),(15,[5]),(16,[5]),(17,[])] [[],[],[1],[],[1,2,3],[0,1,2,3,4],[],[],[7],[],[9],[7,8,9,10],[],[12],[],[12,13,14],[6,7,8,9,10,11,12,13,14,15],[0,1,2,3,4,5,6,7,8,9,10,11,12,13,14,15,16]] [28,29,30,31,32,33,34,35,36,37,38,39,40,41,42,43,44] [] (by kernel_rfl) (by kernel_rfl) (by kernel_rfl) (by kernel_rfl) (by exact trivial) ?_)|(refine And.intro ?_ ?_;(try simp only[sxO]at *);omega)|fail)<;>(try simp (maxSteps:=1000000) only [hb0,fkSt,d1,d2,w1,w2,w3,w4,b1,b2,b3,b4,s1,s2,eT,cE_ment,cE_len,hasK_nil,Nat.mul_one,↓hold_pre,awayP,runOps,regK,step1,newK,genR,appR,obl,buildR,Value.cells,closeK,keepH,outV,retK,ret1,retC,RetV,Option.getD,runD,stepD,afterK,undef,simprocAttr,sxB,↓sxD,sxE,sxTab]))
    exact ⟨5-(k+1),fkSt M u l.length i o' (k+1),by omega,le_sub ⟨rfl,rfl,rfl,rfl,rfl,trivial⟩ ⟨rfl,trivial⟩ rfl rfl rfl (keepLt0 _),k+1,by omega,by omega,fun j h1 h2=>by
     by_cases e:j=k
     ·subst e;exact ht
     ·exact hno j h1 (by omega),rfl,rfl⟩
  ·have hs:fstep o l[i]=o':=by rw[←ho'];exact fstep_miss (k:=k) (by rw[ho'];exact hc) (by rw[ho'];exact hno)
   have fin:∀(s:St),lk s.env 9=.ext (.int .i64 ((i+1:Nat):Int))→lk s.env 8=.ext (.int .i64 (l.length:Int))→lk s.env 7=.ext u→lk s.env 3=.slo 90 0 o'.length 1→lkH s.hp 90=some (9,cE sbV o')→s.M=M→s.kb=0→s.fx=[]→∃m' z,m'<l.length-i∧Le s z∧∃i o,i≤l.length∧o=List.foldl fstep [] (List.take i l)∧o.length≤i∧m'=l.length-i∧z=foSt M u l.length i o:=fun s e9 e8 e7 e3 eh eM ek ef=>
    ⟨l.length-(i+1),foSt M u l.length (i+1) o',by omega,le_sub ⟨e9,e8,e7,e3,trivial⟩ ⟨eh,trivial⟩ eM.symm ek.symm ef.symm (by rw[ek];exact keepLt0 _),i+1,o',by omega,by rw[hnext,hs],by omega,rfl,rfl⟩
   by_cases c1:k≤4
   ·have c2:¬2*k≤o'.length:=fun e=>hc ⟨c1,e⟩
    have d1:decide ((k:Int)≤4)=true:=by simp;omega
    have w1:IntKind.i64.wrap (2*(k:Int))=((2*k:Nat):Int):=by rw[wrap_id (by omega) (by omega)];omega
    have d2:decide (((2*k:Nat):Int)≤(o'.length:Int))=false:=by simp;omega
    (replace hb0:=true_and True);refine Go1.mk ?_;repeat' ((first|(with_reducible refine Go1.go ?_)|((with_reducible first|refine brv_mk ?_ ?_|refine gsplitD ?_ ?_|refine gsplitG ?_ ?_)<;>intro h<;>(try simp only[Bool.not_eq_true',Bool.not_eq_false']at h)<;>replace hb0:=h)|((with_reducible refine isDraw [some 28,some 29,some 30,some 31,some 32,some 33,some 34,some 35,some 36,some 37,some 38,some 39,some 40,some 41,some 42,some 43,some 44,some 45] (by decide) ?_);refine draw_rule [(0,[]),(1,[]),(2,[]),(3,[]),(4,[]),(5,[]),(6,[5]),(7,[5]),(8,[5]),(9,[5]),(10,[5]),(11,[5]),(12,[5]),(13,[5]),(14,[5]),(15,[5]),(16,[5]),(17,[])] [[],[],[1],[],[1,2,3],[0,1,2,3,4],[],[],[7],[],[9],[7,8,9,10],[],[12],[],[12,13,14],[6,7,8,9,10,11,12,13,14,15],[0,1,2,3,4,5,6,7,8,9,10,11,12,13,14,15,16]] [28,29,30,31,32,33,34,35,36,37,38,39,40,41,42,43,44] [] (by kernel_rfl) (by kernel_rfl) (by kernel_rfl) (by kernel_rfl) (by exact trivial) ?_)|(refine And.intro ?_ ?_;(try simp only[sxO]at *);omega)|fail)<;>(try simp (maxSteps:=1000000) only [hb0,fkSt,f1,d1,d2,w1,cE_ment,cE_len,hasK_nil,Nat.mul_one,↓hold_pre,awayP,runOps,regK,step1,newK,genR,appR,obl,buildR,Value.cells,closeK,keepH,outV,retK,ret1,retC,RetV,Option.getD,runD,stepD,afterK,undef,simprocAttr,sxB,↓sxD,sxE,sxTab]))
    exact fin _ rfl rfl rfl rfl rfl rfl rfl rfl
   ·have d1:decide ((k:Int)≤4)=false:=by simp;omega
    (replace hb0:=true_and True);refine Go1.mk ?_;repeat' ((first|(with_reducible refine Go1.go ?_)|((with_reducible first|refine brv_mk ?_ ?_|refine gsplitD ?_ ?_|refine gsplitG ?_ ?_)<;>intro h<;>(try simp only[Bool.not_eq_true',Bool.not_eq_false']at h)<;>replace hb0:=h)|((with_reducible refine isDraw [some 28,some 29,some 30,some 31,some 32,some 33,some 34,some 35,some 36,some 37,some 38,some 39,some 40,some 41,some 42,some 43,some 44,some 45] (by decide) ?_);refine draw_rule [(0,[]),(1,[]),(2,[]),(3,[]),(4,[]),(5,[]),(6,[5]),(7,[5]),(8,[5]),(9,[5]),(10,[5]),(11,[5]),(12,[5]),(13,[5]),(14,[5]),(15,[5]),(16,[5]),(17,[])] [[],[],[1],[],[1,2,3],[0,1,2,3,4],[],[],[7],[],[9],[7,8,9,10],[],[12],[],[12,13,14],[6,7,8,9,10,11,12,13,14,15],[0,1,2,3,4,5,6,7,8,9,10,11,12,13,14,15,16]] [28,29,30,31,32,33,34,35,36,37,38,39,40,41,42,43,44] [] (by kernel_rfl) (by kernel_rfl) (by kernel_rfl) (by kernel_rfl) (by exact trivial) ?_)|(refine And.intro ?_ ?_;(try simp only[sxO]at *);omega)|fail)<;>(try simp (maxSteps:=1000000) only [hb0,fkSt,f1,d1,cE_ment,cE_len,hasK_nil,Nat.mul_one,↓hold_pre,awayP,runOps,regK,step1,newK,genR,appR,obl,buildR,Value.cells,closeK,keepH,outV,retK,ret1,retC,RetV,Option.getD,runD,stepD,afterK,undef,simprocAttr,sxB,↓sxD,sxE,sxTab]))
    exact fin _ rfl rfl rfl rfl rfl rfl rfl rfl
 ·obtain rfl:i=l.length:=by omega
  have f1:=hu.fin hlt
  rw[List.take_length]at ho
  have hd:decide ((l.length:Int)<(l.length:Int))=false:=by simp
  (replace hb0:=true_and True);refine Go1.mk ?_;repeat' ((first|(with_reducible refine Go1.go ?_)|((with_reducible first|refine brv_mk ?_ ?_|refine gsplitD ?_ ?_|refine gsplitG ?_ ?_)<;>intro h<;>(try simp only[Bool.not_eq_true',Bool.not_eq_false']at h)<;>replace hb0:=h)|((with_reducible refine isDraw [some 28,some 29,some 30,some 31,some 32,some 33,some 34,some 35,some 36,some 37,some 38,some 39,some 40,some 41,some 42,some 43,some 44,some 45] (by decide) ?_);refine draw_rule [(0,[]),(1,[]),(2,[]),(3,[]),(4,[]),(5,[]),(6,[5]),(7,[5]),(8,[5]),(9,[5]),(10,[5]),(11,[5]),(12,[5]),(13,[5]),(14,[5]),(15,[5]),(16,[5]),(17,[])] [[],[],[1],[],[1,2,3],[0,1,2,3,4],[],[],[7],[],[9],[7,8,9,10],[],[12],[],[12,13,14],[6,7,8,9,10,11,12,13,14,15],[0,1,2,3,4,5,6,7,8,9,10,11,12,13,14,15,16]] [28,29,30,31,32,33,34,35,36,37,38,39,40,41,42,43,44] [] (by kernel_rfl) (by kernel_rfl) (by kernel_rfl) (by kernel_rfl) (by exact trivial) ?_)|(refine And.intro ?_ ?_;(try simp only[sxO]at *);omega)|fail)<;>(try simp (maxSteps:=1000000) only [hb0,foSt,hd,cE_ment,hasK_nil,↓hold_pre,awayP,runOps,regK,step1,newK,genR,appR,obl,buildR,Value.cells,closeK,keepH,outV,retK,ret1,retC,RetV,Option.getD,runD,stepD,afterK,undef,simprocAttr,sxB,↓sxD,sxE,sxTab]))
  have ho:foldB l=o:=ho.symm
  exact FrzF.one (o.map sbV) rfl (by simp) (fun u' M' hM hs hf=>hK u' M' hM (by rw[ho];exact hs) hf)
end
end Go.Proofs.YtoblkpomikokhaaGreat.Sx
namespace Go.Proofs.YtoblkpomikokhaaGreat.Sx
open Go Go.RowKit
set_option linter.unusedVariables false
set_option linter.unusedSimpArgs false
set_option maxRecDepth 100000
set_option maxHeartbeats 8000000
attribute [local congr] fin_congr finG_congr stepG_congr step1_congr runOps_congr brv_congr obl_congr condK_congr LoopK_congr seqK_congr CutK_congr vc_congr DrawK_congr regK_congr CallK_congr AskK_congr newK_congr retC_congr ret1_congr retK_congr outV_congr closeK_congr genR_congr appR_congr finD_congr finGD_congr stepGD_congr stepD_congr CallK0_congr runD_congr okR_congr CallS_congr vcX_congr
section
variable {M:Mem}{K:AV→Hp→Mem→Prop}
end
end Go.Proofs.YtoblkpomikokhaaGreat.Sx
namespace Go.Proofs.YtoblkpomikokhaaGreat.Sx
open Go Go.RowKit
set_option linter.unusedVariables false
set_option linter.unusedSimpArgs false
set_option maxRecDepth 100000
set_option maxHeartbeats 8000000
attribute [local congr] fin_congr finG_congr stepG_congr step1_congr runOps_congr brv_congr obl_congr condK_congr LoopK_congr seqK_congr CutK_congr vc_congr DrawK_congr regK_congr CallK_congr AskK_congr newK_congr retC_congr ret1_congr retK_congr outV_congr closeK_congr genR_congr appR_congr finD_congr finGD_congr stepGD_congr stepD_congr CallK0_congr runD_congr okR_congr CallS_congr vcX_congr
attribute [local congr] Stop_congr
structure Cmp {α:Type} (c:α→α→Int):Prop where
 anti:∀a b,c a b=- c b a
 zero:∀a b,c a b=0↔a=b
 trans:∀a b d,c a b<0→c b d<0→c a d<0
 lo:∀a b,-1≤c a b
def lexL{α:Type}(c:α→α→Int):List α→List α→Int
 | [],[]=>0
 | [],_ :: _=>-1
 | _ :: _,[]=>1
 | a :: l,b :: m=>if c a b=0 then lexL c l m else c a b
theorem Cmp.lex{α:Type}{c:α→α→Int}(h:Cmp c):Cmp (lexL c) where
 anti:=fun l=>by
  induction l with
  | nil=>intro m;cases m<;>simp[lexL]
  | cons a l ih=>
   intro m
   cases m with
   | nil=>simp[lexL]
   | cons b m=>
    simp only[lexL]
    have h1:=h.anti a b
    by_cases e:c a b=0
    ·rw[if_pos e,if_pos (by omega),ih m]
    ·rw[if_neg e,if_neg (by omega),h1]
 zero:=fun l=>by
  induction l with
  | nil=>intro m;cases m<;>simp[lexL]
  | cons a l ih=>
   intro m
   cases m with
   | nil=>simp[lexL]
   | cons b m=>
    simp only[lexL]
    by_cases e:c a b=0
    ·rw[if_pos e,ih m,(h.zero a b).1 e];simp
    ·rw[if_neg e]
     have:a≠b:=fun x=>e ((h.zero a b).2 x)
     simp[e,this]
 trans:=fun l=>by
  induction l with
  | nil=>
   intro m n h1 h2
   cases n with
   | nil=>cases m<;>simp[lexL]at h1 h2
   | cons d n=>simp[lexL]
  | cons a l ih=>
   intro m n h1 h2
   cases m with
   | nil=>simp[lexL]at h1
   | cons b m=>
    cases n with
    | nil=>simp[lexL]at h2
    | cons d n=>
     simp only[lexL]at h1 h2 ⊢
     by_cases e1:c a b=0
     ·rw[if_pos e1]at h1
      rw[(h.zero a b).1 e1]
      by_cases e2:c b d=0
      ·rw[if_pos e2]at h2 ⊢;exact ih m n h1 h2
      ·rw[if_neg e2]at h2 ⊢;exact h2
     ·rw[if_neg e1]at h1
      by_cases e2:c b d=0
      ·rw[←(h.zero b d).1 e2,if_neg e1];exact h1
      ·rw[if_neg e2]at h2
       have:=h.trans a b d h1 h2
       rw[if_neg (by omega)];exact this
 lo:=fun l=>by
  induction l with
  | nil=>intro m;cases m<;>simp[lexL]
  | cons a l ih=>
   intro m
   cases m with
   | nil=>simp[lexL]
   | cons b m=>
    simp only[lexL]
    split
    ·exact ih m
    ·exact h.lo a b
def pairC{α β:Type}(c:α→α→Int)(d:β→β→Int)(x y:α×β):Int:=if c x.1 y.1=0 then d x.2 y.2 else c x.1 y.1
theorem Cmp.pair{α β:Type}{c:α→α→Int}{d:β→β→Int}(h:Cmp c)(k:Cmp d):Cmp (pairC c d) where
 anti:=fun x y=>by
  simp only[pairC]
  have h1:=h.anti x.1 y.1
  have h2:=k.anti x.2 y.2
  by_cases e:c x.1 y.1=0
  ·rw[if_pos e,if_pos (by omega),h2]
  ·rw[if_neg e,if_neg (by omega),h1]
 zero:=fun x y=>by
  simp only[pairC]
  have h1:=h.zero x.1 y.1
  have h2:=k.zero x.2 y.2
  by_cases e:c x.1 y.1=0
  ·rw[if_pos e,h2,Prod.ext_iff];simp[h1.1 e]
  ·rw[if_neg e,Prod.ext_iff]
   exact ⟨fun h=>absurd h e,fun h=>absurd (h1.2 h.1) e⟩
 trans:=fun x y z g1 g2=>by
  simp only[pairC]at g1 g2 ⊢
  by_cases e1:c x.1 y.1=0
  ·rw[if_pos e1]at g1
   rw[(h.zero _ _).1 e1]
   by_cases e2:c y.1 z.1=0
   ·rw[if_pos e2]at g2 ⊢;exact k.trans _ _ _ g1 g2
   ·rw[if_neg e2]at g2 ⊢;exact g2
  ·rw[if_neg e1]at g1
   by_cases e2:c y.1 z.1=0
   ·rw[←(h.zero _ _).1 e2,if_neg e1];exact g1
   ·rw[if_neg e2]at g2
    have:=h.trans _ _ _ g1 g2
    rw[if_neg (by omega)];exact this
 lo:=fun x y=>by
  simp only[pairC]
  split
  ·exact k.lo _ _
  ·exact h.lo _ _
theorem Cmp.hi{α:Type}{c:α→α→Int}(h:Cmp c)(a b:α):c a b≤1:=by
 have h1:=h.anti a b
 have h2:=h.lo b a
 omega
def c8(a b:UInt8):Int:=if a<b then -1 else if b<a then 1 else 0
theorem c8_nat(a b:UInt8):c8 a b=if a.toNat<b.toNat then -1 else if b.toNat<a.toNat then 1 else 0:=by
 simp only[c8,UInt8.lt_iff_toNat_lt]
theorem cmp8:Cmp c8 where
 anti:=fun a b=>by rw[c8_nat,c8_nat];(repeat' split)<;>omega
 zero:=fun a b=>by
  rw[c8_nat,←UInt8.toNat_inj];(repeat' split)<;>omega
 trans:=fun a b d h1 h2=>by
  rw[c8_nat]at h1 h2 ⊢
  split at h1<;>split at h2<;>(repeat' split)<;>(try split at h1)<;>(try split at h2)<;>omega
 lo:=fun a b=>by rw[c8_nat];(repeat' split)<;>omega
def cmpS:Bst→Bst→Int:=lexL c8
theorem cmp_S:Cmp cmpS:=cmp8.lex
theorem cmpS_bytes:∀a b:Bst,Lib.compareBytes a b=cmpS a b
 | [],[]=>rfl
 | [],_ :: _=>rfl
 | _ :: _,[]=>rfl
 | a :: l,b :: m=>by
  have ih:=cmpS_bytes l m
  unfold cmpS at ih ⊢
  simp only[Lib.compareBytes,lexL,c8]
  by_cases h1:a<b
  ·simp[h1]
  ·by_cases h2:b<a
   ·simp[h1,h2]
   ·simp[h1,h2,ih]
theorem less_cmpS:∀a b:Bst,Op.bytesLess a b=decide (cmpS a b<0)
 | [],[]=>rfl
 | [],_ :: _=>rfl
 | _ :: _,[]=>rfl
 | a :: l,b :: m=>by
  have ih:=less_cmpS l m
  unfold cmpS at ih ⊢
  simp only[Op.bytesLess,lexL,c8_nat]
  by_cases h1:a.toNat<b.toNat
  ·simp[h1,UInt8.lt_iff_toNat_lt]
  ·by_cases h2:b.toNat<a.toNat
   ·have:a≠b:=fun e=>by subst e;omega
    simp[h1,h2,UInt8.lt_iff_toNat_lt,this]
   ·have:a=b:=UInt8.toNat_inj.1 (by omega)
    subst this
    simp[ih,UInt8.lt_irrefl]
def cmpL:List Bst→List Bst→Int:=lexL cmpS
theorem cmp_L:Cmp cmpL:=cmp_S.lex
def cmpG:Bst×List Bst→Bst×List Bst→Int:=pairC cmpS cmpL
theorem cmp_G:Cmp cmpG:=cmp_S.pair cmp_L
section
variable {M:Mem}{K:AV→Hp→Mem→Prop}
theorem cmpS_ok(a b:Bst)(hK:K (.ext (.int .i64 (cmpS a b))) [] M):CallS Tryz.prog 37 [.ext (.string (bs a)),.ext (.string (bs b))] [] M [] K:=by
 refine inlS (cs:=[]) Tryz.mixed Tryz.func37 rfl (by kernel_rfl) 0 rfl rfl ?_
 simp only[Tryz.f37]
 have h1:=less_cmpS a b
 have h2:=less_cmpS b a
 have h3:=cmp_S.anti a b
 have h4:=cmp_S.lo a b
 have h5:=cmp_S.lo b a
 have q1:(a==a)=true:=by simp
 have q2:(b==b)=true:=by simp
 by_cases e1:cmpS a b<0
 ·have d1:decide (cmpS a b<0)=true:=by simp[e1]
  have e:cmpS a b=-1:=by omega
  rw[d1]at h1
  rw[e]at hK
  (replace hb0:=true_and True);refine Go1.mk ?_;repeat' ((first|(with_reducible refine Go1.go ?_)|((with_reducible first|refine brv_mk ?_ ?_|refine gsplitD ?_ ?_|refine gsplitG ?_ ?_)<;>intro h<;>(try simp only[Bool.not_eq_true',Bool.not_eq_false']at h)<;>replace hb0:=h)|((first|((with_reducible refine isCall (f:=57) ?_);refine inlK (cs:=[]) (f:=57) Tryz.mixed Tryz.func57 rfl (by kernel_rfl) 50 rfl (by kernel_rfl) ?_));simp only[Tryz.f57])|(refine And.intro ?_ ?_;(try simp only[sxO]at *);omega)|fail)<;>(try simp (maxSteps:=1000000) only [hb0,h1,q1,q2,bs_mk,bs_app,bs_ext,bs_size,bs_toList,bs_at,bs_cells,List.take_length,imp_ga,guard_pk,guard_pk2,↓hold_pre,awayP,runOps,regK,step1,newK,genR,appR,obl,buildR,Value.cells,closeK,keepH,outV,retK,ret1,retC,RetV,Option.getD,runD,stepD,afterK,undef,simprocAttr,sxB,↓sxD,sxE,sxTab]))
  exact hK
 ·have d1:decide (cmpS a b<0)=false:=by simp;omega
  rw[d1]at h1
  by_cases e2:cmpS b a<0
  ·have d2:decide (cmpS b a<0)=true:=by simp[e2]
   have e:cmpS a b=1:=by omega
   rw[d2]at h2
   rw[e]at hK
   (replace hb0:=true_and True);refine Go1.mk ?_;repeat' ((first|(with_reducible refine Go1.go ?_)|((with_reducible first|refine brv_mk ?_ ?_|refine gsplitD ?_ ?_|refine gsplitG ?_ ?_)<;>intro h<;>(try simp only[Bool.not_eq_true',Bool.not_eq_false']at h)<;>replace hb0:=h)|((first|((with_reducible refine isCall (f:=57) ?_);refine inlK (cs:=[]) (f:=57) Tryz.mixed Tryz.func57 rfl (by kernel_rfl) 50 rfl (by kernel_rfl) ?_));simp only[Tryz.f57])|(refine And.intro ?_ ?_;(try simp only[sxO]at *);omega)|fail)<;>(try simp (maxSteps:=1000000) only [hb0,h1,h2,q1,q2,bs_mk,bs_app,bs_ext,bs_size,bs_toList,bs_at,bs_cells,List.take_length,imp_ga,guard_pk,guard_pk2,↓hold_pre,awayP,runOps,regK,step1,newK,genR,appR,obl,buildR,Value.cells,closeK,keepH,outV,retK,ret1,retC,RetV,Option.getD,runD,stepD,afterK,undef,simprocAttr,sxB,↓sxD,sxE,sxTab]))
   exact hK
  ·have d2:decide (cmpS b a<0)=false:=by simp;omega
   have e:cmpS a b=0:=by omega
   rw[d2]at h2
   rw[e]at hK
   (replace hb0:=true_and True);refine Go1.mk ?_;repeat' ((first|(with_reducible refine Go1.go ?_)|((with_reducible first|refine brv_mk ?_ ?_|refine gsplitD ?_ ?_|refine gsplitG ?_ ?_)<;>intro h<;>(try simp only[Bool.not_eq_true',Bool.not_eq_false']at h)<;>replace hb0:=h)|((first|((with_reducible refine isCall (f:=57) ?_);refine inlK (cs:=[]) (f:=57) Tryz.mixed Tryz.func57 rfl (by kernel_rfl) 50 rfl (by kernel_rfl) ?_));simp only[Tryz.f57])|(refine And.intro ?_ ?_;(try simp only[sxO]at *);omega)|fail)<;>(try simp (maxSteps:=1000000) only [hb0,h1,h2,q1,q2,bs_mk,bs_app,bs_ext,bs_size,bs_toList,bs_at,bs_cells,List.take_length,imp_ga,guard_pk,guard_pk2,↓hold_pre,awayP,runOps,regK,step1,newK,genR,appR,obl,buildR,Value.cells,closeK,keepH,outV,retK,ret1,retC,RetV,Option.getD,runD,stepD,afterK,undef,simprocAttr,sxB,↓sxD,sxE,sxTab]))
   exact hK
theorem strCmp_ok(a b:Bst)(hK:K (.ext (.int .i64 (cmpS a b))) [] M):CallS Tryz.prog 68 [.ext (.string (bs a)),.ext (.string (bs b))] [] M [] K:=
 callS_of (us:=[.string (bs a),.string (bs b)]) (fun w=>(Tryz.strings_Compare (bs a) (bs b) w).mono fun e w' h=>⟨by rw[h.1];rw[bs_data,bs_data,cmpS_bytes],h.2▸Below.refl _ _⟩) hK
def coSt(M:Mem)(u1 u2:Value)(n i:Nat):St:={env:=[(11,.ext (.int .i64 (i:Int))),(10,.ext (.int .i64 (n:Int))),(9,.ext u1),(4,.ext (.int .i64 0)),(1,.ext u2),(0,.ext u1)],hp:=[],M:=M,kb:=0,fx:=[]}
theorem lexL_drop{α:Type}(c:α→α→Int){l1 l2:List α}{i:Nat}(h1:i<l1.length)(h2:i<l2.length):lexL c (l1.drop i) (l2.drop i)=if c l1[i] l2[i]=0 then lexL c (l1.drop (i+1)) (l2.drop (i+1)) else c l1[i] l2[i]:=by
 rw[List.drop_eq_getElem_cons h1,List.drop_eq_getElem_cons h2];rfl
theorem slCmp_ok(u1 u2:Value)(l1 l2:List Bst)(h1:IsL M sbV u1 l1)(h2:IsL M sbV u2 l2)(hb:l1.length<4000000000000000000)(hb2:l2.length<4000000000000000000)(hK:K (.ext (.int .i64 (cmpL l1 l2))) [] M):CallS Tryz.prog 38 [.ext u1,.ext u2] [] M [] K:=by
 refine inlS (cs:=[]) Tryz.mixed Tryz.func38 rfl (by kernel_rfl) 0 rfl rfl ?_
 simp only[Tryz.f38]
 (replace hb0:=true_and True);refine Go1.mk ?_;repeat' ((first|(with_reducible refine Go1.go ?_)|((with_reducible first|refine brv_mk ?_ ?_|refine gsplitD ?_ ?_|refine gsplitG ?_ ?_)<;>intro h<;>(try simp only[Bool.not_eq_true',Bool.not_eq_false']at h)<;>replace hb0:=h)|(refine And.intro ?_ ?_;(try simp only[sxO]at *);omega)|fail)<;>(try simp (maxSteps:=1000000) only [hb0,h1.len,h1.sl,h2.len,h2.sl,bs_mk,bs_app,bs_ext,bs_size,bs_toList,bs_at,bs_cells,List.take_length,imp_ga,guard_pk,guard_pk2,↓hold_pre,awayP,runOps,regK,step1,newK,genR,appR,obl,buildR,Value.cells,closeK,keepH,outV,retK,ret1,retC,RetV,Option.getD,runD,stepD,afterK,undef,simprocAttr,sxB,↓sxD,sxE,sxTab]))
 refine ⟨fun d z=>∃i,i≤l1.length∧i≤l2.length∧cmpL l1 l2=lexL cmpS (l1.drop i) (l2.drop i)∧d=l1.length-i∧z=coSt M u1 u2 l1.length i,⟨l1.length,coSt M u1 u2 l1.length 0,le_sub ⟨rfl,rfl,rfl,rfl,rfl,rfl,trivial⟩ trivial rfl rfl rfl (keepLt0 _),⟨0,by omega,by omega,rfl,rfl,rfl⟩⟩,?_⟩
 rintro d z ⟨i,hi1,hi2,hrel,rfl,rfl⟩
 rw[hrel]at hK
 by_cases hlt:i<l1.length
 ·have f1:=h1.idx (P:=Tryz.prog) (T:=9) tk9 tz9 (by omega) hlt
  by_cases hlt2:i<l2.length
  ·have f2:=h2.idx (P:=Tryz.prog) (T:=9) tk9 tz9 (by omega) hlt2
   have d2:decide ((l2.length:Int)≤(i:Int))=false:=by simp;omega
   rw[lexL_drop cmpS hlt hlt2]at hK
   by_cases hz:cmpS l1[i] l2[i]=0
   ·rw[if_pos hz]at hK
    (replace hb0:=true_and True);refine Go1.mk ?_;repeat' ((first|(with_reducible refine Go1.go ?_)|((with_reducible first|refine brv_mk ?_ ?_|refine gsplitD ?_ ?_|refine gsplitG ?_ ?_)<;>intro h<;>(try simp only[Bool.not_eq_true',Bool.not_eq_false']at h)<;>replace hb0:=h)|(((with_reducible refine isCall (f:=37) ?_);refine callA_nil (by kernel_rfl) ?_;refine (cmpS_ok l1[i] l2[i] ?_)))|(refine And.intro ?_ ?_;(try simp only[sxO]at *);omega)|fail)<;>(try simp (maxSteps:=1000000) only [hb0,coSt,f1,f2,d2,sbV,hz,bs_mk,bs_app,bs_ext,bs_size,bs_toList,bs_at,bs_cells,List.take_length,imp_ga,guard_pk,guard_pk2,↓hold_pre,awayP,runOps,regK,step1,newK,genR,appR,obl,buildR,Value.cells,closeK,keepH,outV,retK,ret1,retC,RetV,Option.getD,runD,stepD,afterK,undef,simprocAttr,sxB,↓sxD,sxE,sxTab]))
    exact ⟨l1.length-(i+1),coSt M u1 u2 l1.length (i+1),by omega,le_sub ⟨rfl,rfl,rfl,rfl,rfl,rfl,trivial⟩ trivial rfl rfl rfl (keepLt0 _),i+1,by omega,by omega,by rw[hrel,lexL_drop cmpS hlt hlt2,if_pos hz],rfl,rfl⟩
   ·rw[if_neg hz]at hK
    have dz:decide (cmpS l1[i] l2[i]=0)=false:=by simp[hz]
    (replace hb0:=true_and True);refine Go1.mk ?_;repeat' ((first|(with_reducible refine Go1.go ?_)|((with_reducible first|refine brv_mk ?_ ?_|refine gsplitD ?_ ?_|refine gsplitG ?_ ?_)<;>intro h<;>(try simp only[Bool.not_eq_true',Bool.not_eq_false']at h)<;>replace hb0:=h)|(((with_reducible refine isCall (f:=37) ?_);refine callA_nil (by kernel_rfl) ?_;refine (cmpS_ok l1[i] l2[i] ?_)))|(refine And.intro ?_ ?_;(try simp only[sxO]at *);omega)|fail)<;>(try simp (maxSteps:=1000000) only [hb0,coSt,f1,f2,d2,sbV,dz,bs_mk,bs_app,bs_ext,bs_size,bs_toList,bs_at,bs_cells,List.take_length,imp_ga,guard_pk,guard_pk2,↓hold_pre,awayP,runOps,regK,step1,newK,genR,appR,obl,buildR,Value.cells,closeK,keepH,outV,retK,ret1,retC,RetV,Option.getD,runD,stepD,afterK,undef,simprocAttr,sxB,↓sxD,sxE,sxTab]))
    exact hK
  ·obtain rfl:i=l2.length:=by omega
   have d2:decide ((l2.length:Int)≤(l2.length:Int))=true:=by simp
   have e:lexL cmpS (l1.drop l2.length) (l2.drop l2.length)=1:=by
    rw[List.drop_eq_getElem_cons hlt,List.drop_length];rfl
   rw[e]at hK
   (replace hb0:=true_and True);refine Go1.mk ?_;repeat' ((first|(with_reducible refine Go1.go ?_)|((with_reducible first|refine brv_mk ?_ ?_|refine gsplitD ?_ ?_|refine gsplitG ?_ ?_)<;>intro h<;>(try simp only[Bool.not_eq_true',Bool.not_eq_false']at h)<;>replace hb0:=h)|(refine And.intro ?_ ?_;(try simp only[sxO]at *);omega)|fail)<;>(try simp (maxSteps:=1000000) only [hb0,coSt,f1,d2,h2.len,h2.sl,sbV,bs_mk,bs_app,bs_ext,bs_size,bs_toList,bs_at,bs_cells,List.take_length,imp_ga,guard_pk,guard_pk2,↓hold_pre,awayP,runOps,regK,step1,newK,genR,appR,obl,buildR,Value.cells,closeK,keepH,outV,retK,ret1,retC,RetV,Option.getD,runD,stepD,afterK,undef,simprocAttr,sxB,↓sxD,sxE,sxTab]))
   exact hK
 ·obtain rfl:i=l1.length:=by omega
  have d1:decide ((l1.length:Int)<(l1.length:Int))=false:=by simp
  by_cases hlt2:l1.length<l2.length
  ·have d2:decide ((l1.length:Int)<(l2.length:Int))=true:=by simp;omega
   have e:lexL cmpS (l1.drop l1.length) (l2.drop l1.length)=-1:=by
    rw[List.drop_eq_getElem_cons hlt2,List.drop_length];rfl
   rw[e]at hK
   (replace hb0:=true_and True);refine Go1.mk ?_;repeat' ((first|(with_reducible refine Go1.go ?_)|((with_reducible first|refine brv_mk ?_ ?_|refine gsplitD ?_ ?_|refine gsplitG ?_ ?_)<;>intro h<;>(try simp only[Bool.not_eq_true',Bool.not_eq_false']at h)<;>replace hb0:=h)|(refine And.intro ?_ ?_;(try simp only[sxO]at *);omega)|fail)<;>(try simp (maxSteps:=1000000) only [hb0,coSt,d1,d2,h1.len,h1.sl,h2.len,h2.sl,bs_mk,bs_app,bs_ext,bs_size,bs_toList,bs_at,bs_cells,List.take_length,imp_ga,guard_pk,guard_pk2,↓hold_pre,awayP,runOps,regK,step1,newK,genR,appR,obl,buildR,Value.cells,closeK,keepH,outV,retK,ret1,retC,RetV,Option.getD,runD,stepD,afterK,undef,simprocAttr,sxB,↓sxD,sxE,sxTab]))
   exact hK
  ·have d2:decide ((l1.length:Int)<(l2.length:Int))=false:=by simp;omega
   have e:lexL cmpS (l1.drop l1.length) (l2.drop l1.length)=0:=by
    rw[List.drop_length,List.drop_eq_nil_of_le (by omega)];rfl
   rw[e]at hK
   (replace hb0:=true_and True);refine Go1.mk ?_;repeat' ((first|(with_reducible refine Go1.go ?_)|((with_reducible first|refine brv_mk ?_ ?_|refine gsplitD ?_ ?_|refine gsplitG ?_ ?_)<;>intro h<;>(try simp only[Bool.not_eq_true',Bool.not_eq_false']at h)<;>replace hb0:=h)|(refine And.intro ?_ ?_;(try simp only[sxO]at *);omega)|fail)<;>(try simp (maxSteps:=1000000) only [hb0,coSt,d1,d2,h1.len,h1.sl,h2.len,h2.sl,bs_mk,bs_app,bs_ext,bs_size,bs_toList,bs_at,bs_cells,List.take_length,imp_ga,guard_pk,guard_pk2,↓hold_pre,awayP,runOps,regK,step1,newK,genR,appR,obl,buildR,Value.cells,closeK,keepH,outV,retK,ret1,retC,RetV,Option.getD,runD,stepD,afterK,undef,simprocAttr,sxB,↓sxD,sxE,sxTab]))
   exact hK
def orSt(M:Mem)(k:Nat)(T:TypeId)(a b:Int)(i:Nat):St:={env:=[(8,.ext (.int .i64 (i:Int))),(7,.ext (.int .i64 2)),(6,.slo k 0 2 1),(3,.ext (.int .i64 0)),(2,.ext (.int .i64 0))],hp:=[(k,T,[.ext (.int .i64 a),.ext (.int .i64 b)])],M:=M,kb:=k+1,fx:=[k]}
theorem or_ok(k:Nat)(T:TypeId)(a b:Int)(hK:K (.ext (.int .i64 (if a=0 then b else a))) [(k,T,[.ext (.int .i64 a),.ext (.int .i64 b)])] M):CallS Tryz.prog 36 [.slo k 0 2 1] [(k,T,[.ext (.int .i64 a),.ext (.int .i64 b)])] M [] K:=by
 refine inlS (cs:=[]) (f:=36) Tryz.mixed Tryz.func36 rfl (by kernel_rfl) (k+1) rfl (by simp[ltB,keysH]) ?_
 simp only[Tryz.f36]
 (replace hb0:=true_and True);refine Go1.mk ?_;repeat' ((first|(with_reducible refine Go1.go ?_)|((with_reducible first|refine brv_mk ?_ ?_|refine gsplitD ?_ ?_|refine gsplitG ?_ ?_)<;>intro h<;>(try simp only[Bool.not_eq_true',Bool.not_eq_false']at h)<;>replace hb0:=h)|(refine And.intro ?_ ?_;(try simp only[sxO]at *);omega)|fail)<;>(try simp (maxSteps:=1000000) only [hb0,↓hold_pre,awayP,runOps,regK,step1,newK,genR,appR,obl,buildR,Value.cells,closeK,keepH,outV,retK,ret1,retC,RetV,Option.getD,runD,stepD,afterK,undef,simprocAttr,sxB,↓sxD,sxE,sxTab]))
 refine ⟨fun d z=>∃i,i≤2∧(1≤i→a=0)∧(i=2→b=0)∧d=2-i∧z=orSt M k T a b i,⟨2,orSt M k T a b 0,le_sub ⟨rfl,rfl,rfl,rfl,rfl,trivial⟩ (by simp[subHp,orSt,lkH]) rfl rfl rfl (by simp[keepLt,orSt,lkH]),⟨0,by omega,by omega,by omega,rfl,rfl⟩⟩,?_⟩
 rintro d z ⟨i,hi,h1,h2,rfl,rfl⟩
 have:i=0∨i=1∨i=2:=by omega
 rcases this with rfl|rfl|rfl
 ·by_cases e:a=0
  ·have d1:decide (a=0)=true:=by simp[e]
   (replace hb0:=true_and True);refine Go1.mk ?_;repeat' ((first|(with_reducible refine Go1.go ?_)|((with_reducible first|refine brv_mk ?_ ?_|refine gsplitD ?_ ?_|refine gsplitG ?_ ?_)<;>intro h<;>(try simp only[Bool.not_eq_true',Bool.not_eq_false']at h)<;>replace hb0:=h)|(refine And.intro ?_ ?_;(try simp only[sxO]at *);omega)|fail)<;>(try simp (maxSteps:=1000000) only [hb0,orSt,d1,Int.cast_ofNat_Int,Int.toNat_zero,↓hold_pre,awayP,runOps,regK,step1,newK,genR,appR,obl,buildR,Value.cells,closeK,keepH,outV,retK,ret1,retC,RetV,Option.getD,runD,stepD,afterK,undef,simprocAttr,sxB,↓sxD,sxE,sxTab]))
   exact ⟨1,orSt M k T a b 1,by omega,le_sub ⟨rfl,rfl,rfl,rfl,rfl,trivial⟩ (by simp[subHp,orSt,lkH]) rfl rfl rfl (by simp[keepLt,orSt,lkH]),1,by omega,fun _=>e,by omega,rfl,rfl⟩
  ·have d1:decide (a=0)=false:=by simp[e]
   rw[if_neg e]at hK
   (replace hb0:=true_and True);refine Go1.mk ?_;repeat' ((first|(with_reducible refine Go1.go ?_)|((with_reducible first|refine brv_mk ?_ ?_|refine gsplitD ?_ ?_|refine gsplitG ?_ ?_)<;>intro h<;>(try simp only[Bool.not_eq_true',Bool.not_eq_false']at h)<;>replace hb0:=h)|(refine And.intro ?_ ?_;(try simp only[sxO]at *);omega)|fail)<;>(try simp (maxSteps:=1000000) only [hb0,orSt,d1,Int.cast_ofNat_Int,Int.toNat_zero,↓hold_pre,awayP,runOps,regK,step1,newK,genR,appR,obl,buildR,Value.cells,closeK,keepH,outV,retK,ret1,retC,RetV,Option.getD,runD,stepD,afterK,undef,simprocAttr,sxB,↓sxD,sxE,sxTab]))
   exact hK
 ·rw[if_pos (h1 (by omega))]at hK
  by_cases e:b=0
  ·have d1:decide (b=0)=true:=by simp[e]
   (replace hb0:=true_and True);refine Go1.mk ?_;repeat' ((first|(with_reducible refine Go1.go ?_)|((with_reducible first|refine brv_mk ?_ ?_|refine gsplitD ?_ ?_|refine gsplitG ?_ ?_)<;>intro h<;>(try simp only[Bool.not_eq_true',Bool.not_eq_false']at h)<;>replace hb0:=h)|(refine And.intro ?_ ?_;(try simp only[sxO]at *);omega)|fail)<;>(try simp (maxSteps:=1000000) only [hb0,orSt,d1,Int.cast_ofNat_Int,Int.toNat_zero,↓hold_pre,awayP,runOps,regK,step1,newK,genR,appR,obl,buildR,Value.cells,closeK,keepH,outV,retK,ret1,retC,RetV,Option.getD,runD,stepD,afterK,undef,simprocAttr,sxB,↓sxD,sxE,sxTab]))
   exact ⟨0,orSt M k T a b 2,by omega,le_sub ⟨rfl,rfl,rfl,rfl,rfl,trivial⟩ (by simp[subHp,orSt,lkH]) rfl rfl rfl (by simp[keepLt,orSt,lkH]),2,by omega,fun _=>h1 (by omega),fun _=>e,rfl,rfl⟩
  ·have d1:decide (b=0)=false:=by simp[e]
   (replace hb0:=true_and True);refine Go1.mk ?_;repeat' ((first|(with_reducible refine Go1.go ?_)|((with_reducible first|refine brv_mk ?_ ?_|refine gsplitD ?_ ?_|refine gsplitG ?_ ?_)<;>intro h<;>(try simp only[Bool.not_eq_true',Bool.not_eq_false']at h)<;>replace hb0:=h)|(refine And.intro ?_ ?_;(try simp only[sxO]at *);omega)|fail)<;>(try simp (maxSteps:=1000000) only [hb0,orSt,d1,Int.cast_ofNat_Int,Int.toNat_zero,↓hold_pre,awayP,runOps,regK,step1,newK,genR,appR,obl,buildR,Value.cells,closeK,keepH,outV,retK,ret1,retC,RetV,Option.getD,runD,stepD,afterK,undef,simprocAttr,sxB,↓sxD,sxE,sxTab]))
   exact hK
 ·rw[if_pos (h1 (by omega))]at hK
  obtain rfl:=h2 rfl
  (replace hb0:=true_and True);refine Go1.mk ?_;repeat' ((first|(with_reducible refine Go1.go ?_)|((with_reducible first|refine brv_mk ?_ ?_|refine gsplitD ?_ ?_|refine gsplitG ?_ ?_)<;>intro h<;>(try simp only[Bool.not_eq_true',Bool.not_eq_false']at h)<;>replace hb0:=h)|(refine And.intro ?_ ?_;(try simp only[sxO]at *);omega)|fail)<;>(try simp (maxSteps:=1000000) only [hb0,orSt,Int.cast_ofNat_Int,Int.toNat_zero,↓hold_pre,awayP,runOps,regK,step1,newK,genR,appR,obl,buildR,Value.cells,closeK,keepH,outV,retK,ret1,retC,RetV,Option.getD,runD,stepD,afterK,undef,simprocAttr,sxB,↓sxD,sxE,sxTab]))
  exact hK
end
end Go.Proofs.YtoblkpomikokhaaGreat.Sx
