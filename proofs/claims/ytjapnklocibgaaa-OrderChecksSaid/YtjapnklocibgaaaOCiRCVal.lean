/- Part 3 of the texts of this claim: a symbolic executor and contracts of functions. -/
import Derived.Test.YtjapnklocibgaaaOCiRCDef
import Derived.Laws.Tables
import Derived.Laws.StructEq
import Derived.Great.BuildSlice
import Derived.Laws.MakeOwn
import Derived.Laws.Slices
import Derived.Laws.Strings
namespace Go.Proofs.Ytjapnklocibgaaa.Sx
open Go Go.RowKit
set_option linter.unusedVariables false
set_option linter.unusedSimpArgs false
section
variable {ρ ρ':Rho}
theorem isL_length:∀{l:List AV} {us:List Value},isL ρ l us→us.length=l.length
 | [],us,h=>by have h:us=[]:=h;simp[h]
 | v :: l,us,h=>by obtain ⟨u,r,rfl,_,h2⟩:=h;simp[isL_length h2]
theorem isL_get:∀{l:List AV} {us:List Value},isL ρ l us→∀(i:Nat) (v:AV),l[i]? = some v→v.is ρ (us.getD i undef)
 | [],us,h,i,v,hv=>by simp at hv
 | x :: l,us,h,0,v,hv=>by obtain ⟨u,r,rfl,h1,h2⟩:=h;simp at hv;subst hv;simpa using h1
 | x :: l,us,h,i+1,v,hv=>by obtain ⟨u,r,rfl,h1,h2⟩:=h;simp at hv;simpa using isL_get h2 i v hv
theorem isL_of:∀{l:List AV} {us:List Value},us.length=l.length→(∀(i:Nat) (v:AV),l[i]? = some v→v.is ρ (us.getD i undef))→isL ρ l us
 | [],us,h,_=>by show us=[];exact List.eq_nil_of_length_eq_zero (by simpa using h)
 | v :: l,[],h,_=>by simp at h
 | v :: l,u :: us,h,hv=>⟨u,us,rfl,by simpa using hv 0 v rfl,isL_of (by simpa using h) fun i x hx=>by simpa using hv (i+1) x (by simpa using hx)⟩
theorem isL_append:∀{l m:List AV} {us vs:List Value},isL ρ l us→isL ρ m vs→isL ρ (l++m) (us++vs)
 | [],m,us,vs,h,k=>by have h:us=[]:=h;subst h;exact k
 | v :: l,m,us,vs,h,k=>by obtain ⟨u,r,rfl,h1,h2⟩:=h;exact ⟨u,r++vs,rfl,h1,isL_append h2 k⟩
theorem isL_take:∀{l:List AV} {us:List Value} (n:Nat),isL ρ l us→isL ρ (l.take n) (us.take n)
 | _,_,0,_=>by simp[isL]
 | [],us,n+1,h=>by have h:us=[]:=h;subst h;simp[isL]
 | v :: l,us,n+1,h=>by obtain ⟨u,r,rfl,h1,h2⟩:=h;exact ⟨u,r.take n,by simp,h1,isL_take n h2⟩
theorem isL_drop:∀{l:List AV} {us:List Value} (n:Nat),isL ρ l us→isL ρ (l.drop n) (us.drop n)
 | _,_,0,h=>by simpa using h
 | [],us,n+1,h=>by have h:us=[]:=h;subst h;simp[isL]
 | v :: l,us,n+1,h=>by obtain ⟨u,r,rfl,h1,h2⟩:=h;simpa using isL_drop n h2
theorem isL_ext:∀vs:List Value,isL ρ (vs.map .ext) vs
 | []=>rfl
 | v :: r=>⟨v,r,rfl,rfl,isL_ext r⟩
theorem vals_isL:∀{l:List AV} {vs us:List Value},vals l=some vs→isL ρ l us→us=vs
 | [],vs,us,h,k=>by simp[vals]at h;subst h;exact k
 | .ext v :: r,vs,us,h,k=>by
  simp only[vals,Option.map_eq_some_iff]at h
  obtain ⟨xs,hx,rfl⟩:=h
  obtain ⟨u,q,rfl,h1,h2⟩:=k
  have h1:u=v:=h1
  rw[h1,vals_isL hx h2]
 | .gd _ _ :: r,vs,us,h,k=>by simp[vals]at h
 | .own _ _ :: r,vs,us,h,k=>by simp[vals]at h
 | .gown _ _ _ :: r,vs,us,h,k=>by simp[vals]at h
 | .fn _ _ :: r,vs,us,h,k=>by simp[vals]at h
 | .bm _ _ :: r,vs,us,h,k=>by simp[vals]at h
 | .slo _ _ _ _ :: r,vs,us,h,k=>by simp[vals]at h
 | .ag _ _ :: r,vs,us,h,k=>by simp[vals]at h
 | .unk :: r,vs,us,h,k=>by simp[vals]at h
theorem aggA_ok{l:List AV}{us:List Value}(h:isL ρ l us):(aggA l).is ρ (.agg us.toArray):=by
 unfold aggA
 split
 ·rename_i vs hv
  show _=_
  rw[vals_isL hv h]
 ·exact ⟨us,h,rfl⟩
theorem tupA_ok{l:List AV}{us:List Value}(h:isL ρ l us):(tupA l).is ρ (.tuple us.toArray):=by
 unfold tupA
 split
 ·rename_i vs hv
  show _=_
  rw[vals_isL hv h]
 ·exact ⟨us,h,rfl⟩
theorem one_cells{v:AV}{u:Value}(h:oneC v)(hu:v.is ρ u):u.oneCell'=true∧u.cells=#[u]:=by
 have key:∀x:Value,x.oneCell'=true→x.cells=#[x]:=fun x hx=>by cases x<;>first|rfl|cases hx
 cases v with
 | ext x=>have:u=x:=hu;subst this;exact ⟨h,key _ h⟩
 | own k o=>obtain ⟨b,_,rfl⟩:=hu;exact ⟨rfl,rfl⟩
 | fn f ks=>obtain ⟨b,_,rfl⟩:=hu;exact ⟨rfl,rfl⟩
 | bm f ks=>obtain ⟨b,_,rfl⟩:=hu;exact ⟨rfl,rfl⟩
 | slo k o n z=>rcases hu with ⟨b,c,_,rfl,_⟩|⟨_,a,_,rfl⟩<;>exact ⟨rfl,rfl⟩
 | gd g x=>cases h
 | gown g k o=>cases h
 | ag t l=>cases h
 | unk=>cases h
theorem allOne_ok:∀{l:List AV} {us:List Value},allOne l→isL ρ l us→∀u∈us,u.oneCell'=true
 | [],us,h,k,u,hu=>by have k:us=[]:=k;subst k;cases hu
 | v :: l,us,h,k,u,hu=>by
  obtain ⟨x,r,rfl,h1,h2⟩:=k
  rcases List.mem_cons.1 hu with rfl|hu
  ·exact (one_cells h.1 h1).1
  ·exact allOne_ok h.2 h2 u hu
theorem cellsG_ok{v:AV}{l:List AV}{u:Value}(h:cellsG v=some l)(hu:v.is ρ u):∃us,u=.agg us.toArray∧isL ρ l us:=by
 cases v with
 | ext x=>
  have:u=x:=hu
  subst this
  cases u<;>simp only[cellsG,Option.some.injEq,reduceCtorEq]at h
  subst h
  exact ⟨_,by simp,isL_ext _⟩
 | ag t l'=>
  cases t<;>simp only[cellsG,Option.some.injEq,reduceCtorEq]at h
  subst h
  obtain ⟨us,h1,rfl⟩:=hu
  exact ⟨us,rfl,h1⟩
 | _=>simp[cellsG]at h
theorem cellsA_ok{v:AV}{l:List AV}{u:Value}(h:cellsA v=some l)(hu:v.is ρ u):isL ρ l u.cells.toList:=by
 cases v with
 | ext x=>
  have:u=x:=hu
  subst this
  simp only[cellsA,Option.some.injEq]at h
  subst h
  exact isL_ext _
 | ag t l'=>
  cases t<;>simp only[cellsA,Option.some.injEq,reduceCtorEq]at h
  subst h
  obtain ⟨us,h1,rfl⟩:=hu
  simpa [aggV,Value.cells] using h1
 | own k o=>
  simp only[cellsA,Option.some.injEq]at h;subst h
  obtain ⟨b,hb,rfl⟩:=hu
  exact ⟨_,[],rfl,⟨b,hb,rfl⟩,rfl⟩
 | fn f ks=>
  simp only[cellsA,Option.some.injEq]at h;subst h
  obtain ⟨b,hb,rfl⟩:=hu
  exact ⟨_,[],rfl,⟨b,hb,rfl⟩,rfl⟩
 | bm f ks=>
  simp only[cellsA,Option.some.injEq]at h;subst h
  obtain ⟨b,hb,rfl⟩:=hu
  exact ⟨_,[],rfl,⟨b,hb,rfl⟩,rfl⟩
 | slo k o n z=>
  simp only[cellsA,Option.some.injEq]at h;subst h
  have h2:=hu
  rcases hu with ⟨b,c,_,rfl,_⟩|⟨_,a,_,rfl⟩<;>exact ⟨_,[],rfl,h2,rfl⟩
 | _=>simp[cellsA]at h
theorem unG_ok{v x:AV}{g:Bool}{u:Value}(h:unG v=some (g,x))(hg:g=true)(hu:v.is ρ u):x.is ρ u:=by
 cases v with
 | gd g' y=>
  simp only[unG,Option.some.injEq,Prod.mk.injEq]at h
  obtain ⟨rfl,rfl⟩:=h
  have hu:u=if g'=true then y else undef:=hu
  rw[if_pos hg]at hu;exact hu
 | gown g' k o=>
  simp only[unG,Option.some.injEq,Prod.mk.injEq]at h
  obtain ⟨rfl,rfl⟩:=h
  have hu:if g'=true then ∃b,ρ k=some b∧u=ptr b.b o else u=undef:=hu
  rw[if_pos hg]at hu;exact hu
 | unk=>simp[unG]at h
 | _=>simp only[unG,Option.some.injEq,Prod.mk.injEq]at h;obtain ⟨_,rfl⟩:=h;exact hu
theorem val_is{v:AV}{g:Bool}{u x:Value}(h:v.val=some (g,u))(hg:g=true)(hx:v.is ρ x):x=u:=by
 cases v with
 | ext v'=>simp[AV.val]at h;obtain ⟨rfl,rfl⟩:=h;exact hx
 | gd g' v'=>
  simp[AV.val]at h
  obtain ⟨rfl,rfl⟩:=h
  have hx:x=if g'=true then v' else undef:=hx
  rw[hx,if_pos hg]
 | _=>simp[AV.val]at h
theorem partC_ok{n:Nat}{k:Bool}{v:AV}{vs:List AV}{ob:Prop}{u:Value}(h:partC n k v=some (ob,vs))(ho:ob)(hu:v.is ρ u):isL ρ vs u.cells.toList∧u.cells.toList.length=n:=by
 unfold partC at h
 split at h
 ·split at h
  ·rename_i l hl
   simp only[Option.some.injEq,Prod.mk.injEq]at h
   obtain ⟨rfl,rfl⟩:=h
   obtain ⟨us,rfl,h2⟩:=cellsG_ok hl hu
   simp only[Value.cells]
   exact ⟨h2,by rw[isL_length h2];exact ho⟩
  ·cases h
 ·simp only[Option.some.injEq,Prod.mk.injEq]at h
  obtain ⟨rfl,rfl⟩:=h
  obtain ⟨h1,rfl⟩:=ho
  obtain ⟨_,h3⟩:=one_cells h1 hu
  rw[h3]
  exact ⟨⟨u,[],rfl,hu,rfl⟩,rfl⟩
end
section
variable {P:Program}{w:World}{ob:Prop}{ρ:Rho}
theorem fold_set(off:Nat):∀(l:List Value) (j:Nat) (cs:List Value),off+j+l.length≤cs.length→
  (l.zipIdx j).foldl (fun (cs:Array Value) (p:Value×Nat)=>cs.setIfInBounds (off+p.2) p.1) cs.toArray=(cs.take (off+j)++(l++cs.drop (off+j+l.length))).toArray
 | [],j,cs,h=>by simp
 | v :: r,j,cs,h=>by
  simp only[List.zipIdx_cons,List.foldl_cons]
  have h1:cs.toArray.setIfInBounds (off+j) v=(cs.set (off+j) v).toArray:=by simp
  simp only[List.length_cons]at h
  rw[h1,fold_set off r (j+1) (cs.set (off+j) v) (by simp;omega)]
  congr 1
  have h2:(cs.set (off+j) v).take (off+(j+1))=cs.take (off+j)++[v]:=by
   rw[show off+(j+1)=off+j+1 from rfl,List.take_succ_eq_append_getElem (by simp;omega),List.take_set_of_le (by omega)]
   simp
  have h3:(cs.set (off+j) v).drop (off+(j+1)+r.length)=cs.drop (off+j+(r.length+1)):=by
   rw[List.drop_set_of_lt (by omega)]
   congr 1;omega
  rw[h2,h3]
  simp
theorem fill_step{place:Nat→Option (Nat×Nat)}{cells:List Value}{i off n:Nat}{v:Value}{vs:List Value}{rest:List (Nat×Value)}(hp:place i=some (off,n))(hv:v.cells.toList=vs)(hn:vs.length=n)(ho:off+n≤cells.length) :
  Instr.fill place cells.toArray ((i,v) :: rest)=Instr.fill place (cells.take off++(vs++cells.drop (off+n))).toArray rest:=by
 have hs:v.cells.size=n:=by rw[←hn,←hv];simp
 simp only[Instr.fill,hp,hs]
 rw[if_neg (by simp;omega)]
 congr 1
 have h1:=fold_set off vs 0 cells (by omega)
 rw[←hv]at h1
 rw[←Array.foldl_toList,Array.toList_zipIdx]
 have h2:v.cells.toList.length=n:=by rw[hv];exact hn
 simp only[h2]at h1
 rw[←hv]
 exact h1
theorem places_ok{T:TypeId}{pl:List (Nat×Nat×Bool)}(h:placesT P T=some pl):∃fs,P.underlying T=some (.struct fs)∧
  fs.toList.mapM (fun f=>(P.info? f.type).map fun i=>(f.offset,i.size))=some (pl.map fun x=>(x.1,x.2.1)):=by
 unfold placesT at h
 split at h
 ·rename_i fs hu
  refine ⟨fs,hu,?_⟩
  generalize fs.toList=l at h
  clear hu
  induction l generalizing pl with
  | nil=>simp at h;subst h;rfl
  | cons f r ih=>
   simp only[List.mapM_cons,Option.bind_eq_bind,Option.pure_def,Option.bind_eq_some_iff]at h
   obtain ⟨x,hx,y,hy,hxy⟩:=h
   split at hx
   ·rename_i i k hi hk
    simp only[Option.some.injEq]at hx hxy
    subst hx hxy
    simp[List.mapM_cons,hi,ih hy]
   ·cases hx
 ·cases h
def Parts(ρ:Rho)(parts:List (Nat×AV))(ps:List (Nat×Value)):Prop:=
 ps.map (·.1)=parts.map (·.1)∧isL ρ (parts.map (·.2)) (ps.map (·.2))
theorem buildL_ok{pl:List (Nat×Nat×Bool)}:∀(parts:List (Nat×AV)) (cells out:List AV) (cs:List Value) (ob:Prop) (ps:List (Nat×Value)),buildL pl cells parts=some (ob,out)→ob→Parts ρ parts ps→isL ρ cells cs→
  ∃os:List Value,Instr.fill (fun i=>(pl[i]?).map fun x=>(x.1,x.2.1)) cs.toArray ps=some os.toArray∧isL ρ out os
 | [],cells,out,cs,ob,ps,h,ho,hp,hc=>by
  simp only[buildL,Option.some.injEq,Prod.mk.injEq]at h
  obtain ⟨rfl,rfl⟩:=h
  cases ps with
  | nil=>exact ⟨cs,rfl,hc⟩
  | cons p r=>cases hp.1
 | (i,x) :: r,cells,out,cs,ob,ps,h,ho,hp,hc=>by
  simp only[buildL]at h
  split at h
  ·rename_i off n k g v hpl hx
   split at h
   ·rename_i ob1 vs hc1
    split at h
    ·rename_i ob2 out2 hb
     simp only[Option.some.injEq,Prod.mk.injEq]at h
     obtain ⟨rfl,rfl⟩:=h
     obtain ⟨hg,h1,h2,h3⟩:=ho
     cases ps with
     | nil=>cases hp.1
     | cons p ps=>
      have e1:=hp.1
      have e2:=hp.2
      simp only[List.map_cons,List.cons.injEq]at e1 e2
      obtain ⟨pi,pv⟩:=p
      obtain ⟨u,q,e3,e4,e5⟩:=e2
      simp only[List.cons.injEq]at e3
      obtain ⟨rfl,rfl⟩:=e3
      obtain ⟨e6,e7⟩:=e1
      simp only at e6
      subst e6
      obtain ⟨c1,c2⟩:=partC_ok hc1 h1 (unG_ok hx hg e4)
      have hlen:=isL_length hc
      rw[fill_step (off:=off) (n:=n) (by simp[hpl]) rfl c2 (by omega)]
      exact buildL_ok r _ _ _ _ ps hb h3 ⟨e7,e5⟩ (isL_append (isL_take _ hc) (isL_append c1 (isL_drop _ hc)))
    ·cases h
   ·cases h
  ·cases h
theorem plN_get(sz:Nat)(k:Bool):∀(n off i:Nat),(plN sz k n off)[i]? = if i<n then some (off+i*sz,sz,k) else none
 | 0,off,i=>by simp[plN]
 | n+1,off,i=>by
  cases i with
  | zero=>simp[plN]
  | succ i=>
   simp only[plN,List.getElem?_cons_succ,plN_get sz k n (off+sz) i]
   by_cases h:i<n
   ·rw[if_pos h,if_pos (by omega)]
    congr 2
    rw[Nat.succ_mul];omega
   ·rw[if_neg h,if_neg (by omega)]
theorem repN_length(z:List Value):∀n,(repN z n).length=n*z.length
 | 0=>by simp[repN]
 | n+1=>by simp[repN,repN_length z n,Nat.succ_mul,Nat.add_comm]
theorem repN_get(z:List Value)(hz:0<z.length):∀(n i:Nat),i<n*z.length→(repN z n)[i]? = z[i % z.length]?
 | 0,i,h=>by simp at h
 | n+1,i,h=>by
  simp only[repN]
  by_cases h1:i<z.length
  ·rw[List.getElem?_append_left h1,Nat.mod_eq_of_lt h1]
  ·rw[List.getElem?_append_right (by omega),repN_get z hz n (i-z.length) (by rw[Nat.succ_mul]at h;omega)]
   congr 1
   rw[Nat.mod_eq_sub_mod (by omega:i≥z.length)]
theorem fill_cut:∀(ps:List (Nat×Value)) (cells:Array Value) (p q:Nat→Option (Nat×Nat)) (n sz:Nat),(∀i,i<n→q i=some (i*sz,sz))→(∀i,¬i<n→q i=none)→(Instr.fill q cells ps).isSome=true→
  Instr.fill (fun i=>some (i*sz,sz)) cells ps=Instr.fill q cells ps
 | [],cells,p,q,n,sz,_,_,_=>rfl
 | (i,v) :: r,cells,p,q,n,sz,h1,h2,h=>by
  by_cases hi:i<n
  ·simp only[Instr.fill,h1 i hi]at h ⊢
   split
   ·rfl
   ·rename_i hc
    rw[if_neg hc]at h
    exact fill_cut r _ p q n sz h1 h2 h
  ·simp[Instr.fill,h2 i hi]at h
theorem rep_cells{zv:Value}{sz n:Nat}(hz2:zv.cells.size=sz):(Array.range (n*sz)).map (zv.cells[· % zv.cells.size]!)=(repN zv.cells.toList n).toArray:=by
 rw[←Array.toList_inj]
 refine List.ext_getElem? fun i=>?_
 simp only[Array.toList_map,List.getElem?_map,Array.toList_range]
 by_cases hi:i<n*sz
 ·have hpos:0<zv.cells.size:=by
   rcases Nat.eq_zero_or_pos sz with h0|h0
   ·rw[h0]at hi;simp at hi
   ·omega
  rw[List.getElem?_range hi,repN_get _ (by simpa using hpos) _ _ (by simpa [hz2] using hi)]
  have hm:i % zv.cells.size<zv.cells.size:=Nat.mod_lt _ hpos
  simp[hm]
 ·rw[List.getElem?_eq_none (by simpa using hi),List.getElem?_eq_none (by rw[repN_length];simp[hz2];omega)]
  rfl
theorem buildR_ok{T:TypeId}{parts:List (Nat×AV)}{ps:Array (Nat×Value)}{v:AV}(h:buildR P T parts=.put ob v)(ho:ob)(hp:Parts ρ parts ps.toList) :
  ∃u,(Instr.build T ps).run P w=.ok u w∧v.is ρ u:=by
 unfold buildR at h
 split at h
 ·rename_i pl cs hpl hz
  split at h
  ·rename_i ob' out hb
   simp only[Res.put.injEq]at h
   obtain ⟨rfl,rfl⟩:=h
   obtain ⟨os,h1,h2⟩:=buildL_ok _ _ _ cs _ ps.toList hb ho hp (isL_ext cs)
   have hbuilt:P.built T ps.toList=some os.toArray:=by
    unfold plT at hpl
    split at hpl
    ·rename_i n e ha
     split at hpl
     ·rename_i sz k hs hk
      simp only[Option.some.injEq]at hpl
      subst hpl
      have hu:P.underlying T=some (.array n e):=by
       unfold arrT at ha
       split at ha
       ·cases ha;assumption
       ·cases ha
      unfold zeroC at hz
      simp only[Option.map_eq_some_iff,Option.bind_eq_some_iff]at hz
      obtain ⟨z,⟨it,hit,hzz⟩,rfl⟩:=hz
      unfold szO at hs
      simp only[Option.map_eq_some_iff]at hs
      obtain ⟨ie,hie,rfl⟩:=hs
      unfold Program.built
      simp only[hit,hu,hzz,hie]
      rw[←h1]
      exact fill_cut ps.toList _ (fun _=>none) _ n ie.size (fun i hi=>by simp[plN_get,hi]) (fun i hi=>by simp[plN_get,hi]) (by rw[h1];rfl)
     ·cases hpl
    obtain ⟨fs,hu,hm⟩:=places_ok hpl
    unfold zeroC at hz
    simp only[Option.map_eq_some_iff,Option.bind_eq_some_iff]at hz
    obtain ⟨z,⟨it,hit,hzz⟩,rfl⟩:=hz
    unfold Program.built
    simp only[hit,hu,hzz,hm]
    rw[←h1]
    congr 1
    funext i
    simp
   exact ⟨_,run_build w T _ _ hbuilt,aggA_ok h2⟩
  ·cases h
 ·cases h
theorem buildL_length{pl:List (Nat×Nat×Bool)}:∀(parts:List (Nat×AV)) (cells out:List AV) (ob:Prop),buildL pl cells parts=some (ob,out)→ob→out.length=cells.length
 | [],cells,out,ob,h,_=>by simp only[buildL,Option.some.injEq,Prod.mk.injEq]at h;rw[h.2]
 | (i,x) :: r,cells,out,ob,h,ho=>by
  simp only[buildL]at h
  split at h
  ·rename_i off n k g v hpl hx
   split at h
   ·rename_i ob1 vs hc1
    split at h
    ·rename_i ob2 out2 hb
     simp only[Option.some.injEq,Prod.mk.injEq]at h
     obtain ⟨rfl,rfl⟩:=h
     obtain ⟨hg,h1,h2,h3⟩:=ho
     rw[buildL_length r _ _ _ hb h3]
     have:vs.length=n:=by
      unfold partC at hc1
      split at hc1
      ·split at hc1
       ·simp only[Option.some.injEq,Prod.mk.injEq]at hc1;obtain ⟨rfl,rfl⟩:=hc1;exact h1
       ·cases hc1
      ·simp only[Option.some.injEq,Prod.mk.injEq]at hc1;obtain ⟨rfl,rfl⟩:=hc1;simp[h1.2]
     simp;omega
    ·cases h
   ·cases h
  ·cases h
theorem run_build0(w:World)(t e:TypeId)(ps:Array (Nat×Value))(ie:TypeInfo)(hu:P.underlying t=some (.slice e))(hie:P.info? e=some ie)(hp:ps.toList=[]) :
  (Instr.buildSlice t 0 ps).run P w=.ok (.slice (some ⟨w.heap.size,0,none⟩) 0 0) (w.alloc (.cells #[] e)):=by
 have hr:Array.range 0=#[]:=rfl
 simp[Instr.buildSlice,run_underlying hu,sizeOf,typeInfo,hie,newRow,hp,Instr.fill,hr]
theorem buildSR_ok{T:TypeId}{n:Nat}{parts:List (Nat×AV)}{D:NewD}{cs:List AV}(h:buildSR P T n parts=.new D cs)(ho:D.ob) :
  ∃sz,D.sl=some (n,sz)∧cs.length=n*sz∧∀ps:Array (Nat×Value),Parts ρ parts ps.toList→∃os:List Value,isL ρ cs os∧(Instr.buildSlice T n ps).run P w=.ok (.slice (some ⟨w.heap.size,0,none⟩) n n) (w.alloc (.cells os.toArray D.T)):=by
 unfold buildSR at h
 split at h
 ·rename_i e he
  split at h
  ·rename_i sz k z hs hk hz
   split at h
   ·rename_i ob out hb
    simp only[Res.new.injEq]at h
    obtain ⟨rfl,rfl⟩:=h
    obtain ⟨h1,h2,h3,h4⟩:=ho
    refine ⟨sz,rfl,?_,fun ps hp=>?_⟩
    ·rw[buildL_length _ _ _ _ hb h1,List.length_map,repN_length,h4]
    unfold slcT at he
    split at he
    ·rename_i e' hu
     simp only[Option.some.injEq]at he
     subst he
     unfold szO at hs
     simp only[Option.map_eq_some_iff]at hs
     obtain ⟨ie,hie,rfl⟩:=hs
     unfold zeroC at hz
     simp only[Option.map_eq_some_iff,Option.bind_eq_some_iff]at hz
     obtain ⟨zv,⟨ie',hie',hzv⟩,rfl⟩:=hz
     rw[hie]at hie'
     injection hie' with e1
     subst e1
     obtain ⟨os,hb2,ho2⟩:=buildL_ok _ _ _ _ _ ps.toList hb h1 hp (isL_ext (repN zv.cells.toList n))
     rcases h2 with h2|h2
     case inr=>
      subst h2
      cases parts with
      | cons x r=>simp[plN,buildL]at hb
      | nil=>
       have hps:ps.toList=[]:=by have:=hp.1;simpa using this
       simp only[plN,buildL,repN,List.map_nil,Option.some.injEq,Prod.mk.injEq]at hb
       obtain ⟨rfl,rfl⟩:=hb
       have hos:os=[]:=ho2
       subst hos
       exact ⟨[],rfl,run_build0 w T e' ps ie hu hie hps⟩
     refine ⟨os,ho2,run_buildSlice w T e' n ps os.toArray ie zv hu hie hzv (by omega) (by omega) ?_⟩
     have hz2:zv.cells.size=ie.size:=by simpa using h4
     rw[rep_cells hz2,←hb2]
     exact fill_cut ps.toList _ (fun _=>none) _ n ie.size (fun i hi=>by simp[plN_get,hi]) (fun i hi=>by simp[plN_get,hi]) (by rw[hb2];rfl)
    ·cases he
   ·cases h
  ·cases h
 ·cases h
theorem eqC_0{a b:Value}{x:Bool}(h:eqC 0 a b=some x):∃k p q,a=.int k p∧b=.int k q∧x=decide (p=q):=by
 cases a<;>cases b<;>simp only[eqC,reduceCtorEq]at h
 split at h
 ·rename_i e;subst e;cases h;exact ⟨_,_,_,rfl,rfl,rfl⟩
 ·cases h
theorem eqC_1{a b:Value}{x:Bool}(h:eqC 1 a b=some x):∃p q,a=.bool p∧b=.bool q∧x=(p==q):=by
 cases a<;>cases b<;>simp only[eqC,reduceCtorEq,Option.some.injEq]at h
 exact ⟨_,_,rfl,rfl,h.symm⟩
theorem eqC_2{a b:Value}{x:Bool}(h:eqC 2 a b=some x):∃p q,a=.string p∧b=.string q∧x=(p.toList==q.toList):=by
 cases a<;>cases b<;>simp only[eqC,reduceCtorEq,Option.some.injEq]at h
 exact ⟨_,_,rfl,rfl,h.symm⟩
theorem scalar_part{T:TypeId}{off:Nat}{xs:Array Value}{v:Value}(h:(∃k,P.underlying T=some (.int k))∨P.underlying T=some .bool∨P.underlying T=some .string)(hv:xs[off]? = some v):(part T xs off).run P w=.ok v w:=by
 have hagg:(isAgg T).run P w=.ok false w:=by
  unfold isAgg
  rcases h with ⟨k,h⟩|h|h<;>(rw[Sem.run_bind,run_underlying h w];rfl)
 simp only[part,Sem.run_bind,hagg,Result.andThen_ok,Bool.false_eq_true,if_false,hv,Sem.run_pure]
theorem eqFields_ok(d:Nat)(xs ys:Array Value):∀(fs:List Field) (l:List (Nat×Nat)) (t:Bool),
  fs.mapM (fun f=>if f.name = "_" then none else match P.underlying f.type with
   | some (.int _)=>some (f.offset,0)
   | some .bool=>some (f.offset,1)
   | some .string=>some (f.offset,2)
   | _=>none)=some l→eqL l xs.toList ys.toList=some t→(Op.eqFields (d+1) xs ys fs).run P w=.ok t w
 | [],l,t,h,he=>by
  simp at h;subst h
  simp only[eqL,Option.some.injEq]at he
  subst he
  simp[Op.eqFields]
 | f :: fs,l,t,h,he=>by
  rw[List.mapM_cons]at h
  simp only[Option.bind_eq_bind,Option.pure_def,Option.bind_eq_some_iff]at h
  obtain ⟨x,hx,r,hr,hl⟩:=h
  simp only[Option.some.injEq]at hl
  subst hl
  split at hx
  ·cases hx
  ·rename_i hname
   obtain ⟨o,k⟩:=x
   simp only[eqL]at he
   split at he
   ·rename_i a b ha hb
    split at he
    ·rename_i x y hxx hyy
     simp only[Option.some.injEq]at he
     subst he
     have ih:=eqFields_ok d xs ys fs r y hr hyy
     have fin:∀(hs:(∃k,P.underlying f.type=some (.int k))∨P.underlying f.type=some .bool∨P.underlying f.type=some .string),f.offset=o→(Op.equalIn (d+1) f.type a b).run P w=.ok x w→
       (Op.eqFields (d+1) xs ys (f :: fs)).run P w=.ok (x&&y) w:=fun hs ho hq=>by
      subst ho
      have p1:=scalar_part (w:=w) hs (xs:=xs) (off:=f.offset) (v:=a) (by simpa using ha)
      have p2:=scalar_part (w:=w) hs (xs:=ys) (off:=f.offset) (v:=b) (by simpa using hb)
      simp only[Op.eqFields,hname,ne_eq,not_false_eq_true,if_true,Sem.run_bind,p1,p2,hq,Result.andThen_ok]
      cases x
      ·simp
      ·simpa using ih
     split at hx
     ·rename_i kk hu
      simp only[Option.some.injEq,Prod.mk.injEq]at hx
      obtain ⟨ho,rfl⟩:=hx
      obtain ⟨k,p,q,rfl,rfl,rfl⟩:=eqC_0 hxx
      refine fin (.inl ⟨_,hu⟩) ho ?_
      rw[run_equalIn_int w d f.type _ kk _ _ hu]
      rfl
     ·rename_i hu
      simp only[Option.some.injEq,Prod.mk.injEq]at hx
      obtain ⟨ho,rfl⟩:=hx
      obtain ⟨p,q,rfl,rfl,rfl⟩:=eqC_1 hxx
      refine fin (.inr (.inl hu)) ho ?_
      rw[run_equalIn_bool' w d f.type _ _ hu]
     ·rename_i hu
      simp only[Option.some.injEq,Prod.mk.injEq]at hx
      obtain ⟨ho,rfl⟩:=hx
      obtain ⟨p,q,rfl,rfl,rfl⟩:=eqC_2 hxx
      refine fin (.inr (.inr hu)) ho ?_
      rw[run_equalIn_string w d f.type _ _ hu]
     ·cases hx
    ·cases he
   ·cases he
theorem eqV_ok{b:BinOp}{T:TypeId}{xs ys:Array Value}{v:Value}{ob:Prop}(h:eqV P b T xs.toList ys.toList=some (ob,v)):(binOp b T (.agg xs) (.agg ys)).run P w=.ok v w∧P.eqGuardType P.depth T=false:=by
 unfold eqV at h
 split at h
 ·rename_i t ht
  simp only[Option.bind_eq_some_iff]at ht
  obtain ⟨l,hl,he⟩:=ht
  unfold flatK at hl
  split at hl
  ·rename_i fs hu
   split at hl
   ·rename_i hs hg
    have hfs:P.fieldsOf T=fs:=by simp[Program.fieldsOf,hu]
    have heq:(Op.equalIn 10000 T (.agg xs) (.agg ys)).run P w=.ok t w:=by
     rw[run_equalIn_struct w 9999 T xs ys (by rw[hfs];exact hu) hs,hfs]
     exact eqFields_ok 9998 xs ys fs.toList l t hl he
    refine ⟨?_,hg⟩
    split at h
    ·simp only[Option.some.injEq,Prod.mk.injEq]at h
     rw[run_eql_struct,heq,Result.andThen_ok,h.2]
    ·simp only[Option.some.injEq,Prod.mk.injEq]at h
     rw[run_neq_struct,heq,Result.andThen_ok,h.2]
    ·cases h
   ·cases hl
  ·cases hl
 ·cases h
theorem intV_ok{b:BinOp}{k:IntKind}{x y:Int}{ob:Prop}{v:Value}{T:TypeId}(h:intV b k x y=some (ob,v))(ho:ob) :
  (binOp b T (.int k x) (.int k y)).run P w=.ok v w:=by
 cases b<;>simp only[intV,Option.some.injEq,Prod.mk.injEq]at h<;>obtain ⟨rfl,rfl⟩:=h
 all_goals first
  | (simp[binOp,Op.intArith,Op.intCmp,Op.intBits,bits,go_sem];done)
  | (simp[binOp,Op.intDiv,ho,go_sem];done)
  | (simp only[binOp,Op.shift];rw[if_neg (by omega)];rfl)
  | (simp only[binOp,Op.intCmp,ne_eq,not_true_eq_false,if_false];rfl)
theorem bytesLess_total:∀x y:List UInt8,(Op.bytesLess x y || x==y) = !Op.bytesLess y x
 | [],[]=>by simp[Op.bytesLess]
 | [],_ :: _=>by simp[Op.bytesLess]
 | _ :: _,[]=>by simp[Op.bytesLess]
 | a :: x,b :: y=>by
  have ih:=bytesLess_total x y
  simp only[Op.bytesLess]
  rcases Nat.lt_trichotomy a.toNat b.toNat with h|h|h
  ·have h1:a<b:=UInt8.lt_iff_toNat_lt.2 h
   have h2:¬b<a:=fun h2=>by have:=UInt8.lt_iff_toNat_lt.1 h2;omega
   have h3:b≠a:=fun e=>by subst e;omega
   simp[h1,h2,h3]
  ·have h0:a=b:=UInt8.toNat.inj h
   subst h0
   simp[UInt8.lt_irrefl]at ih ⊢
   exact ih
  ·have h1:¬a<b:=fun h2=>by have:=UInt8.lt_iff_toNat_lt.1 h2;omega
   have h2:b<a:=UInt8.lt_iff_toNat_lt.2 h
   have h3:a≠b:=fun e=>by subst e;omega
   simp[h1,h2,h3]
theorem strV_ok{b:BinOp}{x y:ByteArray}{ob:Prop}{v:Value}{T:TypeId}(h:strV b x y=some (ob,v))(ho:ob) :
  (binOp b T (.string x) (.string y)).run P w=.ok v w:=by
 have hm:IntKind.i64.max=9223372036854775807:=by decide
 cases b<;>simp only[strV,Option.some.injEq,Prod.mk.injEq,reduceCtorEq]at h<;>obtain ⟨rfl,rfl⟩:=h
 all_goals simp only[binOp,Op.stringOp]
 ·rw[if_neg (by rw[hm];omega)];rfl
 ·rfl
 ·rfl
 ·rfl
 ·rw[bytesLess_total];rfl
 ·rw[bytesLess_total,Bool.not_not];rfl
 ·rfl
theorem boolV_ok{b:BinOp}{x y:Bool}{ob:Prop}{v:Value}{T:TypeId}(hT:P.underlying T=some .bool)(h:boolV b x y=some (ob,v)) :
  (binOp b T (.bool x) (.bool y)).run P w=.ok v w:=by
 have he:∀d,(Op.equalIn (d+1) T (.bool x) (.bool y)).run P w=.ok (x==y) w:=fun d=>by simp[Op.equalIn,run_underlying hT]
 cases b<;>simp only[boolV,Option.some.injEq,Prod.mk.injEq,reduceCtorEq]at h<;>obtain ⟨rfl,rfl⟩:=h
 ·simp only[binOp];simp[Op.equal,Op.maxDepth,he 9999]
 ·simp only[binOp];simp[Op.equal,Op.maxDepth,he 9999]
theorem nilV_ok{b:BinOp}{u:Value}{n2 c2:Nat}{ob:Prop}{v:Value}{T e:TypeId}(hT:P.underlying T=some (.slice e))(h:nilV b u=some (ob,v))(ho:ob) :
  (binOp b T u (.slice none n2 c2)).run P w=.ok v w:=by
 have hu:isSl u=true:=by cases b<;>simp only[nilV,Option.some.injEq,Prod.mk.injEq,reduceCtorEq]at h<;>obtain ⟨rfl,rfl⟩:=h<;>exact ho
 cases u<;>try cases hu
 rename_i A n1 c1
 have he:∀d,(Op.equalIn (d+1) T (.slice A n1 c1) (.slice none n2 c2)).run P w=.ok A.isNone w:=fun d=>by cases A<;>simp[Op.equalIn,run_underlying hT]
 cases b<;>simp only[nilV,Option.some.injEq,Prod.mk.injEq,reduceCtorEq]at h<;>obtain ⟨rfl,rfl⟩:=h
 ·simp only[binOp];simp[Op.equal,Op.maxDepth,he 9999,nilS]
 ·simp only[binOp];simp[Op.equal,Op.maxDepth,he 9999,nilS]
theorem binV_ok{b:BinOp}{T:TypeId}{u u' v:Value}{ob:Prop}(h:binV P b T u u'=some (ob,v))(ho:ob):(binOp b T u u').run P w=.ok v w:=by
 unfold binV at h
 split at h
 ·split at h
  ·split at h
   ·rename_i e;subst e;exact intV_ok h ho
   ·split at h
    ·simp only[intV,Option.some.injEq,Prod.mk.injEq]at h;obtain ⟨rfl,rfl⟩:=h
     simp only[binOp,Op.shift];rw[if_neg (by omega)];rfl
    ·simp only[intV,Option.some.injEq,Prod.mk.injEq]at h;obtain ⟨rfl,rfl⟩:=h
     simp only[binOp,Op.shift];rw[if_neg (by omega)];rfl
    ·cases h
  ·cases h
 ·split at h
  ·exact strV_ok h ho
  ·cases h
 ·split at h
  ·split at h
   ·rename_i hb;unfold isBoolT at hb;split at hb
    ·exact boolV_ok (by assumption) h
    ·cases hb
   ·cases h
  ·cases h
 ·split at h
  ·rename_i hb;unfold isSliceT at hb;split at hb
   ·exact nilV_ok (by assumption) h ho
   ·cases hb
  ·cases h
 ·split at h
  ·exact (eqV_ok h).1
  ·cases h
 ·cases h
theorem eqGuard_ok{b:BinOp}{T:TypeId}{u u' v:Value}{ob:Prop}{x y:Operand}(h:binV P b T u u'=some (ob,v)):(eqGuard b T x y u u').run P w=.ok () w:=by
 unfold binV at h
 split at h
 ·simp[eqGuard]
 ·simp[eqGuard]
 ·simp[eqGuard]
 ·simp[eqGuard]
 ·split at h
  ·exact run_eqGuard_agg w b T x y _ _ (eqV_ok (w:=w) h).2
  ·cases h
 ·cases h
theorem unV_ok{o:UnOp}{u v:Value}(h:unV o u=some v):(Op.unary o u).run P w=.ok v w:=by
 unfold unV at h
 split at h<;>(try cases h)
 ·simp[Op.unary]
 ·simp[Op.unary,Op.intArith]
theorem kindT_true{T:TypeId}(h:kindT P T=some true):∃d,P.underlying T=some d∧d.isRow=true:=by
 unfold kindT at h
 split at h
 ·exact ⟨_,by assumption,rfl⟩
 ·exact ⟨_,by assumption,rfl⟩
 ·cases h
 ·cases h
theorem kindT_false{T:TypeId}(h:kindT P T=some false):(isAgg T).run P w=.ok false w:=by
 unfold kindT at h
 unfold isAgg
 split at h
 ·cases h
 ·cases h
 ·rename_i d hd1 hd2 hd
  rw[Sem.run_bind,run_underlying hd w]
  cases d<;>first|rfl|exact absurd rfl (by first|exact hd1 _|exact hd2 _ _)
 ·cases h
end
end Go.Proofs.Ytjapnklocibgaaa.Sx
