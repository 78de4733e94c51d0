/- Part 26 of the texts of this claim: a symbolic executor and contracts of functions. -/
import Derived.Test.YtoblkpomikokhaaGpORCRow
import Derived.Test.YtoblkpomikokhaaGpORCLst
import Derived.ChangeArms
namespace Go.Proofs.Ytoblkpomikokhaa.Sx
set_option linter.unusedVariables false
open Go Go.RowKit Go.ChangeShapes Go.WideShapes Go.ChangeAt
section
variable {H:Type}{enc:TypeId×Value→H}{P:Program}{W:World}{base:Nat}{spare:Nat→Bool}{held:Bool}
theorem mem_wAll{e:TypeId}{n:Nat}:∀{l:List (DataW H)} {d:DataW H},d∈l→n∈d.weights P e→n∈DataW.weightsAll P e l
 | [],_,h,_=>by simp at h
 | x :: r,d,h,hn=>by
  simp only[DataW.weightsAll,List.mem_append]
  rcases List.mem_cons.1 h with rfl|h
  ·exact .inl hn
  ·exact .inr (mem_wAll h hn)
theorem mem_wEach{n:Nat}:∀{ts:List TypeId} {ds:List (DataW H)} {j:Nat} {t:TypeId} {d:DataW H},ts[j]? = some t→ds[j]? = some d→n∈d.weights P t→n∈DataW.weightsEach P ts ds
 | t0 :: ts,d0 :: ds,0,t,d,ht,hd,hn=>by
  simp only[List.getElem?_cons_zero,Option.some.injEq]at ht hd
  subst ht;subst hd
  simp only[DataW.weightsEach,List.mem_append]
  exact .inl hn
 | t0 :: ts,d0 :: ds,j+1,t,d,ht,hd,hn=>by
  simp only[List.getElem?_cons_succ]at ht hd
  simp only[DataW.weightsEach,List.mem_append]
  exact .inr (mem_wEach ht hd hn)
 | [],_,_,_,_,ht,_,_=>by simp at ht
 | _ :: _,[],_,_,_,_,hd,_=>by simp at hd
def small(P:Program)(t:TypeId)(d:DataW H):Prop:=∀k∈d.weights P t,k≤140737488351232
theorem small_of{ts:List TypeId}{ds:List (DataW H)}(h:(DataW.weightsEach P ts ds).all (·≤reachBytes)=true){j:Nat}{t:TypeId}{d:DataW H}(ht:ts[j]? = some t)(hd:ds[j]? = some d):small P t d:=fun k hk=>by
 have:=List.all_eq_true.1 h _ (mem_wEach ht hd hk)
 have:=of_decide_eq_true this
 exact this
def Opn(enc:TypeId×Value→H)(P:Program)(W:World)(base:Nat)(spare:Nat→Bool)(held:Bool){α:Type}(t:TypeId)(g:α→List Value)(ok:α→Prop):Prop:=
 ∀fu cs x,DataW.trod enc P W base spare held fu t cs=some x→small P t x.1→∃a,cs=g a∧ok a
theorem opn_string{t:TypeId}(ht:P.underlying t=some .string):Opn enc P W base spare held t (fun s:Bst=>[sbV s]) (fun s=>s.length≤140737488351232):=fun fu cs x h hs=>by
 obtain ⟨s,rfl,rfl,_⟩:=DataW.trod_string ht h
 refine ⟨s.data.toList,rfl,?_⟩
 exact hs s.data.toList.length (by simp[DataW.weights])
theorem opn_int{t:TypeId}{k:IntKind}(ht:P.underlying t=some (.int k)):Opn enc P W base spare held t (fun n:Int=>[.int k n]) (fun n=>(Lit.int k n).wf=true):=fun fu cs x h hs=>by
 obtain ⟨n,rfl,rfl,hw⟩:=DataW.trod_int ht h
 exact ⟨n,rfl,hw⟩
theorem opn_field{t:TypeId}{fs:Array Field}{fu:Nat}{cs:List Value}{x:DataW H×List MemPlace}(ht:P.underlying t=some (.struct fs))(h:DataW.trod enc P W base spare held fu t cs=some x)(hs:small P t x.1) :
  cs.length=P.cellsOf t∧∀(i:Nat) (f:Field),fs[i]? = some f→∃n y,DataW.trod enc P W base spare held n f.type ((cs.drop f.offset).take (P.cellsOf f.type))=some y∧small P f.type y.1:=by
 obtain ⟨xs,n,_,rfl,hl,hlen,hf⟩:=DataW.trod_struct ht h
 refine ⟨hl,fun i f hi=>?_⟩
 have hlt:i<xs.length:=by rw[hlen];exact (Array.getElem?_eq_some_iff.1 hi).1
 have h1:=hf i f hi
 rw[List.getElem?_eq_getElem hlt]at h1
 refine ⟨n,xs[i],h1,fun k hk=>hs k ?_⟩
 simp only[DataW.weights,ht]
 exact mem_wEach (j:=i) (t:=f.type) (d:=xs[i].1) (by simp;exact ⟨f,by simpa using hi,rfl⟩) (by simp[hlt]) hk
theorem opn_str2{α β:Type}{t:TypeId}{f0 f1:Field}{g0:α→List Value}{g1:β→List Value}{ok0:α→Prop}{ok1:β→Prop}(ht:P.underlying t=some (.struct #[f0,f1]))(h0:Opn enc P W base spare held f0.type g0 ok0)(h1:Opn enc P W base spare held f1.type g1 ok1)(o0:f0.offset=0)(c0:P.cellsOf f0.type=f1.offset)(ce:P.cellsOf t=f1.offset+P.cellsOf f1.type) :
  Opn enc P W base spare held t (fun a:α×β=>g0 a.1++g1 a.2) (fun a=>ok0 a.1∧ok1 a.2):=fun fu cs x h hs=>by
 obtain ⟨hl,hf⟩:=opn_field ht h hs
 obtain ⟨_,_,t0,s0⟩:=hf 0 f0 rfl
 obtain ⟨_,_,t1,s1⟩:=hf 1 f1 rfl
 obtain ⟨a,ha,pa⟩:=h0 _ _ _ t0 s0
 obtain ⟨b,hb,pb⟩:=h1 _ _ _ t1 s1
 refine ⟨(a,b),?_,pa,pb⟩
 simp only
 rw[←ha,←hb,o0,c0,List.drop_zero,List.take_of_length_le (l:=cs.drop f1.offset) (by rw[List.length_drop];omega),List.take_append_drop]
theorem opn_str3{α β γ:Type}{t:TypeId}{f0 f1 f2:Field}{g0:α→List Value}{g1:β→List Value}{g2:γ→List Value}{ok0:α→Prop}{ok1:β→Prop}{ok2:γ→Prop}(ht:P.underlying t=some (.struct #[f0,f1,f2]))(h0:Opn enc P W base spare held f0.type g0 ok0)(h1:Opn enc P W base spare held f1.type g1 ok1)(h2:Opn enc P W base spare held f2.type g2 ok2)(o0:f0.offset=0)(c0:P.cellsOf f0.type=f1.offset)(c1:f1.offset+P.cellsOf f1.type=f2.offset)(ce:P.cellsOf t=f2.offset+P.cellsOf f2.type) :
  Opn enc P W base spare held t (fun a:α×β×γ=>g0 a.1++(g1 a.2.1++g2 a.2.2)) (fun a=>ok0 a.1∧ok1 a.2.1∧ok2 a.2.2):=fun fu cs x h hs=>by
 obtain ⟨hl,hf⟩:=opn_field ht h hs
 obtain ⟨_,_,t0,s0⟩:=hf 0 f0 rfl
 obtain ⟨_,_,t1,s1⟩:=hf 1 f1 rfl
 obtain ⟨_,_,t2,s2⟩:=hf 2 f2 rfl
 obtain ⟨a,ha,pa⟩:=h0 _ _ _ t0 s0
 obtain ⟨b,hb,pb⟩:=h1 _ _ _ t1 s1
 obtain ⟨c,hc,pc⟩:=h2 _ _ _ t2 s2
 refine ⟨(a,b,c),?_,pa,pb,pc⟩
 simp only
 rw[←ha,←hb,←hc,o0,c0,List.drop_zero,List.take_of_length_le (l:=cs.drop f2.offset) (by rw[List.length_drop];omega),←c1,←List.drop_drop,List.take_append_drop,List.take_append_drop]
theorem opn_slice{α:Type}{t e:TypeId}{z B:Nat}{g:α→List Value}{ok:α→Prop}{v:Value}{d:DataW H}{ps:List MemPlace}{r:Reach}{b0:Nat}(ho:Opn enc P W base spare held e g ok)(hg:∀a,(g a).length=z)(hz:P.cellsOf e=z)(hB:P.bytesOf e=B)(ht:P.underlying t=some (.slice e))(hv:Value.okWide P W r b0 t v)(h:DataW.Trod enc P W base spare held t v d ps)(hs:small P t d) :
  ∃l:List α,IsR (heapM W) z g v l∧l.length*B≤140737488351232∧∀a∈l,ok a:=by
 obtain ⟨n,cs,hsl,hn,hel⟩:=open_row ht hz hv h
 obtain ⟨fuel,hf⟩:=h
 obtain ⟨a,len,cap,rfl⟩:=okWide_slice ht hv
 have hone:(Value.slice a len cap).cells.toList=[.slice a len cap]:=rfl
 rw[hone]at hf
 rcases Go.Deep.open_slice ht hf with ⟨h0,_⟩|⟨a',len',cap',m,k,D,Pl,hcs,hb,hl,hm,hmm,hx,hi⟩
 ·obtain ⟨rfl,rfl,rfl⟩:a=none∧len=0∧cap=0:=by simpa using h0
  have:n=0:=by have:=hsl.len;simpa [slen] using this.symm
  subst this
  refine ⟨[],?_,by simp,by simp⟩
  exact slM_nil _ _ _
 ·obtain ⟨rfl,rfl,rfl⟩:a=some a'∧len=len'∧cap=cap':=by simpa using hcs
  have hnl:n=len:=by have:=hsl.len;simpa [slen] using this.symm
  subst hnl
  have hlm:n≤m:=by rw[hmm];split<;>omega
  obtain rfl:d=_:=congrArg Prod.fst hx
  have hw:n*B≤140737488351232:=by
   have:=hs (((List.range n).map D).length+((List.range (m-n)).map fun j=>D (n+j)).length |> (· * P.bytesOf e)) (by simp[DataW.weights,ht])
   simp only[List.length_map,List.length_range,hB]at this
   exact Nat.le_trans (Nat.mul_le_mul_right B (Nat.le_add_right n (m-n))) this
  have hsm:∀i,i<n→small P e (D i):=fun i hin q hq=>hs q (by
   simp only[DataW.weights,ht,List.mem_cons,List.mem_append]
   exact .inr (.inl (mem_wAll (List.mem_map.2 ⟨i,by simpa using hin,rfl⟩) hq)))
  have hsp:=okSlice ht hv
  have key:∀i,i<n→∃y,(cs.drop (i*z)).take z=g y∧ok y:=fun i hin=>by
   obtain ⟨cs',h1,h2⟩:=hi i (by omega)
   obtain ⟨y,e1,e2⟩:=ho _ _ _ h2 (hsm i hin)
   refine ⟨y,?_,e2⟩
   rw[←e1]
   obtain ⟨_,h3,h4⟩:=World.cells?_some h1
   obtain ⟨b,off,sp⟩:=a'
   obtain rfl:sp=none:=hsp
   have hrow:rowM (heapM W) b off (n*z)=some cs:=by
    by_cases hn0:n=0
    ·omega
    ·have:=hsl.row
     simpa [rowS] using this
   obtain ⟨r1,r2⟩:=rowM_get hrow
   have hle:i*z+z≤n*z:=by
    have:=Nat.mul_le_mul_right z (show i+1≤n by omega)
    rw[Nat.succ_mul]at this
    exact this
   apply List.ext_getElem?
   intro j
   by_cases hj:j<z
   ·rw[List.getElem?_take_of_lt hj,List.getElem?_drop]
    have h5:=h4 j (by omega)
    have hjl:j<cs'.length:=by omega
    rw[List.getElem?_eq_getElem hjl]at h5 ⊢
    have h6:=(cell_heapM h5).2
    have hb1:∀(x:Addr) n,(x.add n).block=x.block:=fun x n=>by unfold Addr.add;split<;>rfl
    have hb2:∀(x:Addr) n,(x.add n).off=x.off+n:=fun x n=>by unfold Addr.add;split<;>simp_all
    rw[hb1,hb1,hb2,hb2,hz]at h6
    have hc:i*z+j<cs.length:=by omega
    have:=r2 (i*z+j) cs[i*z+j] (by rw[List.getElem?_eq_getElem hc])
    rw[List.getElem?_eq_getElem hc]
    simp only at h6
    rw[show off+(i*z+j)=off+i*z+j by omega]at this
    rw[←this,h6]
   ·rw[List.getElem?_eq_none (by rw[List.length_take];omega),List.getElem?_eq_none (by omega)]
  have hcl:=hsl.size
  have all:∀k,k≤n→∃l:List α,l.length=k∧cs.take (k*z)=l.flatMap g∧∀a∈l,ok a:=by
   intro k
   induction k with
   | zero=>intro _;exact ⟨[],rfl,by simp,by simp⟩
   | succ k ih=>
    intro hk
    obtain ⟨l,e1,e2,e3⟩:=ih (by omega)
    obtain ⟨y,e4,e5⟩:=key k (by omega)
    refine ⟨l++[y],by simp[e1],?_,fun a ha=>?_⟩
    ·rw[List.flatMap_append,←e2,Nat.succ_mul,List.take_add,e4];simp
    ·rcases List.mem_append.1 ha with h|h
     ·exact e3 a h
     ·rw[List.mem_singleton.1 h];exact e5
  obtain ⟨l,e1,e2,e3⟩:=all n (Nat.le_refl _)
  rw[List.take_of_length_le (by omega)]at e2
  refine ⟨l,?_,by rw[e1];exact hw,e3⟩
  unfold IsR
  rw[e1,←e2];exact hsl
theorem flat_one{α:Type}(g:α→Value):∀l:List α,l.flatMap (fun a=>[g a])=l.map g
 | []=>rfl
 | a :: r=>by rw[List.flatMap_cons,flat_one g r];rfl
theorem IsR.isL{α:Type}{M:Mem}{g:α→Value}{u:Value}{l:List α}(h:IsR M 1 (fun a=>[g a]) u l):IsL M g u l:=by
 unfold IsR at h
 unfold IsL
 rwa[flat_one]at h
end
end Go.Proofs.Ytoblkpomikokhaa.Sx
