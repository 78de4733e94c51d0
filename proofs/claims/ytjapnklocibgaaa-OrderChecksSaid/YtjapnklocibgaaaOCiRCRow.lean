/- Part 33 of the texts of this claim: a symbolic executor and contracts of functions. -/
import Derived.Test.YtjapnklocibgaaaOCiRCTab
import Derived.WalkKit
import Derived.ProofKit
import Derived.OpenShut
import Derived.Below
import Derived.ChangeSame
import Derived.Carry
import Derived.Deep.Slices
namespace Go.Proofs.Ytjapnklocibgaaa.Sx
set_option linter.unusedVariables false
open Go Go.RowKit Go.ChangeShapes Go.WideShapes Go.ChangeAt
section
variable {H:Type}{enc:TypeId×Value→H}{P:Program}
theorem post_of_below{f:Func}{s:ChangeSpec}{apart fresh handsOn again:Bool}{W W':World}{args:Array Value}{v:Value}{ds gs:List (DataW H)}{before pa pv:List MemPlace}
  (hW:DataW.Whole enc P f.params.toList s.vars apart W args.toList ds gs before)
  (hres:∀(b:Nat) (sp:Nat→Bool) (hd:Bool),DataW.TrodAll enc P W' b sp hd f.resultTypes.toList (v.resultList f.resultTypes.size) (s.fn H (ds++gs)).results [])
  (hargs:∀sp:Nat→Bool,(∀p∈before,sp p.block=true)→DataW.TrodAll enc P W' 0 sp true f.params.toList args.toList (s.fn H (ds++gs)).args pa)
  (hvars:∀sp:Nat→Bool,(∀p∈before,sp p.block=true)→DataW.TrodVars enc P W' sp s.vars (s.fn H (ds++gs)).vars pv)
  (hps:before=pa++pv) (hb:Below W.heap.size W W')
  (hok:∀(j:Nat) (t:TypeId) (r:Value),f.resultTypes[j]? = some t→(v.resultList f.resultTypes.size)[j]? = some r→Value.okWide P W' .any 0 t r) :
  s.post enc P f apart fresh handsOn again W args v W':=by
 have hlt:∀p∈before,p.block<W.heap.size:=fun p hp=>hW.lt p hp
 have hold:∀p∈before,(fun b=>decide (b<W.heap.size)) p.block=true:=fun p hp=>by simpa using hlt p hp
 refine ⟨ds,gs,before,[],pa,pv,hW,hres _ _ _,hargs _ hold,hvars _ hold,World.keptBut_mono (fun p hp=>⟨hp,?_⟩) (hb.frame (·∈before)),fun _=>?_⟩
 ·rw[hps,List.mem_append]at hp
  exact Or.inr hp
 ·obtain ⟨_,_,_,_,_,hz,hn⟩:=hW
  refine ⟨hok,_,_,([]++pa)++pv,⟨[]++pa,pv,trodAll_append (hargs _ (fun _ _=>rfl)) (hres _ _ _),hvars _ (fun _ _=>rfl),rfl,?_,?_⟩,?_⟩
  ·intro b off hp
   have hin:MemPlace.cell b off∈before:=by rw[hps];simpa using hp
   rw[hb.frozen (hlt _ hin)]
   exact hz b off hin
  ·intro ha
   have:=hn ha
   rw[hps]at this
   simpa using this
  ·intro p hp _
   rw[hps]
   simpa using hp
def rdAll(P:Program):List TypeId→Bool
 | []=>true
 | t :: r=>P.readableRec t&&decide (t<P.types.size)&&rdAll P r
theorem trodAll_stays{W W':World}(hl:laidOutB P=true)(hb:Below W.heap.size W W'){sp:Nat→Bool}:∀{ts:List TypeId} {vs:List Value} {ds:List (DataW H)} {ps:List MemPlace},rdAll P ts=true→(∀p∈ps,p.block<W.heap.size)→(∀p∈ps,sp p.block=true)→
  DataW.TrodAll enc P W 0 (fun _=>true) true ts vs ds ps→DataW.TrodAll enc P W' 0 sp true ts vs ds ps
 | [],[],[],_,_,_,_,h=>h
 | t :: ts,v :: vs,d :: ds,ps,hr,hlt,hs,h=>by
  obtain ⟨p,q,h1,h2,rfl⟩:=h
  simp only[rdAll,Bool.and_eq_true,decide_eq_true_eq]at hr
  refine ⟨p,q,Go.WideElems.Trod_stays hl hr.1.1 hr.1.2 h1 (fun x hx=>hb.same (hlt x (by simp[hx]))) (fun x hx=>hs x (by simp[hx])),?_,rfl⟩
  exact trodAll_stays hl hb hr.2 (fun x hx=>hlt x (by simp[hx])) (fun x hx=>hs x (by simp[hx])) h2
 | [],[],_ :: _,_,_,_,_,h=>h.elim
 | [],_ :: _,_,_,_,_,_,h=>h.elim
 | _ :: _,[],_,_,_,_,_,h=>h.elim
 | _ :: _,_ :: _,[],_,_,_,_,h=>h.elim
def heapM(W:World):Mem:=fun b=>W.heap[b]?
theorem law_callsM{f:FuncId}{us:List Value}{w:World}(h:CallS P f (us.map .ext) [] (heapM w) [] fun v H' M'=>v=.ext (.bool true)) :
  Calls P f us.toArray w fun e w'=>e=.returned (.bool true)∧Below w.heap.size w w':=by
 refine (h (fun _=>none) w us ⟨fun k T cs b hk=>by simp[lkH]at hk,fun k T cs hk=>by simp[lkH]at hk,fun k k' b b' hk=>by simp[lkH]at hk,fun b o hx=>hx⟩ (isL_ext us)).mono fun e w' hall=>?_
 obtain ⟨r,v,H',M'',ρ',e1,rfl,hL⟩:=hall
 have hr:r=.bool true:=hL.is
 subst hr
 exact ⟨e1,⟨hL.os,hL.tape,hL.output,hL.size,fun i hi=>hL.block i hi fun j y hj=>by simp[lkH]at hj⟩⟩
theorem cell_heapM{W:World}{a:Addr}{v:Value}(h:W.cell? a=some v):a.spot=none∧cellM (heapM W) a.block a.off=some v:=by
 unfold World.cell? at h
 split at h
 ·rename_i c _ _ hc
  split at h
  ·cases h
  ·rename_i hs
   refine ⟨by simpa using hs,?_⟩
   unfold cellM heapM
   rw[hc]
   exact h
 ·cases h
variable {W:World}{base:Nat}{spare:Nat→Bool}{held:Bool}
theorem okSlice{t e:TypeId}{a:Addr}{len cap:Nat}{r:Reach}{b0:Nat}(ht:P.underlying t=some (.slice e))(hv:Value.okWide P W r b0 t (.slice (some a) len cap)):a.spot=none:=by
 simp only[Value.okWide,ht,Cell.okWide,Cell.ok]at hv
 exact hv.2.2.2.1
theorem open_row{t e:TypeId}{z:Nat}{v:Value}{d:DataW H}{ps:List MemPlace}{r:Reach}{b0:Nat}(ht:P.underlying t=some (.slice e))(hz:P.cellsOf e=z)(hv:Value.okWide P W r b0 t v)(h:DataW.Trod enc P W base spare held t v d ps) :
  ∃n cs,SlM (heapM W) z v n cs∧n≤maxLen∧∀i,i<n→∃fu x,DataW.trod enc P W base spare held fu e ((cs.drop (i*z)).take z)=some x:=by
 obtain ⟨fuel,hf⟩:=h
 have hone:v.cells.toList=[v]:=by
  obtain ⟨a,l,c,rfl⟩:=okWide_slice ht hv
  rfl
 rw[hone]at hf
 rcases Go.Deep.open_slice ht hf with ⟨h0,_⟩|⟨a,len,cap,m,n,D,Pl,hcs,hb,hl,hm,hmm,hx,hi⟩
 ·obtain rfl:v=.slice none 0 0:=by simpa using h0
  exact ⟨0,[],slM_nil _ _ _,Nat.zero_le _,fun i hi=>by omega⟩
 ·obtain rfl:v=.slice (some a) len cap:=by simpa using hcs
  have hsp:=okSlice ht hv
  have hlm:len≤m:=by rw[hmm];split<;>omega
  subst hz
  have key:∀i,i<len→∃cs',cs'.length=P.cellsOf e∧(∀j,j<P.cellsOf e→cellM (heapM W) a.block (a.off+i*P.cellsOf e+j)=cs'[j]?)∧∃fu x,DataW.trod enc P W base spare held fu e cs'=some x:=by
   intro i hil
   obtain ⟨cs',h1,h2⟩:=hi i (by omega)
   obtain ⟨_,h3,h4⟩:=World.cells?_some h1
   refine ⟨cs',h3,fun j hj=>?_,_,_,h2⟩
   have h5:=h4 j hj
   rw[List.getElem?_eq_getElem (by omega)]at h5 ⊢
   have h6:=(cell_heapM h5).2
   have hb1:∀(x:Addr) n,(x.add n).block=x.block:=fun x n=>by unfold Addr.add;split<;>rfl
   have hb2:∀(x:Addr) n,(x.add n).off=x.off+n:=fun x n=>by unfold Addr.add;split<;>simp_all
   rw[hb1,hb1,hb2,hb2]at h6
   exact h6
  let F:Nat→List Value:=fun i=>if h:i<len then (key i h).choose else []
  have hF:∀i (h:i<len),(F i).length=P.cellsOf e∧(∀j,j<P.cellsOf e→cellM (heapM W) a.block (a.off+i*P.cellsOf e+j)=(F i)[j]?)∧∃fu x,DataW.trod enc P W base spare held fu e (F i)=some x:=by
   intro i h
   have:=(key i h).choose_spec
   show (dite _ _ _:List Value).length=_∧_
   simp only[F,h,dite_true]
   exact this
  have hlen:∀k,k≤len→((List.range k).flatMap F).length=k*P.cellsOf e∧(∀j,j<k*P.cellsOf e→cellM (heapM W) a.block (a.off+j)=((List.range k).flatMap F)[j]?)∧∀i,i<k→(((List.range k).flatMap F).drop (i*P.cellsOf e)).take (P.cellsOf e)=F i:=by
   intro k
   induction k with
   | zero=>intro _;simp
   | succ k ih=>
    intro hk
    obtain ⟨a1,a2,a3⟩:=ih (by omega)
    obtain ⟨b1,b2,_⟩:=hF k (by omega)
    rw[List.range_succ,List.flatMap_append]
    simp only[List.flatMap_cons,List.flatMap_nil,List.append_nil]
    refine ⟨by rw[List.length_append,a1,b1,Nat.succ_mul],fun j hj=>?_,fun i hi=>?_⟩
    ·by_cases hjk:j<k*P.cellsOf e
     ·rw[List.getElem?_append_left (by omega)]
      exact a2 j hjk
     ·rw[List.getElem?_append_right (by omega),a1]
      have:=b2 (j-k*P.cellsOf e) (by rw[Nat.succ_mul]at hj;omega)
      rw[←this]
      congr 1
      omega
    ·by_cases hik:i<k
     ·rw[←a3 i hik]
      have h1:i*P.cellsOf e+P.cellsOf e≤k*P.cellsOf e:=by
       have:=Nat.mul_le_mul_right (P.cellsOf e) (show i+1≤k by omega)
       rw[Nat.succ_mul]at this
       exact this
      rw[List.drop_append_of_le_length (by omega),List.take_append_of_le_length (by rw[List.length_drop];omega)]
     ·obtain rfl:i=k:=by omega
      rw[List.drop_append_of_le_length (by omega),List.drop_eq_nil_of_le (by omega)]
      simp only[List.nil_append]
      exact List.take_of_length_le (by omega)
  obtain ⟨c1,c2,c3⟩:=hlen len (Nat.le_refl _)
  refine ⟨len,(List.range len).flatMap F,⟨rfl,rfl,hl,c1,?_⟩,by omega,fun i hi=>?_⟩
  ·obtain ⟨b,off,sp⟩:=a
   obtain rfl:sp=none:=hsp
   refine rowM_of c1 fun i v hv=>?_
   have hlt:i<((List.range len).flatMap F).length:=(List.getElem?_eq_some_iff.1 hv).1
   rw[←hv]
   exact c2 i (by omega)
  ·rw[c3 i hi]
   exact (hF i hi).2.2
theorem open_isL{t e:TypeId}{α:Type}{g:α→Value}{ok:α→Prop}{v:Value}{d:DataW H}{ps:List MemPlace}{r:Reach}{b0:Nat}(ht:P.underlying t=some (.slice e))(hz:P.cellsOf e=1)(hg:∀{fu c x},DataW.trod enc P W base spare held fu e [c]=some x→∃y,c=g y∧ok y)(hv:Value.okWide P W r b0 t v)(h:DataW.Trod enc P W base spare held t v d ps) :
  ∃l:List α,IsL (heapM W) g v l∧l.length≤maxLen∧∀x∈l,ok x:=by
 obtain ⟨n,cs,h1,h2,h3⟩:=open_row ht hz hv h
 have hl:cs.length=n:=by have:=h1.size;omega
 have:∀i,i<cs.length→∃y,cs[i]? = some (g y)∧ok y:=by
  intro i hi
  obtain ⟨fu,x,hx⟩:=h3 i (by omega)
  rw[Nat.mul_one,List.drop_eq_getElem_cons hi]at hx
  obtain ⟨y,h4,h5⟩:=hg hx
  exact ⟨y,by rw[List.getElem?_eq_getElem hi,h4],h5⟩
 have key:∀cs:List Value,(∀i,i<cs.length→∃y,cs[i]? = some (g y)∧ok y)→∃l:List α,cs=l.map g∧∀x∈l,ok x:=by
  intro cs
  induction cs with
  | nil=>intro _;exact ⟨[],rfl,by simp⟩
  | cons c cs ih=>
   intro hh
   obtain ⟨y,hy,hy2⟩:=hh 0 (by simp)
   obtain ⟨l,rfl,hl2⟩:=ih fun i hi=>hh (i+1) (by simp;omega)
   obtain rfl:c=g y:=by simpa using hy
   exact ⟨y :: l,rfl,by simpa using ⟨hy2,hl2⟩⟩
 obtain ⟨l,rfl,hl2⟩:=key cs this
 have hln:l.length=n:=by simpa using hl
 subst hln
 exact ⟨l,h1,h2,hl2⟩
def intVk(k:IntKind)(x:Int):Value:=.int k x
theorem open_sints{t e:TypeId}{k:IntKind}{v:Value}{d:DataW H}{ps:List MemPlace}{r:Reach}{b0:Nat}(ht:P.underlying t=some (.slice e))(he:P.underlying e=some (.int k))(hz:P.cellsOf e=1)(hv:Value.okWide P W r b0 t v)(h:DataW.Trod enc P W base spare held t v d ps) :
  ∃l:List Int,IsL (heapM W) (intVk k) v l∧l.length≤maxLen∧∀x∈l,(Lit.int k x).wf=true:=
 open_isL ht hz (fun {fu c x} hx=>by
  obtain ⟨n,h1,_,h2⟩:=DataW.trod_int he hx
  exact ⟨n,by simpa [intVk] using h1,h2⟩) hv h
theorem len2{cs:List Value}(h:cs.length=2):∃a0 a1,cs=[a0,a1]:=by
 match cs,h with
 | [a0,a1],_=>exact ⟨_,_,rfl⟩
end
end Go.Proofs.Ytjapnklocibgaaa.Sx
