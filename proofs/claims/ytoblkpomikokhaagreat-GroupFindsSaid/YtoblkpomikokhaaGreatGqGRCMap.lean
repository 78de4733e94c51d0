/- Part 21 of the texts of this claim: a symbolic executor and contracts of functions. -/
import Derived.Test.YtoblkpomikokhaaGreatGqGRCBor
import Derived.Maps.Keyed
import Derived.Maps.Own
namespace Go.Proofs.YtoblkpomikokhaaGreat.Sx
open Go Go.RowKit
set_option linter.unusedVariables false
set_option linter.unusedSimpArgs false
def MapIs(o:Obj)(ks:List Value):Prop:=∃es clock,o=.map es clock∧es.toList.map (·.key)=ks∧∀e∈es.toList,e.val=.bool true
def updM(M:Mem)(b:Nat)(o:Obj):Mem:=fun x=>if x=b then some o else M x
theorem updM_self(M:Mem)(b:Nat)(o:Obj):updM M b o b=some o:=by simp[updM]
theorem updM_ne{M:Mem}{b x:Nat}{o:Obj}(h:x≠b):updM M b o x=M x:=by simp[updM,h]
theorem MapIs.nil:MapIs (.map #[] 0) []:=⟨#[],0,rfl,rfl,by simp⟩
section
variable {P:Program}{c:Cx}{n:Nat}{s:St}{ρ:Rho}{a:Act}{w:World}{K:St→Prop}
theorem Gam.newM(h:Gam c n s ρ a w)(o:Obj):Gam c n {s with M:=updM s.M w.heap.size o,fr:=w.heap.size :: s.fr} ρ a (w.alloc o):=by
 have hold:∀i,i<w.heap.size→(w.alloc o).heap[i]? = w.heap[i]?:=fun i hi=>Below.heap_alloc w _ i hi
 have hnew:(w.alloc o).heap[w.heap.size]? = some o:=heap_alloc_new w _
 have hM:s.M w.heap.size=none:=by
  cases hm:s.M w.heap.size with
  | none=>rfl
  | some o'=>
   have:=h.sub _ _ hm
   rw[Array.getElem?_eq_none (Nat.le_refl _)]at this
   cases this
 refine {h with hp:=fun k T cs b hk hb=>?_,size:=by rw[World.size_alloc];exact Nat.le_succ_of_le h.size,block:=fun i hi hx=>?_,sub:=fun x o' hx=>?_,le:=fun x o' hx=>?_,mf:=fun b hb=>?_,fr:=fun b hb=>?_}
 ·obtain ⟨⟨arr,r⟩,h2,h3⟩:=h.hp k T cs b hk hb
  refine ⟨⟨arr,by rw[hold _ r.lt];exact r.there,r.size,r.le,r.is⟩,h2,?_⟩
  have:b.b≠w.heap.size:=Nat.ne_of_lt r.lt
  show updM s.M w.heap.size o b.b=none
  rw[updM_ne this];exact h3
 ·rw[hold i (Nat.lt_of_lt_of_le hi h.size)];exact h.block i hi hx
 ·have hx:updM s.M w.heap.size o x=some o':=hx
  by_cases e:x=w.heap.size
  ·subst e
   rw[updM_self]at hx
   rw[hnew];exact hx
  ·rw[updM_ne e]at hx
   have:=h.sub _ _ hx
   rw[hold x (Array.getElem?_eq_some_iff.1 this).1];exact this
 ·have h1:=h.le _ _ hx
  have e:x≠w.heap.size:=fun e=>by rw[e,hM]at h1;cases h1
  show updM s.M w.heap.size o x=some o'
  rw[updM_ne e];exact h1
 ·by_cases e:b=w.heap.size
  ·right;rw[e];exact h.size
  ·have hb:updM s.M w.heap.size o b≠none:=hb
   rw[updM_ne e]at hb
   exact h.mf b hb
 ·rcases List.mem_cons.1 hb with rfl|hb
  ·refine ⟨h.size,?_⟩
   cases hm:c.M0 w.heap.size with
   | none=>rfl
   | some o'=>have:=h.le _ _ hm;rw[hM]at this;cases this
  ·exact h.fr b hb
theorem Gam.chM(h:Gam c n s ρ a w){b:Nat}{o o':Obj}{w':World}(hb:b∈s.fr)(hM:s.M b=some o)(hs:Same b w w')(hn:w'.heap[b]? = some o'):Gam c n {s with M:=updM s.M b o'} ρ a w':=by
 obtain ⟨f1,f2⟩:=h.fr b hb
 refine {h with os:=hs.os.trans h.os,tape:=hs.tape.trans h.tape,output:=hs.output.trans h.output,hp:=fun k T cs x hk hx=>?_,size:=by rw[hs.size];exact h.size,block:=fun i hi hx=>?_,sub:=fun x y hx=>?_,le:=fun x y hx=>?_,mf:=fun x hx=>?_}
 ·obtain ⟨⟨arr,r⟩,h2,h3⟩:=h.hp k T cs x hk hx
  have hne:x.b≠b:=fun e=>by rw[e,hM]at h3;cases h3
  refine ⟨⟨arr,r.same hs hne⟩,h2,?_⟩
  show updM s.M b o' x.b=none
  rw[updM_ne hne];exact h3
 ·rw[hs.block i (by omega)];exact h.block i hi hx
 ·have hx:updM s.M b o' x=some y:=hx
  by_cases e:x=b
  ·subst e;rw[updM_self]at hx;rw[hn];exact hx
  ·rw[updM_ne e]at hx;rw[hs.block _ e];exact h.sub _ _ hx
 ·have e:x≠b:=fun e=>by rw[e,f2]at hx;cases hx
  show updM s.M b o' x=some y
  rw[updM_ne e];exact h.le _ _ hx
 ·by_cases e:x=b
  ·right;rw[e];exact f1
  ·have hx:updM s.M b o' x≠none:=hx
   rw[updM_ne e]at hx;exact h.mf x hx
theorem ask_makeMap{o:Oper}{t:TypeId}(hop:o.op=.makeMap t none)(hK:∀b ob,MapIs ob []→s.M b=none→K (({s with M:=updM s.M b ob,fr:=b :: s.fr}:St).put o.dst (.ext (.map (some b))))):AskK P o s K:=by
 intro c n a w Q hg hd
 obtain ⟨ρ,g⟩:=hg
 have hrun:(Instr.makeMap t none).run P w=.ok (.map (some w.heap.size)) (w.alloc (.map #[] 0)):=rfl
 unfold Oper.wp
 simp[execOp,hop,hrun,Result.andThen]
 have hM:s.M w.heap.size=none:=by
  cases hm:s.M w.heap.size with
  | none=>rfl
  | some o'=>
   have:=g.sub _ _ hm
   rw[Array.getElem?_eq_none (Nat.le_refl _)]at this
   cases this
 exact ⟨_,hK w.heap.size _ MapIs.nil hM,ρ,(g.newM _).put rfl hd⟩
end
end Go.Proofs.YtoblkpomikokhaaGreat.Sx
