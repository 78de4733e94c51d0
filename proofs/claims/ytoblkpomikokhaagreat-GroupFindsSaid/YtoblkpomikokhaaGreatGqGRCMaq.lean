/- Part 24 of the texts of this claim: a symbolic executor and contracts of functions. -/
import Derived.Test.YtoblkpomikokhaaGreatGqGRCMap
namespace Go.Proofs.YtoblkpomikokhaaGreat.Sx
open Go Go.RowKit
set_option linter.unusedVariables false
set_option linter.unusedSimpArgs false
def MapV(o:Obj)(ks:List (Value×Value)):Prop:=∃es clock,o=.map es clock∧es.toList.map (fun e=>(e.key,e.val))=ks
theorem MapIs.v0{o:Obj}(h:MapIs o []):MapV o []:=by
 obtain ⟨es,clock,rfl,h1,_⟩:=h
 refine ⟨es,clock,rfl,?_⟩
 have:es.toList=[]:=List.map_eq_nil_iff.1 h1
 rw[this];rfl
section
variable {P:Program}{c:Cx}{n:Nat}{s:St}{ρ:Rho}{a:Act}{w:World}{K:St→Prop}
theorem ask_lookupV{o:Oper}{t kt et:TypeId}{m x:Operand}{b:Nat}{ob:Obj}{ks:List (Value×Value)}{key zv:Value}{l:Lit}{co:Bool}(hop:o.op=.lookup t m x co)(KK:Maps.Keyed P kt)(ht:P.underlying t=some (.map kt et))(hz:∀w,(zeroValue et).run P w=.ok zv w)
  (hm:ev s m=.ext (.map (some b))) (hx:ev s x=.ext key) (hM:s.M b=some ob) (hI:MapV ob ks) (hks:∀p∈ks,∃l,keyOf P kt p.1=some l) (hkey:keyOf P kt key=some l)
  (hK1:∀v,(key,v)∈ks→K (s.put o.dst (.ext (if co then .tuple #[v,.bool true] else v)))) (hK2:(∀p∈ks,p.1≠key)→K (s.put o.dst (.ext (if co then .tuple #[zv,.bool false] else zv)))):AskK P o s K:=by
 intro c n a w Q hg hd
 obtain ⟨ρ,g⟩:=hg
 have em:a.eval m=.map (some b):=by have:=g.ev m;rw[hm]at this;exact this
 have ex:a.eval x=key:=by have:=g.ev x;rw[hx]at this;exact this
 obtain ⟨es,clock,rfl,h1⟩:=hI
 have hb:=g.sub _ _ hM
 have hkeys:∀e∈es.toList,∃l,keyOf P kt e.key=some l:=fun e he=>hks (e.key,e.val) (by rw[←h1];exact List.mem_map.2 ⟨e,he,rfl⟩)
 unfold Oper.wp
 rcases KK.find w hkey es.toList hkeys with ⟨f1,f2⟩|⟨j,e0,f1,f2,f3⟩
 ·have hrun:(Instr.lookup t (.map (some b)) key co).run P w=.ok (if co then .tuple #[zv,.bool false] else zv) w:=by
   simp[Instr.lookup,run_underlying ht,MapKept.run_getObj_map hb,KK.check w _ hkey,f1,hz,Result.andThen]
  simp[execOp,hop,em,ex,hrun,Result.andThen]
  refine ⟨_,hK2 (fun p hp=>?_),ρ,g.put rfl hd⟩
  rw[←h1]at hp
  obtain ⟨e,he,rfl⟩:=List.mem_map.1 hp
  exact f2 e he
 ·have hm0:e0∈es.toList:=List.mem_of_getElem? f2
  have hrun:(Instr.lookup t (.map (some b)) key co).run P w=.ok (if co then .tuple #[e0.val,.bool true] else e0.val) w:=by
   simp[Instr.lookup,run_underlying ht,MapKept.run_getObj_map hb,KK.check w _ hkey,f1,Result.andThen]
  simp[execOp,hop,em,ex,hrun,Result.andThen]
  refine ⟨_,hK1 e0.val ?_,ρ,g.put rfl hd⟩
  rw[←h1,←f3]
  exact List.mem_map.2 ⟨e0,hm0,rfl⟩
theorem ask_updateV{o:Oper}{t kt et:TypeId}{m x y:Operand}{b:Nat}{ob:Obj}{ks:List (Value×Value)}{key v:Value}{l:Lit}(hop:o.op=.mapUpdate t m x y)(KK:Maps.Keyed P kt)(ht:P.underlying t=some (.map kt et))
  (hm:ev s m=.ext (.map (some b))) (hx:ev s x=.ext key) (hy:ev s y=.ext v) (hfr:b∈s.fr) (hM:s.M b=some ob) (hI:MapV ob ks) (hks:∀p∈ks,∃l,keyOf P kt p.1=some l) (hkey:keyOf P kt key=some l) (hnew:∀p∈ks,p.1≠key)
  (hK:∀ob',MapV ob' (ks++[(key,v)])→K (({s with M:=updM s.M b ob'}:St).put o.dst .unk)):AskK P o s K:=by
 intro c n a w Q hg hd
 obtain ⟨ρ,g⟩:=hg
 have em:a.eval m=.map (some b):=by have:=g.ev m;rw[hm]at this;exact this
 have ex:a.eval x=key:=by have:=g.ev x;rw[hx]at this;exact this
 have ey:a.eval y=v:=by have:=g.ev y;rw[hy]at this;exact this
 obtain ⟨es,clock,rfl,h1⟩:=hI
 have hb:=g.sub _ _ hM
 have hkeys:∀e∈es.toList,∃l,keyOf P kt e.key=some l:=fun e he=>hks (e.key,e.val) (by rw[←h1];exact List.mem_map.2 ⟨e,he,rfl⟩)
 unfold Oper.wp
 rcases KK.find w hkey es.toList hkeys with ⟨f1,f2⟩|⟨j,e0,f1,f2,f3⟩
 ·have hrun:(Instr.mapUpdate t (.map (some b)) key v).run P w=.ok () (ChangeMaps.setBlock w b (.map (es.push ⟨key,v,clock⟩) (clock+1))):=by
   simp[Instr.mapUpdate,run_underlying ht,MapKept.run_getObj_map hb,KK.check w false hkey,f1,MapKept.run_setObj_map _ hb,Result.andThen,ChangeMaps.setBlock]
  simp[execOp,hop,em,ex,ey,hrun,Result.andThen]
  have hlt:b<w.heap.size:=(Array.getElem?_eq_some_iff.1 hb).1
  refine ⟨_,hK (.map (es.push ⟨key,v,clock⟩) (clock+1)) ⟨_,_,rfl,?_⟩,ρ,(g.chM hfr hM (w':=ChangeMaps.setBlock w b (.map (es.push ⟨key,v,clock⟩) (clock+1))) ⟨rfl,rfl,rfl,by simp[ChangeMaps.setBlock],fun i hi=>by simp[ChangeMaps.setBlock,Array.getElem?_setIfInBounds,Ne.symm hi]⟩ (by simp[ChangeMaps.setBlock,Array.getElem?_setIfInBounds,hlt])).put trivial hd⟩
  simp[h1]
 ·exact absurd f3 (hnew (e0.key,e0.val) (by rw[←h1];exact List.mem_map.2 ⟨e0,List.mem_of_getElem? f2,rfl⟩))
end
end Go.Proofs.YtoblkpomikokhaaGreat.Sx
