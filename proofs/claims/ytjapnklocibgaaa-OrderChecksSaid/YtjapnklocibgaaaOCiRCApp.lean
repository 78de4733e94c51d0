/- Part 6 of the texts of this claim: a symbolic executor and contracts of functions. -/
import Derived.Test.YtjapnklocibgaaaOCiRCOps
namespace Go.Proofs.Ytjapnklocibgaaa.Sx
open Go Go.RowKit
set_option linter.unusedVariables false
set_option linter.unusedSimpArgs false
section
variable {P:Program}{c:Cx}{n:Nat}{s:St}{ρ:Rho}{a:Act}{w:World}
theorem Gam.ins(h:Gam c n s ρ a w){k d:Nat}{e:TypeId}{cs':List AV}{v:AV}{u:Value}{env2:Env}{hp2:Hp}{bo:Option Blk}{w':World}
  (he:∀t u,(lk s.env t).is ρ u→(lk env2 t).is (upd ρ k bo) u)
  (hh:∀j T cs,j≠k→lkH hp2 j=some (T,cs)→∃cs0,lkH s.hp j=some (T,cs0)∧cs.length=cs0.length∧∀(i:Nat) (v:AV),cs[i]? = some v→∃v0,cs0[i]? = some v0∧∀u,v0.is ρ u→v.is (upd ρ k bo) u)
  (hkeep:∀j,j≠k→(lkH s.hp j).isSome=true→(lkH hp2 j).isSome=true)
  (hfx:k∉s.fx) (hd:d<n) (hos:w'.os=w.os) (htape:w'.tape=w.tape) (hout:w'.output=w.output) (hsize:w.heap.size≤w'.heap.size)
  (hblk:∀i,i<w.heap.size→(∀b,(lkH s.hp k).isSome=true→ρ k=some b→i≠b.b)→w'.heap[i]? = w.heap[i]?)
  (hb:∀b',bo=some b'→(∃arr',Row (upd ρ k bo) w' e cs' b' arr')∧(w.heap.size≤b'.b∨∃b,(lkH s.hp k).isSome=true∧ρ k=some b∧b'.b=b.b))
  (hno:bo=none→cs'=[]) (hv:v.is (upd ρ k bo) u) :
  Gam c n {env:=(d,v) :: env2,hp:=(k,e,cs') :: hp2,M:=s.M,kb:=s.kb,fx:=s.fx,fr:=s.fr} (upd ρ k bo) (a.put (some d) u) w':=by
 have hd':d<a.tmps.size:=by rw[h.sz];exact hd
 have hlk:∀j x,lkH ((k,e,cs') :: hp2) j=some x→(j=k∧x=(e,cs'))∨(j≠k∧lkH hp2 j=some x):=fun j x hj=>by
  by_cases e:k=j
  ·subst e;simp[lkH]at hj;exact .inl ⟨rfl,hj.symm⟩
  ·simp[lkH,e]at hj;exact .inr ⟨fun e2=>e e2.symm,hj⟩
 have hold:∀j x b,j≠k→lkH hp2 j=some x→upd ρ k bo j=some b→(lkH s.hp j).isSome=true∧ρ j=some b∧b.b<w.heap.size∧w'.heap[b.b]? = w.heap[b.b]?:=fun j x b hj hx hbj=>by
  obtain ⟨cs0,h1,_⟩:=hh j x.1 x.2 hj hx
  rw[upd_ne _ _ hj]at hbj
  have hlt:=h.lt h1 hbj
  refine ⟨by rw[h1];rfl,hbj,hlt,hblk _ hlt fun b0 hk hb0 e=>?_⟩
  exact hj (h.inj j k b b0 (by rw[h1];rfl) hk hbj hb0 e)
 have hapart:∀j x b b',j≠k→lkH hp2 j=some x→upd ρ k bo j=some b→upd ρ k bo k=some b'→b.b=b'.b→False:=fun j x b b' hj hx hbj hbk e=>by
  obtain ⟨h1,h2,h3,_⟩:=hold j x b hj hx hbj
  rw[upd_self]at hbk
  rcases (hb b' hbk).2 with h4|⟨b0,h5,h6,h7⟩
  ·omega
  ·exact hj (h.inj j k b b0 h1 h5 h2 h6 (by rw[e,h7]))
 refine {df:=h.df,sz:=?_,env:=fun t=>?_,hp:=fun j T' ds b hj hbj=>?_,no:=fun j T' ds hj hbj=>?_,inj:=fun j j' b b' hj hj' hbj hbj' e=>?_,os:=hos.trans h.os,tape:=htape.trans h.tape,output:=hout.trans h.output,size:=Nat.le_trans h.size hsize,block:=fun i hi hx=>?_,sub:=fun x o hx=>?_,le:=h.le,mf:=h.mf,fix:=fun j hj=>?_,fx:=fun j hj=>?_,kl:=h.kl,fr:=h.fr}
 ·show (a.tmps.setIfInBounds d u).size=n
  rw[Array.size_setIfInBounds];exact h.sz
 ·rw[getD_put hd']
  by_cases e:d=t
  ·subst e;simpa [lk] using hv
  ·simp only[lk,e,if_false];exact he t _ (h.env t)
 ·rcases hlk j _ hj with ⟨rfl,hx⟩|⟨hne,hx⟩
  ·simp only[Prod.mk.injEq]at hx
   obtain ⟨rfl,rfl⟩:=hx
   rw[upd_self]at hbj
   obtain ⟨h1,h2⟩:=hb b hbj
   refine ⟨h1,?_,?_⟩
   ·rcases h2 with h2|⟨b0,h3,h4,h5⟩
    ·exact .inl (Nat.le_trans h.size h2)
    ·obtain ⟨x,hx⟩:=Option.isSome_iff_exists.1 h3
     rw[h5];exact (h.hp _ x.1 x.2 b0 hx h4).2.1
   ·rcases h2 with h2|⟨b0,h3,h4,h5⟩
    ·cases hm:s.M b.b with
     | none=>rfl
     | some o=>
      have:=h.sub _ _ hm
      rw[Array.getElem?_eq_none h2]at this
      cases this
    ·obtain ⟨x,hx⟩:=Option.isSome_iff_exists.1 h3
     rw[h5];exact (h.hp _ x.1 x.2 b0 hx h4).2.2
  ·obtain ⟨cs0,g1,g2,g3⟩:=hh j T' ds hne hx
   obtain ⟨g4,g5,g6,g7⟩:=hold j _ b hne hx hbj
   obtain ⟨⟨arr2,f1⟩,f5⟩:=h.hp j T' cs0 b g1 g5
   refine ⟨⟨arr2,by rw[g7];exact f1.there,f1.size,by rw[g2];exact f1.le,fun i v hv=>?_⟩,f5⟩
   obtain ⟨v0,e1,e2⟩:=g3 i v hv
   exact e2 _ (f1.is i v0 e1)
 ·rcases hlk j _ hj with ⟨rfl,hx⟩|⟨hne,hx⟩
  ·simp only[Prod.mk.injEq]at hx
   obtain ⟨rfl,rfl⟩:=hx
   rw[upd_self]at hbj
   exact hno hbj
  ·obtain ⟨cs0,g1,g2,g3⟩:=hh j T' ds hne hx
   rw[upd_ne _ _ hne]at hbj
   have:=h.no j T' cs0 g1 hbj
   subst this
   exact List.eq_nil_of_length_eq_zero (by simpa using g2)
 ·obtain ⟨x,hx⟩:=Option.isSome_iff_exists.1 hj
  obtain ⟨x',hx'⟩:=Option.isSome_iff_exists.1 hj'
  rcases hlk j x hx with ⟨rfl,_⟩|⟨hne,hx1⟩
  ·rcases hlk j' x' hx' with ⟨rfl,_⟩|⟨hne',hx2⟩
   ·rfl
   ·exact (hapart j' x' b' b hne' hx2 hbj' hbj e.symm).elim
  ·rcases hlk j' x' hx' with ⟨rfl,_⟩|⟨hne',hx2⟩
   ·exact (hapart j x b b' hne hx1 hbj hbj' e).elim
   ·obtain ⟨g4,g5,_⟩:=hold j x b hne hx1 hbj
    obtain ⟨g4',g5',_⟩:=hold j' x' b' hne' hx2 hbj'
    exact h.inj j j' b b' g4 g4' g5 g5' e
 ·rw[hblk i (Nat.lt_of_lt_of_le hi h.size) fun b hk hbk e=>?_];exact h.block i hi hx
  obtain ⟨y,hy⟩:=Option.isSome_iff_exists.1 hk
  rcases (h.hp k y.1 y.2 b hy hbk).2.1 with h5|h5
  ·omega
  ·rw[←e]at h5;exact hx h5
 ·have hx':=h.sub x o hx
  rw[hblk x (Array.getElem?_eq_some_iff.1 hx').1 fun b hk hbk e=>?_];exact hx'
  obtain ⟨y,hy⟩:=Option.isSome_iff_exists.1 hk
  have h5:=(h.hp k y.1 y.2 b hy hbk).2.2
  have hx:s.M x=some o:=hx
  rw[e,h5]at hx;cases hx
 ·simp only[lkH]
  split
  ·rfl
  ·rename_i e;exact hkeep j (fun e2=>e e2.symm) (h.fix j hj)
 ·rw[upd_ne _ _ fun e=>hfx (by rw[←e];exact hj)];exact h.fx j hj
theorem is_kill_upd{k:Nat}{bo:Option Blk}{v:AV}{u:Value}(h:v.is ρ u):(v.kill k).is (upd ρ k bo) u:=is_upd (fun hm=>(kill_ment hm).1 rfl) (kill_is h)
theorem src_nil{z:Nat}{t e':TypeId}(hk:P.underlying t=some (.slice e'))(A:Option Addr):Src P z t (.slice A 0 0) 0 [] w:=by
 cases A with
 | none=>exact Src.ofNil w hk 0
 | some b=>exact Src.ofSlice w hk b 0 0 [] (by simp) (fun j u h=>by simp at h) (fun u h=>by cases h)
theorem isSliceT_ok{T:TypeId}(h:isSliceT P T=true):∃e,P.underlying T=some (.slice e):=by
 unfold isSliceT at h;split at h
 ·exact ⟨_,by assumption⟩
 ·cases h
theorem srcA_ok(h:Gam c n s ρ a w){z m:Nat}{t:TypeId}{vy:AV}{uy:Value}{ob:Prop}{new:List AV}(hev:vy.is ρ uy)(hs:srcA P s z t vy=some (ob,m,new))(ho:ob)(h1:allOne new) :
  ∃news,Src P z t uy m news w∧isL ρ new news:=by
 unfold srcA at hs
 split at hs
 ·rename_i k off q z'
  split at hs
  ·rename_i T cs hk
   simp only[Option.some.injEq,Prod.mk.injEq]at hs
   obtain ⟨rfl,rfl,rfl⟩:=hs
   obtain ⟨ho1,rfl,ho3⟩:=ho
   obtain ⟨e',he'⟩:=isSliceT_ok ho1
   rcases hev with ⟨b,cap,hb,e2,e3,e4⟩|⟨rfl,A,hA,e2⟩
   ·obtain ⟨⟨arr,hr⟩,_⟩:=h.hp k T cs b hk hb
    have hp:=hr.part ho3
    refine ⟨_,?_,hp⟩
    rw[e2]
    have hl:=isL_length hp
    have h5:=hr.le
    refine Src.ofSlice w he' _ _ _ _ (by rw[hl];simp;omega) (fun j u hj=>?_) (allOne_ok h1 hp)
    have hjl:j<q*z':=by have:=(List.getElem?_eq_some_iff.1 hj).1;simp at this;omega
    rw[List.getElem?_take_of_lt hjl,List.getElem?_drop]at hj
    rw[addr_add,cell_of hr.there]
    simpa using hj
   ·rw[e2]
    exact ⟨[],src_nil he' A,by simp[isL]⟩
  ·cases hs
 ·rename_i v
  have hev:uy=v:=hev
  rw[hev]
  split at hs
  ·rename_i hst
   obtain ⟨x,rfl⟩:∃x,v=.string x:=by cases v<;>first|exact ⟨_,rfl⟩|cases hs
   ·simp only[Option.some.injEq,Prod.mk.injEq]at hs
    obtain ⟨rfl,rfl,rfl⟩:=hs
    subst ho
    unfold isStrT at hst
    split at hst
    ·rename_i hT
     refine ⟨_,Src.ofString w hT x,?_⟩
     have:=isL_ext (ρ:=ρ) (byteCells x)
     simpa [byteCells,Function.comp_def] using this
    ·cases hst
  ·split at hs
   ·rename_i l hl
    simp only[Option.some.injEq,Prod.mk.injEq]at hs
    obtain ⟨rfl,rfl,rfl⟩:=hs
    obtain ⟨e',he'⟩:=isSliceT_ok ho
    refine ⟨l,?_,isL_ext l⟩
    unfold rowS at hl
    split at hl
    ·cases hl;exact Src.ofNil w he' _
    ·obtain ⟨g1,g2⟩:=rowM_ok h.sub hl
     refine Src.ofSlice w he' _ _ _ _ g1 (fun j u hj=>by rw[addr_add];exact g2 j u hj) ?_
     exact allOne_ok h1 (isL_ext (ρ:=ρ) l)
    ·cases hl
     exact Src.ofSlice w he' _ _ _ [] (by simp[slen]) (fun j u h=>by simp at h) (fun u h=>by cases h)
    ·cases hl
   ·cases hs
 ·cases hs
theorem row_drew{T:TypeId}{cs:List AV}{b:Blk}{arr:Array Value}(h:Row ρ w T cs b arr)(j:Nat)(u:Value)(hj:(arr.toList.take (cs.length))[j]? = some u):w.drew.cell? ⟨b.b,j,none⟩=some u:=by
 have hl:j<cs.length:=by have:=(List.getElem?_eq_some_iff.1 hj).1;simp at this;omega
 rw[List.getElem?_take_of_lt hl]at hj
 rw[World.cell?_drew,cell_of h.there]
 simpa using hj
theorem append_new{t tx ty e:TypeId}{it:TypeInfo}{zv:Value}(ht:P.underlying t=some (.slice e))(hi:P.info? e=some it)(hz:it.zero=some zv){base:Option Addr}{q cap m:Nat}{olds news:List Value}{x:Value}
  (hold:(Builtin.firstCells it.size q (.slice base q cap)).run P w.drew=.ok olds.toArray w.drew) (hs:Src P it.size tx x m news w) (hg:cap<q+m) (hby:(q+m)*it.bytes≤140737488355328) (hmax:q+m≤maxLen) (hlen:olds.length=q*it.size) (hzz:zv.cells.size=it.size) :
  ∃cap' zs,(Builtin.append_ #[t,tx] ty #[.slice base q cap,x]).run P w=.ok (.slice (some ⟨w.heap.size,0,none⟩) (q+m) cap') (w.drew.alloc (.cells ((olds++news).toArray++zs) e))∧q+m≤cap'∧cap'*it.size≤((olds++news).toArray++zs).size:=by
 have hr:=run_append_grow_src (P:=P) w t tx ty e it zv ht hi hz base q cap olds hold x m news hs hg (by simp only[maxLen]at hmax;omega) (growslice_fits hg hby)
 have hge:=grownCap_ge w (q+m) cap e
 refine ⟨_,_,hr,hge,?_⟩
 have hn:=hs.newsLen
 simp only[Array.size_append,List.size_toArray,List.length_append,size_zeroCells,hlen,hn,hzz,←Nat.add_mul]
 exact Nat.mul_le_mul_right _ (by omega)
theorem appR_ok(h:Gam c n s ρ a w){ts:List TypeId}{vx0 vy0:AV}{ux uy:Value}{d:Option Nat}{K:St→Prop}{ty:TypeId}(hx0:vx0.is ρ ux)(hy0:vy0.is ρ uy)(hK:appR P s ts [vx0,vy0] d K)(hd:dOK n d) :
  ∃u w' s' ρ',(Builtin.append_ ts.toArray ty #[ux,uy]).run P w=.ok u w'∧K s'∧Gam c n s' ρ' (a.put d u) w':=by
 unfold appR at hK
 split at hK
 case h_2=>exact hK.elim
 rename_i t t' vx vy hargs
 simp only[List.cons.injEq,and_true]at hargs
 obtain ⟨hx,hy⟩:=hargs
 subst hy
 split at hK
 case h_2=>exact hK.elim
 rename_i e he
 split at hK
 case h_2=>exact hK.elim
 rename_i z by_ zs hz hby hzc
 split at hK
 case h_2=>exact hK.elim
 rename_i _ ob m new d hsrc
 have hT:=slcT_ok he
 unfold szO at hz
 unfold byO at hby
 unfold zeroC at hzc
 simp only[Option.map_eq_some_iff]at hz hby
 simp only[Option.map_eq_some_iff,Option.bind_eq_some_iff]at hzc
 obtain ⟨it,hit,rfl⟩:=hz
 obtain ⟨it2,hit2,rfl⟩:=hby
 obtain ⟨zv,⟨it3,hit3,hzv⟩,rfl⟩:=hzc
 rw[hit]at hit2 hit3
 injection hit2 with hit2
 injection hit3 with hit3
 subst hit2 hit3
 have hev:=hx0
 rw[hx]at hev
 split at hK
 ·-- an own slice
  rename_i k q z'
  split at hK
  case h_2=>exact hK.elim
  rename_i T cs hk
  obtain ⟨⟨rfl,hfx,rfl,hcp,hpos,ho,ha,hkn,hbytes,hmax,hkc0,hzz⟩,hK⟩:=hK
  obtain ⟨hcut,hcle⟩:=cut_take hcp
  obtain ⟨cs2,hcs2⟩:∃c,c=cs.take (q*it.size):=⟨_,rfl⟩
  rw[hcut,←hcs2]at hK
  have hcl:cs2.length=q*it.size:=by rw[hcs2,List.length_take];omega
  have hkc:hasK k (mentL cs2)=false:=hasK_no.2 fun hm=>hasK_no.1 hkc0 (mentL_take (hcs2▸hm))
  have hrow2:∀{b arr},Row ρ w T cs b arr→Row ρ w T cs2 b arr:=fun {b arr} hr=>⟨hr.there,hr.size,by have:=hr.le;omega,fun i v hv=>hr.is i v (by
   rw[hcs2]at hv
   have hi:i<q*it.size:=by have:=(List.getElem?_eq_some_iff.1 hv).1;rw[List.length_take]at this;omega
   rwa[List.getElem?_take_of_lt hi]at hv)⟩
  obtain ⟨news,hs,hnews⟩:=srcA_ok h hy0 hsrc ho ha
  have hnl:=isL_length hnews
  have hnl2:=hs.newsLen
  have hkc':=hasK_no.1 hkc
  have hkn':=hasK_no.1 hkn
  have henv:∀bo t u,(lk s.env t).is ρ u→(lk (killE k s.env) t).is (upd ρ k bo) u:=fun bo t u hu=>by rw[lk_killE];exact is_kill_upd hu
  have hhp:∀bo j T cs,j≠k→lkH (killH k s.hp) j=some (T,cs)→∃cs0,lkH s.hp j=some (T,cs0)∧cs.length=cs0.length∧∀(i:Nat) (v:AV),cs[i]? = some v→∃v0,cs0[i]? = some v0∧∀u,v0.is ρ u→v.is (upd ρ k bo) u:=fun bo j T cs hj hl=>by
   rw[lkH_killH,if_neg hj]at hl
   simp only[Option.map_eq_some_iff,Prod.mk.injEq]at hl
   obtain ⟨⟨T1,cs1⟩,h1,rfl,rfl⟩:=hl
   refine ⟨cs1,h1,killL_length _ _,fun i v hv=>?_⟩
   rw[killL_get]at hv
   simp only[Option.map_eq_some_iff]at hv
   obtain ⟨v0,hv0,rfl⟩:=hv
   exact ⟨v0,hv0,fun u hu=>is_kill_upd hu⟩
  have hkeep:∀j,j≠k→(lkH s.hp j).isSome=true→(lkH (killH k s.hp) j).isSome=true:=fun j hj hl=>by rw[lkH_killH,if_neg hj,Option.isSome_map];exact hl
  have grow:∀(base:Option Addr) (cap:Nat) (olds:List Value),ux=.slice base q cap→(Builtin.firstCells it.size q (.slice base q cap)).run P w.drew=.ok olds.toArray w.drew→olds.length=q*it.size→isL ρ cs2 olds→cap<q+m→
    ∃u w' s' ρ',(Builtin.append_ [t,t'].toArray ty #[ux,uy]).run P w=.ok u w'∧K s'∧Gam c n s' ρ' (a.put (some d) u) w':=fun base cap olds hx2 hold hol hos hg=>by
   obtain ⟨cap',zs,hr,hc1,hc2⟩:=append_new (P:=P) (ty:=ty) hT hit hzv hold hs hg hbytes hmax hol (by simpa using hzz)
   refine ⟨_,_,_,upd ρ k (some ⟨w.heap.size,((olds++news).toArray++zs).size⟩),by rw[hx2];exact hr,hK,?_⟩
   refine h.ins (henv _) (hhp _) hkeep (hasK_no.1 hfx) hd rfl rfl rfl ?_ ?_ ?_ (fun e=>by cases e) ?_
   ·rw[World.size_alloc];exact Nat.le_succ _
   ·exact fun i hi _=>Below.heap_alloc w.drew _ i hi
   ·intro b' hb'
    injection hb' with hb'
    subst hb'
    refine ⟨⟨_,heap_alloc_new w.drew _,rfl,?_,fun i v hv=>?_⟩,.inl (Nat.le_refl _)⟩
    ·simp only[List.length_append,Array.size_append,List.size_toArray,hol,hcl,hnl];omega
    ·have hall:isL (upd ρ k (some ⟨w.heap.size,((olds++news).toArray++zs).size⟩)) (cs2++new) (olds++news):=isL_upd (by rw[mentL_append,List.mem_append,not_or];exact ⟨hkc',hkn'⟩) (isL_append hos hnews)
     obtain ⟨h5,h6⟩:=isL_get? hall hv
     have hi:i<(olds++news).length:=(List.getElem?_eq_some_iff.1 h5).1
     have h7:(((olds++news).toArray++zs).getD i undef)=(olds++news).getD i undef:=by
      have h8:i<((olds++news).toArray++zs).size:=by simp only[Array.size_append,List.size_toArray];omega
      rw[Array.getD_eq_getD_getElem?,Array.getElem?_append_left (by simpa using hi),List.getElem?_toArray,List.getD_eq_getElem?_getD]
     rw[h7];exact h6
   ·exact .inl ⟨_,cap',upd_self _ _ _,rfl,hc1,by simpa using hc2⟩
  rcases hev with ⟨b,cap,hb,e2,e3,e4⟩|⟨rfl,A,hA,e2⟩
  ·obtain ⟨⟨arr,hrow0⟩,_⟩:=h.hp k T cs b hk hb
   have hrow:=hrow2 hrow0
   have hle:=hrow.le
   have hsz:=hrow.size
   by_cases hroom:q+m≤cap
   ·have hfit:(q+m)*it.size≤b.n:=by
     have:=Nat.mul_le_mul_right it.size hroom
     omega
    rw[Nat.add_mul]at hfit
    have hr:=run_append_room_src (P:=P) w t t' ty T it hT hit b.b 0 q cap (uy) m news hs hroom
     (fun j hj => by rw [cell_of hrow.there]; have : 0 + q * it.size + j < arr.size := by omega
                     rw[Array.getElem?_eq_getElem this];rfl)
     (fun j hj=>by simp[World.frozen?,hrow.there])
    have hsame:=same_setCells b.b news (0+q*it.size) w
    have hwr:=heap_setCells (b:=b.b) news (0+q*it.size) w arr hrow.there
    have hag:∀{v:AV} {u:Value},v.is ρ u→v.is (upd ρ k (some b)) u:=fun hv=>is_agree (fun j _=>by
     by_cases e:j=k
     ·subst e;rw[upd_self];exact hb
     ·rw[upd_ne _ _ e]) hv
    refine ⟨_,_,_,upd ρ k (some b),by rw[e2];exact hr,hK,?_⟩
    refine h.ins (henv _) (hhp _) hkeep (hasK_no.1 hfx) hd hsame.os hsame.tape hsame.output (by rw[hsame.size];exact Nat.le_refl _) ?_ ?_ (fun e=>by cases e) ?_
    ·exact fun i hi hne=>hsame.block i (hne b (by rw[hk];rfl) hb)
    ·intro b' hb'
     injection hb' with hb'
     subst hb'
     refine ⟨⟨_,hwr,by rw[wr_size];exact hsz,by rw[List.length_append];omega,fun i v hv=>?_⟩,.inr ⟨b,by rw[hk];rfl,hb,rfl⟩⟩
     rw[wr_getD _ _ _ _ (by omega)]
     by_cases hi:i<cs2.length
     ·rw[if_neg (by omega)]
      rw[List.getElem?_append_left hi]at hv
      exact hag (hrow.is i v hv)
     ·rw[List.getElem?_append_right (by omega)]at hv
      have hi2:i-cs2.length<new.length:=(List.getElem?_eq_some_iff.1 hv).1
      rw[if_pos (by omega)]
      have:=isL_get hnews _ _ hv
      rw[show i-(0+q*it.size)=i-cs2.length by omega]
      exact hag this
    ·exact .inl ⟨b,cap,upd_self _ _ _,rfl,hroom,e4⟩
   ·have hlen:(arr.toList.take (cs2.length)).length=q*it.size:=by simp;omega
    refine grow (some ⟨b.b,0,none⟩) cap (arr.toList.take cs2.length) e2 (run_firstCells_some w.drew it.size q _ q cap _ hlen fun j u hj=>?_) hlen ?_ (by omega)
    ·rw[addr_add,Nat.zero_add];exact row_drew hrow j u hj
    ·have:=hrow.part (off:=0) (m:=cs2.length) (by omega)
     simpa using this
  ·have hcs:cs2=[]:=List.eq_nil_of_length_eq_zero (by simpa using hcl)
   by_cases hm:m=0
   ·have hn0:news=[]:=List.eq_nil_of_length_eq_zero (by rw[hnl2,hm];simp)
    have hnw:new=[]:=List.eq_nil_of_length_eq_zero (by rw[←hnl,hn0];rfl)
    subst hm hn0
    have hr:=run_append_nothing (P:=P) w t t' ty T it hT hit A 0 0 (Nat.le_refl _) (uy) hs
    refine ⟨_,_,_,upd ρ k none,by rw[e2];exact hr,hK,?_⟩
    refine h.ins (henv _) (hhp _) hkeep (hasK_no.1 hfx) hd rfl rfl rfl (Nat.le_refl _) (fun _ _ _=>rfl) (fun b' e=>by cases e) (fun _=>by rw[hcs,hnw];rfl) ?_
    exact .inr ⟨rfl,A,hA,rfl⟩
   ·refine grow A 0 [] e2 ?_ (by simp) (by rw[hcs];simp[isL]) (by omega)
    cases A with
    | none=>simp[Builtin.firstCells]
    | some b=>exact run_firstCells_some w.drew it.size 0 b 0 0 [] (by simp) (fun j u h=>by simp at h)
 ·-- nil
  obtain ⟨⟨hpos,ho,ha,hbytes,hmax,haw,hkn,hzz⟩,hK⟩:=hK
  obtain ⟨news,hs,hnews⟩:=srcA_ok h hy0 hsrc ho ha
  have hnl:=isL_length hnews
  have hnl2:=hs.newsLen
  have hkn':=hasK_no.1 hkn
  have hev:ux=.slice none 0 0:=hev
  have henv:∀bo t u,(lk s.env t).is ρ u→(lk s.env t).is (upd ρ (s.kb+d) bo) u:=fun bo t u hu=>is_upd (awayP_env haw t) hu
  have hhp:∀bo j T cs,j≠s.kb+d→lkH s.hp j=some (T,cs)→∃cs0,lkH s.hp j=some (T,cs0)∧cs.length=cs0.length∧∀(i:Nat) (v:AV),cs[i]? = some v→∃v0,cs0[i]? = some v0∧∀u,v0.is ρ u→v.is (upd ρ (s.kb+d) bo) u:=fun bo j T cs hj hl=>
   ⟨cs,hl,rfl,fun i v hv=>⟨v,hv,fun u hu=>is_upd (fun hm=>(awayP_hp haw j T cs hl).2 (mentL_get hv hm)) hu⟩⟩
  by_cases hm:m=0
  ·have hn0:news=[]:=List.eq_nil_of_length_eq_zero (by rw[hnl2,hm];simp)
   have hnw:new=[]:=List.eq_nil_of_length_eq_zero (by rw[←hnl,hn0];rfl)
   subst hm hn0
   have hr:=run_append_nothing (P:=P) w t t' ty e it hT hit none 0 0 (Nat.le_refl _) (uy) hs
   refine ⟨_,_,_,upd ρ (s.kb+d) none,by rw[hev];exact hr,hK,?_⟩
   refine h.ins (henv _) (hhp _) (fun j _ hj=>hj) (awayP_fx haw) hd rfl rfl rfl (Nat.le_refl _) (fun _ _ _=>rfl) (fun b' e=>by cases e) (fun _=>hnw) ?_
   exact .inr ⟨rfl,none,(fun x e=>by cases e),rfl⟩
  ·obtain ⟨cap',zs,hr,hc1,hc2⟩:=append_new (P:=P) (ty:=ty) (base:=none) (q:=0) (cap:=0) (olds:=[]) hT hit hzv (by simp[Builtin.firstCells]) hs (by omega) (by simpa using hbytes) (by simpa using hmax) (by simp) (by simpa using hzz)
   refine ⟨_,_,_,upd ρ (s.kb+d) (some ⟨w.heap.size,(([]++news).toArray++zs).size⟩),by rw[hev];exact hr,hK,?_⟩
   refine h.ins (henv _) (hhp _) (fun j _ hj=>hj) (awayP_fx haw) hd rfl rfl rfl ?_ ?_ ?_ (fun e=>by cases e) ?_
   ·rw[World.size_alloc];exact Nat.le_succ _
   ·exact fun i hi _=>Below.heap_alloc w.drew _ i hi
   ·intro b' hb'
    injection hb' with hb'
    subst hb'
    refine ⟨⟨_,heap_alloc_new w.drew _,rfl,?_,fun i v hv=>?_⟩,.inl (Nat.le_refl _)⟩
    ·simp only[Array.size_append,List.size_toArray,List.nil_append,hnl];omega
    ·have hall:isL (upd ρ (s.kb+d) (some ⟨w.heap.size,(([]++news).toArray++zs).size⟩)) new news:=isL_upd hkn' hnews
     obtain ⟨h5,h6⟩:=isL_get? hall hv
     have hi:i<news.length:=(List.getElem?_eq_some_iff.1 h5).1
     have h7:((([]++news).toArray++zs).getD i undef)=news.getD i undef:=by
      rw[Array.getD_eq_getD_getElem?,Array.getElem?_append_left (by simpa using hi),List.getElem?_toArray,List.getD_eq_getElem?_getD]
      simp
     rw[h7];exact h6
   ·refine .inl ⟨_,cap',upd_self _ _ _,?_,by omega,by simpa using hc2⟩
    simp
 ·exact hK.elim
end
end Go.Proofs.Ytjapnklocibgaaa.Sx
