/- Part 20 of the texts of this claim: a symbolic executor and contracts of functions. -/
import Derived.Test.YtoblkpomikokhaaGreatGqGRCStr
import Derived.Shelf.Strings.Builder1
import Derived.Shelf.Strings.BuilderF
namespace Go.Proofs.YtoblkpomikokhaaGreat.Sx
open Go Go.RowKit
set_option linter.unusedVariables false
set_option maxRecDepth 1000000
set_option maxHeartbeats 4000000
theorem bldSize:(Tryz.prog.info? 102).map (·.size)=some 2:=by kernel_rfl
theorem bldCells:Tryz.prog.cellsOf 102=2:=by kernel_rfl
theorem bldDepth:∃d,Tryz.prog.depth=d+1:=⟨Tryz.prog.depth-1,by have:0<Tryz.prog.depth:=of_decide_eq_true (by kernel_rfl);omega⟩
theorem bldLies{m:Nat}(h:2≤m):Go.liesAt Tryz.prog Tryz.prog.depth 102 (m / Tryz.prog.cellsOf 102) 0 102 1=true:=by
 obtain ⟨d,hd⟩:=bldDepth
 rw[bldCells,hd]
 have h1:decide (1≤m / 2)=true:=by simp;omega
 simp[liesAt,rowAt,hd,bldCells,sameLayout,h1]
theorem byteCellsOf:Tryz.prog.cellsOf 5=1:=by kernel_rfl
theorem cc_used(b:Nat)(w:World)(h0:w.cell? ⟨b,0,none⟩=some (.pointer (some ⟨b,0,none⟩))) :
  Calls Tryz.prog 75 #[.pointer (some ⟨b,0,none⟩)] w fun e w'=>e=.returned (.tuple #[])∧w'=w:=by
 obtain ⟨j,hj,_⟩:=Option.map_eq_some_iff.1 bldSize
 go_enter Tryz.func75,Tryz.ntmps75
 go_wp2
 rw[Lib.run_neq_ptr_same w _ Tryz.underlying99 hj]
 go_wp2
 go_end0
 exact ⟨rfl,rfl⟩
theorem cc_fresh(b:Nat)(w:World)(h0:w.cell? ⟨b,0,none⟩=some (.pointer none)){m:Nat}(hm:2≤m)(hsh:w.shape? b=some (102,m))(hfz:w.frozen? ⟨b,0,none⟩=false) :
  Calls Tryz.prog 75 #[.pointer (some ⟨b,0,none⟩)] w fun e w'=>e=.returned (.tuple #[])∧w'=w.setCell ⟨b,0,none⟩ (.pointer (some ⟨b,0,none⟩)):=by
 obtain ⟨j,hj,hjs⟩:=Option.map_eq_some_iff.1 bldSize
 go_enter Tryz.func75,Tryz.ntmps75
 go_wp2
 rw[Lib.run_to_unsafe w ⟨b,0,none⟩ Tryz.underlying99 Tryz.underlying124 hj (by rw[hjs];decide) hsh (Nat.lt_of_lt_of_le Nat.zero_lt_two hm)]
 simp only[Result.andThen]
 rw[Oper.upon_value]
 go_wp2
 rw[run_callFunc_extern Tryz.func90 (by kernel_rfl) (by kernel_rfl) (by kernel_rfl) (e:=Extern.AbiNoEscape.same) (by kernel_rfl)]
 rw[Lib.run_noEscape]
 simp only[Result.andThen]
 rw[Oper.upon_value]
 go_wp2
 rw[Lib.run_from_unsafe w ⟨b,0,none⟩ Tryz.underlying124 Tryz.underlying99 hj hsh (bldLies hm)]
 simp only[Result.andThen]
 rw[Oper.upon_value]
 go_wp2
 go_end0
 exact ⟨rfl,rfl⟩
theorem str_row(b g cap:Nat)(cur:Array Value)(l:List UInt8)(w:World)(h0:l≠[]){bk:Array Value}(hbk:w.heap[b]? = some (.cells bk 102 (0,0)))(hb1:bk[1]? = some (.slice (some ⟨g,0,none⟩) l.length cap))
  (hg:w.heap[g]? = some (.cells cur 5 (0,0))) (hcap:l.length≤cap) (hcur:l.length≤cur.size) (hlen:l.length<4611686018427387904) (hrow:∀(j:Nat) x,l[j]? = some x→cur[j]? = some (.int .u8 x.toNat)) :
  Calls Tryz.prog 65 #[.pointer (some ⟨b,0,none⟩)] w fun e w'=>e=.returned (.string ⟨l.toArray⟩)∧w'=w.drew.freeze ⟨g,0,none⟩ l.length:=by
 have hl0:l.length≠0:=by simpa using h0
 have c1:w.drew.cell? ⟨b,1,none⟩=some (.slice (some ⟨g,0,none⟩) l.length cap):=by
  have:w.drew.heap[b]? = some (.cells bk 102 (0,0)):=hbk
  rw[Lib.cell_of_heap this];exact hb1
 have hSD:(Builtin.unsafeSliceData_ #[100] 115 #[.slice (some ⟨g,0,none⟩) l.length cap]).run Tryz.prog w.drew=.ok (.pointer (some ⟨g,0,none⟩)) w.drew:=
  Lib.run_unsafeSliceData_row _ _ _ _ _ _ (by omega)
 have hUS:(Builtin.unsafeString_ #[115,3] 9 #[.pointer (some ⟨g,0,none⟩),.int .i64 l.length]).run Tryz.prog w.drew=.ok (.string ⟨l.toArray⟩) (w.drew.freeze ⟨g,0,none⟩ l.length):=by
  refine Lib.run_unsafeString_row w.drew 115 3 9 5 Tryz.underlying115 byteCellsOf g cur.size (by have hg':w.drew.heap[g]? = some (.cells cur 5 (0,0)):=hg;simp[World.shape?,hg']) l h0 (by omega) (by omega) ?_
  intro j x hx
  have hg':w.drew.heap[g]? = some (.cells cur 5 (0,0)):=hg
  have e:w.drew.cell? ⟨g,j,none⟩=some (.int .u8 x.toNat):=by rw[Lib.cell_of_heap hg'];exact hrow j x hx
  have ea:(⟨g,0,none⟩:Addr).add j=⟨g,j,none⟩:=by
   simp only[Addr.add]
   split
   ·rename_i h;rw[h]
   ·simp
  rw[ea];exact e
 have mixed:=Tryz.mixed
 go_enter Tryz.func65,Tryz.ntmps65
 go_wp2
 go_region_o
 all_goals (go_wp2;go_ret;exact ⟨rfl,rfl⟩)
theorem str_none(b:Nat)(w:World){bk:Array Value}(hbk:w.heap[b]? = some (.cells bk 102 (0,0)))(hb1:bk[1]? = some (.slice none 0 0)) :
  Calls Tryz.prog 65 #[.pointer (some ⟨b,0,none⟩)] w fun e w'=>e=.returned (.string ⟨#[]⟩)∧w'=w.drew:=by
 have hUS:(Builtin.unsafeString_ #[115,3] 9 #[.pointer none,.int .i64 0]).run Tryz.prog w.drew=.ok (.string .empty) w.drew:=Lib.run_unsafeString_none w.drew _ _ _ none
 have c1:w.drew.cell? ⟨b,1,none⟩=some (.slice none 0 0):=by
  have:w.drew.heap[b]? = some (.cells bk 102 (0,0)):=hbk
  rw[Lib.cell_of_heap this];exact hb1
 have hSD:(Builtin.unsafeSliceData_ #[100] 115 #[.slice none 0 0]).run Tryz.prog w.drew=.ok (.pointer none) w.drew:=rfl
 have mixed:=Tryz.mixed
 go_enter Tryz.func65,Tryz.ntmps65
 go_wp2
 go_region_o
 all_goals (go_wp2;go_ret;exact ⟨rfl,rfl⟩)
set_option linter.unusedVariables false
set_option linter.unusedSimpArgs false
set_option maxRecDepth 100000
set_option maxHeartbeats 8000000
attribute [local congr] fin_congr finG_congr stepG_congr step1_congr runOps_congr brv_congr obl_congr condK_congr LoopK_congr seqK_congr CutK_congr vc_congr DrawK_congr regK_congr CallK_congr AskK_congr newK_congr retC_congr ret1_congr retK_congr outV_congr closeK_congr genR_congr appR_congr finD_congr finGD_congr stepGD_congr stepD_congr CallK0_congr runD_congr okR_congr CallS_congr vcX_congr
theorem isL_one{ρ:Rho}{v:AV}{us:List Value}(h:isL ρ [v] us):∃u,us=[u]∧v.is ρ u:=by
 obtain ⟨u,r,rfl,h1,rfl⟩:=h
 exact ⟨u,rfl,h1⟩
theorem HeapIs.cell{ρ:Rho}{k:Nat}{T:TypeId}{cs:List AV}{H:Hp}{M:Mem}{w:World}{b:Blk}{off:Nat}{v:AV}{u:Value}(h:HeapIs ρ ((k,T,cs) :: H) M w)(hk:lkH H k=none)(hb:ρ k=some b)(ho:off<cs.length)(hv:v.is ρ u) :
  HeapIs ρ ((k,T,cs.set off v) :: H) M (w.setCell ⟨b.b,off,none⟩ u)∧Same b.b w (w.setCell ⟨b.b,off,none⟩ u):=by
 have hs:=same_setCell b.b off w u
 refine ⟨⟨?_,?_,?_,?_⟩,hs⟩
 ·intro k' T' cs' b' hk' hb'
  by_cases e:k=k'
  ·subst e
   simp only[lkH,if_true,Option.some.injEq,Prod.mk.injEq]at hk'
   obtain ⟨rfl,rfl⟩:=hk'
   rw[hb]at hb'
   obtain rfl:=Option.some.inj hb'
   obtain ⟨⟨arr,r⟩,h2⟩:=h.hp k T cs b (by simp[lkH]) hb
   have ht:=heap_setCell (b:=b.b) (o:=off) w u r.there
   refine ⟨⟨arr.setIfInBounds off u,ht,by simp[r.size],by simp;exact r.le,fun i x hi=>?_⟩,h2⟩
   have hlt:off<arr.size:=by have:=r.le;rw[r.size];omega
   rw[List.getElem?_set]at hi
   split at hi
   ·rename_i e
    subst e
    obtain rfl:=Option.some.inj hi
    have:(arr.setIfInBounds off u).getD off undef=u:=by simp[Array.getD_eq_getD_getElem?,hlt]
    rw[this];exact hv
   ·rename_i e
    have:(arr.setIfInBounds off u).getD i undef=arr.getD i undef:=by simp[Array.getD_eq_getD_getElem?,Array.getElem?_setIfInBounds,e]
    rw[this];exact r.is i x hi
  ·have hk2:lkH ((k,T,cs) :: H) k'=some (T',cs'):=by
    simp only[lkH,if_neg e]at hk' ⊢;exact hk'
   obtain ⟨⟨arr,r⟩,h2⟩:=h.hp k' T' cs' b' hk2 hb'
   have hne:b'.b≠b.b:=fun e2=>e (h.inj k k' b b' (by simp[lkH]) (by rw[hk2];rfl) hb hb' e2.symm)
   exact ⟨⟨arr,r.same hs hne⟩,h2⟩
 ·intro k' T' cs' hk' hn
  by_cases e:k=k'
  ·subst e;rw[hb]at hn;cases hn
  ·exact h.no k' T' cs' (by simp only[lkH,if_neg e]at hk' ⊢;exact hk') hn
 ·intro k1 k2 b1 b2 h1 h2 h3 h4 h5
  have key:∀j,(lkH ((k,T,cs.set off v) :: H) j).isSome=true→(lkH ((k,T,cs) :: H) j).isSome=true:=fun j hj=>by
   by_cases e:k=j
   ·simp[lkH,e]
   ·simp only[lkH,if_neg e]at hj ⊢;exact hj
  exact h.inj k1 k2 b1 b2 (key _ h1) (key _ h2) h3 h4 h5
 ·intro x o hx
  have h2:=(h.hp k T cs b (by simp[lkH]) hb).2
  rw[hs.block x (fun e=>by rw[e,h2]at hx;cases hx)]
  exact h.sub x o hx
section
variable {M:Mem}{K:AV→Hp→Mem→Prop}
theorem copyCheck_ok(k:Nat)(p c:AV)(H:Hp)(hH:lkH H k=none)(hin:inB (keysH ((k,102,[p,c]) :: H)) (c.ment++mentH H)=true)(hp:p=.ext (.pointer none)∨p=.own k 0)(hK:K (.ext (.tuple #[])) ((k,102,[.own k 0,c]) :: H) M) :
  CallS Tryz.prog 75 [.own k 0] ((k,102,[p,c]) :: H) M [] K:=fun ρ w us hw hus=>by
 obtain ⟨u,rfl,b,hb,rfl⟩:=isL_one hus
 obtain ⟨⟨arr,r⟩,hM⟩:=hw.hp k 102 [p,c] b (by simp[lkH]) hb
 have hsz:2≤arr.size:=by have:=r.le;rw[r.size];exact this
 have hn2:2≤b.n:=r.le
 have hc0:w.cell? ⟨b.b,0,none⟩=some (arr.getD 0 undef):=r.cell (by omega)
 have hi:=r.is 0 p rfl
 have keys:∀j,(lkH ((k,102,[p,c]) :: H) j).isSome=(lkH ((k,102,[.own k 0,c]) :: H) j).isSome:=fun j=>by
  by_cases e:k=j
  ·simp[lkH,e]
  ·simp[lkH,e]
 have fin:∀w',HeapIs ρ ((k,102,[.own k 0,c]) :: H) M w'→Same b.b w w'→∃u v H' M' ρ',Ending.returned (.tuple #[])=Ending.returned u∧K v H' M'∧Left [] ((k,102,[p,c]) :: H) M ρ ρ' w u v H' M' w':=fun w' h1 hs=>
  ⟨_,_,_,_,ρ,rfl,hK,⟨rfl,h1,fun j hj=>by rw[←keys];exact hj,fun _ _ _=>rfl,fun j hj=>⟨by simp[AV.ment],fun i T cs hi hm=>by
   have hall:∀x∈c.ment++mentH H,(lkH ((k,102,[p,c]) :: H) x).isSome=true:=fun x hx=>(keysH_some _ _).1 (inB_mem hin x hx)
   have hjn:¬(lkH ((k,102,[p,c]) :: H) j).isSome=true:=fun e=>by rw[keys,hj]at e;cases e
   have hkj:k≠j:=fun e=>hjn (by simp[lkH,e])
   by_cases e:k=i
   ·subst e
    simp only[lkH,if_true,Option.some.injEq,Prod.mk.injEq]at hi
    obtain ⟨_,rfl⟩:=hi
    simp only[mentL,AV.ment,List.mem_append,List.mem_cons,List.not_mem_nil,or_false,List.append_nil]at hm
    rcases hm with hm|hm
    ·exact hkj hm.symm
    ·exact hjn (hall j (by simp[hm]))
   ·simp only[lkH,if_neg e]at hi
    exact hjn (hall j (List.mem_append.2 (.inr (mentH_lk hi (.inr hm)))))⟩,fun j x hj hx=>.inr ⟨j,x,by rw[keys];exact hj,hx,rfl⟩,hs.os,hs.tape,hs.output,by rw[hs.size];exact Nat.le_refl _,fun x hx hne=>hs.block x (fun e=>hne k b (by simp[lkH]) hb e.symm),Mem.le.refl _,fun x hx=>.inl hx⟩⟩
 rcases hp with rfl|rfl
 ·have hi:arr.getD 0 undef=.pointer none:=hi
  rw[hi]at hc0
  refine (cc_fresh b.b w hc0 (m:=arr.size) hsz (by simp[World.shape?,r.there]) (by simp[World.frozen?,r.there])).mono fun e w' ⟨h1,h2⟩=>?_
  subst h1 h2
  obtain ⟨g1,g2⟩:=hw.cell (off:=0) (v:=.own k 0) (u:=ptr b.b 0) hH hb (by simp) ⟨b,hb,rfl⟩
  exact fin _ g1 g2
 ·obtain ⟨b2,hb2,hi⟩:=hi
  rw[hb]at hb2
  obtain rfl:=Option.some.inj hb2
  rw[hi]at hc0
  refine (cc_used b.b w hc0).mono fun e w' ⟨h1,h2⟩=>?_
  subst h1 h2
  exact fin _ hw (Same.refl _ _)
theorem CallS.order{P:Program}{f:FuncId}{args:List AV}{H H2:Hp}{mv:List Nat}(e:∀k,lkH H k=lkH H2 k)(h:CallS P f args H M mv fun v H' M'=>∃H3,(∀k,lkH H' k=lkH H3 k)∧K v H3 M'):CallS P f args H2 M mv K:=fun ρ w us hw hus=>
 (h ρ w us (hw.eqv fun k=>(e k).symm) hus).mono fun r w' ⟨u,v,H',M',ρ',h1,⟨H3,e3,h2⟩,h3⟩=>⟨u,v,H3,M',ρ',h1,h2,
  ⟨h3.is,h3.heap.eqv e3,fun k hk=>by rw[←e3];exact h3.keep k (by rw[e];exact hk),fun k hk=>h3.same k (by rw[e,e3];exact hk),fun k hk=>⟨(h3.ment k (by rw[e3];exact hk)).1,fun j T cs hj=>(h3.ment k (by rw[e3];exact hk)).2 j T cs ((e3 j).trans hj)⟩,
   fun k b hk hb=>by
    rcases h3.fresh k b (by rw[e3];exact hk) hb with h|⟨j,x,hj,h⟩
    ·exact .inl h
    ·exact .inr ⟨j,x,by rw[←e];exact hj,h⟩,h3.os,h3.tape,h3.output,h3.size,fun b hb hne=>h3.block b hb fun k x hk=>hne k x (by rw[←e];exact hk),h3.le,h3.mem⟩⟩
def u8V(b:UInt8):Value:=.int .u8 (b.toNat:Int)
def bldH(k kb:Nat)(p:AV)(l:List UInt8):Hp:=[(kb,5,cE u8V l),(k,102,[p,.slo kb 0 l.length 1])]
theorem copyCheck_b(k kb:Nat)(p:AV)(l:List UInt8)(hne:k≠kb)(hp:p=.ext (.pointer none)∨p=.own k 0)(hK:K (.ext (.tuple #[])) (bldH k kb (.own k 0) l) M) :
  CallS Tryz.prog 75 [.own k 0] (bldH k kb p l) M [] K:=by
 have sw:∀(a b:TypeId×List AV) (j:Nat),lkH [(k,a),(kb,b)] j=lkH [(kb,b),(k,a)] j:=fun a b j=>by
  simp only[lkH]
  by_cases h1:k=j
  ·have h2:¬kb=j:=fun e=>hne (h1.trans e.symm)
   simp[h1,h2]
  ·by_cases h2:kb=j<;>simp[h1,h2]
 refine CallS.order (sw (102,[p,.slo kb 0 l.length 1]) (5,cE u8V l)) (copyCheck_ok k p _ _ (by simp[lkH,hne.symm]) ?_ hp ⟨_,sw _ _,hK⟩)
 have e4:(kb==k)=false:=by simp[hne.symm]
 simp[inB,keysH,hasK,AV.ment,mentH,mentL,cE_ment,e4]
theorem u8_snoc(l:List UInt8)(c:UInt8):cE u8V l++[.ext (.int .u8 (c.toNat:Int))]=cE u8V (l++[c]):=cE_snoc u8V l c
theorem neB{a b:Nat}(h:a≠b):(a==b)=false:=by simp[h]
theorem neP{a b:Nat}(h:a≠b):(a=b)=False:=by simp[h]
theorem wbyte_ok(k kb:Nat)(p:AV)(l:List UInt8)(c:UInt8)(x:Int)(hx:x=(c.toNat:Int))(hne:k≠kb)(hl:l.length<1000000000)(hp:p=.ext (.pointer none)∨p=.own k 0)(hK:K (.ext .nilIface) (bldH k kb (.own k 0) (l++[c])) M) :
  CallS Tryz.prog 64 [.own k 0,.ext (.int .u8 x)] (bldH k kb p l) M [kb] K:=by
 subst hx
 obtain ⟨N,h1,h2⟩:∃N,k<N∧kb<N:=⟨k+kb+1,by omega,by omega⟩
 refine callS_ok Tryz.mixed Tryz.func64 rfl (by kernel_rfl) N [kb] [k] [] rfl (by intro j hj;simp[bldH,keysH]at hj ⊢;exact hj) (by intro j hj;simp[bldH,keysH]at hj;omega) ?_
 have e1:=neP hne
 have e2:=neP (Ne.symm hne)
 have e3:=neB hne
 have e4:=neB (Ne.symm hne)
 have g1:=neP (show k≠N+13 by omega)
 have g2:=neP (show N+13≠k by omega)
 have g3:=neB (show k≠N+13 by omega)
 have g4:=neB (show N+13≠k by omega)
 have g5:=neP (show kb≠N+13 by omega)
 have g6:=neP (show N+13≠kb by omega)
 have g7:=neB (show kb≠N+13 by omega)
 have g8:=neB (show N+13≠kb by omega)
 simp only[Tryz.f64]
 have ht:List.take l.length (cE u8V l)=cE u8V l:=List.take_of_length_le (by rw[cE_len];exact Nat.le_refl _)
 rcases hp with rfl|rfl<;>cases hcut:decide (1000000≤N)
 all_goals (
  refine Go1.mk ?_;repeat' ((first|(with_reducible refine Go1.go ?_)|((with_reducible refine isCall (f:=75) ?_);refine callA ?_)|((with_reducible refine isCallS (f:=75) ?_);refine (copyCheck_b k kb _ l hne (by simp) ?_))|(refine And.intro ?_ ?_;(try simp only[sxO]at *);omega)|fail)<;>(try simp (maxSteps:=1000000) only [hcut,ht,bldH,e1,e2,e3,e4,g1,g2,g3,g4,g5,g6,g7,g8,cE_ment,hasK_nil,if_false,if_true,cE_len,maxLen,Nat.mul_one,↓hold_pre,awayP,runOps,regK,step1,newK,genR,appR,obl,buildR,Value.cells,closeK,keepH,outV,retK,ret1,retC,RetV,Option.getD,runD,stepD,afterK,undef,simprocAttr,sxB,↓sxD,sxE,sxTab]))
  rw[u8_snoc]
  simp only[bldH,List.length_append,List.length_cons,List.length_nil,Nat.zero_add]at hK
  exact hK)
theorem u8_app(l s:List UInt8):cE u8V l++cE u8V s=cE u8V (l++s):=by simp[cE]
theorem u8_str(s:List UInt8):(s.map fun b=>AV.ext (Value.int .u8 (b.toNat:Int)))=cE u8V s:=by simp[cE,u8V]
theorem u8_one(s:List UInt8):allOne (cE u8V s)=True:=eq_true (allOne_ext _ fun v hv=>by
 obtain ⟨b,_,rfl⟩:=List.mem_map.1 hv;rfl)
theorem wstr_ok(k kb:Nat)(p:AV)(l t:List UInt8)(hne:k≠kb)(hl:l.length<1000000000)(ht:t.length<1000000000)(hp:p=.ext (.pointer none)∨p=.own k 0)(hK:K (.ext (.tuple #[.int .i64 (t.length:Int),.nilIface])) (bldH k kb (.own k 0) (l++t)) M) :
  CallS Tryz.prog 61 [.own k 0,.ext (.string (bs t))] (bldH k kb p l) M [kb] K:=by
 obtain ⟨N,h1,h2⟩:∃N,k<N∧kb<N:=⟨k+kb+1,by omega,by omega⟩
 refine callS_ok Tryz.mixed Tryz.func61 rfl (by kernel_rfl) N [kb] [k] [] rfl (by intro j hj;simp[bldH,keysH]at hj ⊢;exact hj) (by intro j hj;simp[bldH,keysH]at hj;omega) ?_
 have e1:=neP hne
 have e2:=neP (Ne.symm hne)
 have e3:=neB hne
 have e4:=neB (Ne.symm hne)
 simp only[Tryz.f61]
 have ht:List.take l.length (cE u8V l)=cE u8V l:=List.take_of_length_le (by rw[cE_len];exact Nat.le_refl _)
 rcases hp with rfl|rfl<;>cases hcut:decide (1000000≤N)
 all_goals (
  refine Go1.mk ?_;repeat' ((first|(with_reducible refine Go1.go ?_)|((with_reducible refine isCall (f:=75) ?_);refine callA ?_)|((with_reducible refine isCallS (f:=75) ?_);refine (copyCheck_b k kb _ l hne (by simp) ?_))|(refine And.intro ?_ ?_;(try simp only[sxO]at *);omega)|fail)<;>(try simp (maxSteps:=1000000) only [hcut,ht,bldH,e1,e2,e3,e4,bs_size,bs_data,u8_str,u8_one,cE_ment,hasK_nil,if_false,if_true,cE_len,maxLen,Nat.mul_one,↓hold_pre,awayP,runOps,regK,step1,newK,genR,appR,obl,buildR,Value.cells,closeK,keepH,outV,retK,ret1,retC,RetV,Option.getD,runD,stepD,afterK,undef,simprocAttr,sxB,↓sxD,sxE,sxTab]))
  rw[u8_app]
  simp only[bldH,List.length_append]at hK
  exact hK)
theorem freeze_heap(w:World)(g n i:Nat)(h:i≠g):(w.freeze ⟨g,0,none⟩ n).heap[i]? = w.heap[i]?:=by
 unfold World.freeze
 split
 ·rfl
 ·simp[Array.getElem?_modify,Ne.symm h]
theorem freeze_rest(w:World)(g n:Nat):(w.freeze ⟨g,0,none⟩ n).os=w.os∧(w.freeze ⟨g,0,none⟩ n).tape=w.tape∧(w.freeze ⟨g,0,none⟩ n).output=w.output∧(w.freeze ⟨g,0,none⟩ n).heap.size=w.heap.size:=by
 unfold World.freeze
 split
 ·exact ⟨rfl,rfl,rfl,rfl⟩
 ·exact ⟨rfl,rfl,rfl,by simp⟩
theorem string_ok(k kb:Nat)(p:AV)(l:List UInt8)(hne:k≠kb)(hp:p=.ext (.pointer none)∨p=.own k 0)(h0:l≠[])(hl:l.length<1000000000)(hK:K (.ext (.string (bs l))) [(kb,5,[]),(k,102,[p,.unk])] M) :
  CallS Tryz.prog 65 [.own k 0] (bldH k kb p l) M [kb] K:=fun ρ w us hw hus=>by
 obtain ⟨u,rfl,b,hb,rfl⟩:=isL_one hus
 have hkk:lkH (bldH k kb p l) k=some (102,[p,.slo kb 0 l.length 1]):=by simp[bldH,lkH,hne.symm]
 have hkb:lkH (bldH k kb p l) kb=some (5,cE u8V l):=by simp[bldH,lkH]
 obtain ⟨⟨arr,r⟩,hM⟩:=hw.hp k _ _ b hkk hb
 have h1:=r.is 1 _ rfl
 rcases h1 with ⟨bb,cap,hbb,hu,hle,hcap⟩|⟨hz,_⟩
 ·obtain ⟨⟨cur,r2⟩,hM2⟩:=hw.hp kb _ _ bb hkb hbb
  have hnb:b.b≠bb.b:=fun e=>hne (hw.inj k kb b bb (by rw[hkk];rfl) (by rw[hkb];rfl) hb hbb e)
  have hlen:l.length≤cur.size:=by rw[r2.size];have:=r2.le;rw[cE_len]at this;exact this
  have hb1:arr[1]? = some (.slice (some ⟨bb.b,0,none⟩) l.length cap):=by
   have h2:1<arr.size:=by have:=r.le;rw[r.size];exact this
   have:arr.getD 1 undef=arr[1]:=by simp[Array.getD_eq_getD_getElem?,h2]
   rw[this]at hu
   simp[h2,hu]
  refine (str_row b.b bb.b cap cur l w h0 r.there hb1 r2.there hle hlen (by omega) (fun j x hj=>?_)).mono fun e w' ⟨h1,h2⟩=>?_
  ·have:=r2.is j (.ext (u8V x)) (by simp[cE,hj])
   have hj2:j<cur.size:=by have:=(List.getElem?_eq_some_iff.1 hj).1;omega
   have e:cur.getD j undef=cur[j]:=by simp[Array.getD_eq_getD_getElem?,hj2]
   rw[e]at this
   simp only[Array.getElem?_eq_getElem hj2]
   exact congrArg some this
  ·subst h1 h2
   obtain ⟨f1,f2,f3,f4⟩:=freeze_rest w.drew bb.b l.length
   have f5:∀i,i≠bb.b→(w.drew.freeze ⟨bb.b,0,none⟩ l.length).heap[i]? = w.heap[i]?:=fun i hi=>freeze_heap w.drew bb.b l.length i hi
   have hpu:∀x,p.is ρ x→p.is (upd ρ kb none) x:=fun x hx=>by
    rcases hp with rfl|rfl
    ·exact hx
    ·obtain ⟨b2,h3,h4⟩:=hx
     exact ⟨b2,by rw[upd_ne _ _ hne];exact h3,h4⟩
   have keys:∀j,(lkH (bldH k kb p l) j).isSome=(lkH [(kb,5,[]),(k,102,[p,.unk])] j).isSome:=fun j=>by
    by_cases e:kb=j
    ·simp[lkH,e,bldH]
    ·by_cases e2:k=j<;>simp[lkH,e,e2,bldH]
   have hk2:∀{j:Nat} {T:TypeId} {cs:List AV},lkH [(kb,5,[]),(k,102,[p,.unk])] j=some (T,cs)→(j=kb∧cs=[])∨(j=k∧T=102∧cs=[p,.unk]):=fun {j T cs} h=>by
    simp only[lkH]at h
    by_cases e:kb=j
    ·rw[if_pos e]at h
     simp only[Option.some.injEq,Prod.mk.injEq]at h
     exact .inl ⟨e.symm,h.2.symm⟩
    ·rw[if_neg e]at h
     by_cases e2:k=j
     ·rw[if_pos e2]at h
      simp only[Option.some.injEq,Prod.mk.injEq]at h
      exact .inr ⟨e2.symm,h.1.symm,h.2.symm⟩
     ·rw[if_neg e2]at h;cases h
   refine ⟨_,_,_,_,upd ρ kb none,rfl,hK,⟨rfl,⟨?_,?_,?_,?_⟩,fun j hj=>by rw[←keys];exact hj,fun j _ hj=>upd_ne _ _ (by simpa using hj),fun j hj=>⟨by simp[AV.ment],fun i T cs hi hm=>?_⟩,fun j x hj hx=>?_,f1,f2,f3,by rw[f4];exact Nat.le_refl _,fun i hi hne'=>f5 i fun e=>hne' kb bb (by rw[hkb];rfl) hbb e.symm,Mem.le.refl _,fun x hx=>.inl hx⟩⟩
   ·intro j T cs x hj hx
    rcases hk2 hj with ⟨rfl,rfl⟩|⟨rfl,rfl,rfl⟩
    ·rw[upd_self]at hx;cases hx
    ·rw[upd_ne _ _ hne,hb]at hx
     obtain rfl:=Option.some.inj hx
     refine ⟨⟨arr,?_,r.size,r.le,fun i v hi=>?_⟩,hM⟩
     ·rw[f5 _ hnb];exact r.there
     ·match i,hi with
      | 0,hi=>simp at hi;subst hi;exact hpu _ (r.is 0 p rfl)
      | 1,hi=>simp at hi;subst hi;trivial
   ·intro j T cs hj hx
    rcases hk2 hj with ⟨rfl,rfl⟩|⟨rfl,rfl,rfl⟩
    ·rfl
    ·rw[upd_ne _ _ hne,hb]at hx;cases hx
   ·intro j1 j2 b1 b2 h1 h2 h3 h4 _
    have hh:∀{j x},(lkH [(kb,5,[]),(k,102,[p,.unk])] j).isSome=true→upd ρ kb none j=some x→j=k:=fun {j x} h1 h3=>by
     obtain ⟨⟨T,cs⟩,h⟩:=Option.isSome_iff_exists.1 h1
     rcases hk2 h with ⟨rfl,_⟩|⟨rfl,_⟩
     ·rw[upd_self]at h3;cases h3
     ·rfl
    rw[hh h1 h3,hh h2 h4]
   ·intro x o hx
    rw[f5 x fun e=>by rw[e,hM2]at hx;cases hx]
    exact hw.sub x o hx
   ·rcases hk2 hi with ⟨rfl,rfl⟩|⟨rfl,rfl,rfl⟩
    ·simp[mentL]at hm
    ·rcases hp with rfl|rfl
     ·simp[mentL,AV.ment]at hm
     ·simp[mentL,AV.ment]at hm
      subst hm
      rw[lkH,if_neg hne.symm,lkH,if_pos rfl]at hj;cases hj
   ·obtain ⟨⟨T,cs⟩,h⟩:=Option.isSome_iff_exists.1 hj
    rcases hk2 h with ⟨rfl,_⟩|⟨rfl,_⟩
    ·rw[upd_self]at hx;cases hx
    ·rw[upd_ne _ _ hne]at hx
     exact .inr ⟨_,x,by rw[hkk];rfl,hx,rfl⟩
 ·exact absurd (List.length_eq_zero_iff.1 hz) h0
theorem string_nil(k:Nat)(p:AV)(hp:p=.ext (.pointer none)∨p=.own k 0)(hK:K (.ext (.string (bs []))) [(k,102,[p,.ext (.slice none 0 0)])] M) :
  CallS Tryz.prog 65 [.own k 0] [(k,102,[p,.ext (.slice none 0 0)])] M [] K:=fun ρ w us hw hus=>by
 obtain ⟨u,rfl,b,hb,rfl⟩:=isL_one hus
 obtain ⟨⟨arr,r⟩,hM⟩:=hw.hp k 102 [p,.ext (.slice none 0 0)] b (by simp[lkH]) hb
 have h1:=r.is 1 _ rfl
 have h1:arr.getD 1 undef=.slice none 0 0:=h1
 have hb1:arr[1]? = some (.slice none 0 0):=by
  have h2:1<arr.size:=by have:=r.le;rw[r.size];exact this
  have:arr.getD 1 undef=arr[1]:=by simp[Array.getD_eq_getD_getElem?,h2]
  rw[this]at h1
  simp[h2,h1]
 refine (str_none b.b w r.there hb1).mono fun e w' ⟨h1,h2⟩=>?_
 subst h1 h2
 refine ⟨_,_,_,_,ρ,rfl,hK,⟨rfl,⟨fun k T cs b h1 h2=>?_,hw.no,hw.inj,fun x o hx=>hw.sub x o hx⟩,fun j hj=>hj,fun _ _ _=>rfl,fun j hj=>⟨by simp[AV.ment],fun i T cs hi hm=>?_⟩,fun j x hj hx=>.inr ⟨j,x,hj,hx,rfl⟩,rfl,rfl,rfl,Nat.le_refl _,fun _ _ _=>rfl,Mem.le.refl _,fun x hx=>.inl hx⟩⟩
 ·obtain ⟨⟨arr,r⟩,g⟩:=hw.hp k T cs b h1 h2
  exact ⟨⟨arr,⟨r.there,r.size,r.le,r.is⟩⟩,g⟩
 ·simp only[lkH]at hi hj
  split at hi
  ·simp only[Option.some.injEq,Prod.mk.injEq]at hi
   obtain ⟨_,rfl⟩:=hi
   rcases hp with rfl|rfl
   ·simp[mentL,AV.ment]at hm
   ·simp[mentL,AV.ment]at hm
    subst hm
    simp at hj
  ·cases hi
theorem le_nilH{s:St}(k i K:Nat)(T TT:TypeId)(cs:List AV)(zz:Nat)(h0:lkH s.hp k=some (TT,cs))(h1:cs[i]? = some (.ext (.slice none 0 0)))(h2:awayP K s):Le s {env:=s.env,hp:=(K,T,[]) :: upH s.hp k (cs.set i (.slo K 0 0 zz)),M:=s.M,kb:=s.kb,fx:=s.fx,fr:=s.fr}:=fun c n ρ av w g=>by
 have hkK:k≠K:=(awayP_hp h2 k TT cs h0).1
 have hlk:∀j x,lkH ((K,T,[]) :: upH s.hp k (cs.set i (.slo K 0 0 zz))) j=some x→(j=K∧x=(T,[]))∨(j≠K∧j≠k∧lkH s.hp j=some x)∨(j=k∧x=(TT,cs.set i (.slo K 0 0 zz))):=fun j x hj=>by
  simp only[lkH]at hj
  by_cases e:K=j
  ·rw[if_pos e]at hj;exact .inl ⟨e.symm,(Option.some.inj hj).symm⟩
  ·rw[if_neg e,lkH_upH]at hj
   by_cases e2:k=j
   ·rw[if_pos e2,h0]at hj
    exact .inr (.inr ⟨e2.symm,(Option.some.inj hj).symm⟩)
   ·rw[if_neg e2]at hj
    exact .inr (.inl ⟨fun h=>e h.symm,fun h=>e2 h.symm,hj⟩)
 have hsome:∀j,j≠K→(lkH ((K,T,[]) :: upH s.hp k (cs.set i (.slo K 0 0 zz))) j).isSome=true→(lkH s.hp j).isSome=true:=fun j hj h=>by
  obtain ⟨x,hx⟩:=Option.isSome_iff_exists.1 h
  rcases hlk j x hx with ⟨h,_⟩|⟨_,_,h⟩|⟨h,_⟩
  ·exact absurd h hj
  ·rw[h];rfl
  ·rw[h,h0];rfl
 refine ⟨upd ρ K none,{df:=g.df,sz:=g.sz,env:=fun t'=>is_upd (awayP_env h2 t') (g.env t'),hp:=fun j T' cs' b hj hb=>?_,no:=fun j T' cs' hj hb=>?_,inj:=fun j j' b b' hj hj' hb hb' e=>?_,os:=g.os,tape:=g.tape,output:=g.output,size:=g.size,block:=g.block,sub:=g.sub,le:=g.le,mf:=g.mf,fix:=fun j hj=>?_,fx:=fun j hj=>?_,kl:=g.kl,fr:=g.fr}⟩
 ·rcases hlk j _ hj with ⟨rfl,hx⟩|⟨hne,hne2,hx⟩|⟨rfl,hx⟩
  ·rw[upd_self]at hb;cases hb
  ·rw[upd_ne _ _ hne]at hb
   obtain ⟨⟨arr,f1⟩,f2⟩:=g.hp j T' cs' b hx hb
   exact ⟨⟨arr,f1.there,f1.size,f1.le,fun i v hv=>is_upd (fun hm=>(awayP_hp h2 j T' cs' hx).2 (mentL_get hv hm)) (f1.is i v hv)⟩,f2⟩
  ·rw[upd_ne _ _ hkK]at hb
   cases hx
   obtain ⟨⟨arr,f1⟩,f2⟩:=g.hp j TT cs b h0 hb
   refine ⟨⟨arr,f1.there,f1.size,by rw[List.length_set];exact f1.le,fun i' v hv=>?_⟩,f2⟩
   rw[List.getElem?_set]at hv
   split at hv
   ·rename_i e
    subst e
    split at hv
    ·obtain rfl:=Option.some.inj hv
     have:=f1.is i _ h1
     exact .inr ⟨rfl,none,(fun x e=>by cases e),this⟩
    ·cases hv
   ·exact is_upd (fun hm=>(awayP_hp h2 j TT cs h0).2 (mentL_get hv hm)) (f1.is i' v hv)
 ·rcases hlk j _ hj with ⟨rfl,hx⟩|⟨hne,hne2,hx⟩|⟨rfl,hx⟩
  ·cases hx;rfl
  ·rw[upd_ne _ _ hne]at hb;exact g.no j T' cs' hx hb
  ·rw[upd_ne _ _ hkK]at hb
   have:=g.no j TT cs h0 hb
   subst this
   cases h1
 ·by_cases e1:j=K
  ·rw[e1,upd_self]at hb;cases hb
  ·by_cases e2:j'=K
   ·rw[e2,upd_self]at hb';cases hb'
   ·rw[upd_ne _ _ e1]at hb
    rw[upd_ne _ _ e2]at hb'
    exact g.inj j j' b b' (hsome j e1 hj) (hsome j' e2 hj') hb hb' e
 ·have:=g.fix j hj
  simp only[lkH]
  split
  ·rfl
  ·rw[lkH_upH]
   split
   ·simpa using by rename_i e;rw[←e]at this;exact this
   ·exact this
 ·rw[upd_ne _ _ fun e=>awayP_fx h2 (by rw[←e];exact hj)];exact g.fx j hj
end
end Go.Proofs.YtoblkpomikokhaaGreat.Sx
