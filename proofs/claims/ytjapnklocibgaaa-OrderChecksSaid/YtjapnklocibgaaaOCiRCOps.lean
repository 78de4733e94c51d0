/- Part 5 of the texts of this claim: a symbolic executor and contracts of functions. -/
import Derived.Test.YtjapnklocibgaaaOCiRCHeap
import Derived.Laws.Runes
import Derived.Laws.IdiomStrings
import Derived.Lib.BufferRead
namespace Go.Proofs.Ytjapnklocibgaaa.Sx
open Go Go.RowKit
set_option linter.unusedVariables false
set_option linter.unusedSimpArgs false
section
variable {P:Program}{c:Cx}{n:Nat}{s:St}{ρ:Rho}{a:Act}{w:World}
theorem run_move{o:Oper}{x:Operand}(h:o.op=.move x∨o.op=.assign x):(execOp a.eval o).run P w=.ok (.value (a.eval x)) w:=by
  rcases h with h|h<;>simp[execOp,h]<;>rfl
theorem selV_eq(t:Bool)(u v:Value):selV t u v=if t=true then u else v:=by
  unfold selV
  split
  · cases t<;>rfl
  · rfl
theorem fOff_pt{S f o:Nat}{T:TypeId}{a:Addr}(h:fOff P S f=some (o,T))(hs:(szO P T).map (·==0)=some false) :
    (Instr.fieldAt S (.pointer (some a)) f).run P w=.ok (.pointer (some (a.add o))) w:=by
  unfold fOff at h
  split at h
  · rename_i fs hS
    simp only[Option.map_eq_some_iff,Prod.mk.injEq]at h
    obtain ⟨fd,hf,rfl,rfl⟩:=h
    unfold szO at hs
    cases hq:P.info? fd.type with
    | none=>simp[hq]at hs
    | some i=>
      have:i.size≠0:=by simpa [hq] using hs
      simp[Instr.fieldAt,Sem.run_bind,run_underlying hS,hf,Instr.sureAddr,fieldPlace,sizeOf,typeInfo,hq,this]
  · cases h
theorem fOff_ok{S f o:Nat}{T:TypeId}{b off:Nat}(h:fOff P S f=some (o,T))(hs:(szO P T).map (·==0)=some false) :
    (Instr.fieldAt S (ptr b off) f).run P w=.ok (ptr b (off+o)) w:=by
  unfold fOff at h
  split at h
  · rename_i fs hS
    simp only[Option.map_eq_some_iff,Prod.mk.injEq]at h
    obtain ⟨fd,hf,rfl,rfl⟩:=h
    have hadd:(Addr.add ⟨b,off,none⟩ fd.offset)=⟨b,off+fd.offset,none⟩:=Addr.add_mid b off fd.offset
    unfold szO at hs
    cases hq:P.info? fd.type with
    | none=>simp[hq]at hs
    | some i=>
      have:i.size≠0:=by simpa [hq] using hs
      simp[Instr.fieldAt,Sem.run_bind,run_underlying hS,hf,Instr.sureAddr,ptr,fieldPlace,sizeOf,typeInfo,hq,this,hadd]
  · cases h
theorem zero_ok{T:TypeId}{cs:List Value}(h:zeroC P T=some cs):∃z,(zeroValue T).run P w=.ok z w∧z.cells.toList=cs:=by
  unfold zeroC at h
  simp only[Option.map_eq_some_iff,Option.bind_eq_some_iff]at h
  obtain ⟨z,⟨i,hi,hz⟩,rfl⟩:=h
  exact ⟨z,by simp[zeroValue,typeInfo,hi,hz],rfl⟩
theorem newVar_ok(T:TypeId)(v:Value):(newVar T v).run P w=.ok ⟨w.heap.size,0,none⟩ (w.alloc (.cells v.cells T)):=by
  simp only[newVar,newRow,newObj,Sem.run_bind,Sem.run,Result.andThen_ok,Sem.run_pure];rfl
theorem callsB_ok{f:FuncId}{args:Array Value}(h:callsB P f=true):(callFunc f args).run P w=.ok (.enter f args) w:=by
  unfold callsB at h
  split at h
  · rename_i fn hf
    simp only[Bool.and_eq_true,Bool.not_eq_true']at h
    have h2:fn.body.isNone=false:=by
      cases hb:fn.body with
      | none=>rw[hb]at h;simp at h
      | some _=>rfl
    simp only[callFunc,program,Sem.run_bind,Sem.run,Result.andThen_ok,hf,h.1,Bool.false_eq_true,if_false,h2]
    rfl
  · cases h
theorem ptr_is{v:AV}{g:Bool}{k off:Nat}{u:Value}(h:v.ptr? = some (g,k,off))(hg:g=true)(hu:v.is ρ u):∃b,ρ k=some b∧u=ptr b.b off:=by
  cases v with
  | own k' o'=>simp[AV.ptr?]at h;obtain ⟨_,rfl,rfl⟩:=h;exact hu
  | gown g' k' o'=>
    simp[AV.ptr?]at h
    obtain ⟨rfl,rfl,rfl⟩:=h
    have hu:if g'=true then ∃b,ρ k'=some b∧u=ptr b.b o' else u=undef:=hu
    rw[if_pos hg]at hu;exact hu
  | _=>simp[AV.ptr?]at h
def Sound(P:Program)(c:Cx)(n:Nat)(s:St)(ρ:Rho)(a:Act)(w:World)(o:Oper):Res→Prop
  | .put ob v=>ob→∃u,(execOp a.eval o).run P w=.ok (.value u) w∧v.is ρ u
  | .sto ob k cs=>ob→∃w',(execOp a.eval o).run P w=.ok .skip w'∧Gam c n {s with hp:=upH s.hp k cs} ρ a w'
  | .new D cs=>D.ob→∃(arr:Array Value) (u:Value),(execOp a.eval o).run P w=.ok (.value u) (w.alloc (.cells arr D.T))∧(∀k,(D.av k).is (upd ρ k (some ⟨w.heap.size,arr.size⟩)) u)∧
      isL ρ cs arr.toList∧∀k,(∀t,k∉(lk s.env t).ment)→k∉mentL cs
  | .call f args=>callsB P f=true→∃us,isL ρ args us∧(execOp a.eval o).run P w=.ok (.enter f us.toArray) w
  | .gen G=>∀K,genR P s o.dst K G→dOK n o.dst→∃u w' s' ρ',(execOp a.eval o).run P w=.ok (.value u) w'∧K s'∧Gam c n s' ρ' (a.put o.dst u) w'
  | _=>True
variable {o:Oper}
theorem sound_put1{x:Option (Bool×Value)}{f:Value→Option (Prop×Value)}(h:∀g u ob v,x=some (g,u)→g=true→f u=some (ob,v)→ob→(execOp a.eval o).run P w=.ok (.value v) w):Sound P c n s ρ a w o (put1 x f):=by
  unfold put1
  split
  · split
    · rintro ⟨h1,h2⟩;exact ⟨_,h _ _ _ _ rfl h1 (by assumption) h2,rfl⟩
    · trivial
  · trivial
theorem sound_putA{x:Option (Bool×Value)}{f:Value→Option (Prop×Value)}(h:∀g u ob v,x=some (g,u)→g=true→f u=some (ob,v)→ob→(execOp a.eval o).run P w=.ok (.value v) w):Sound P c n s ρ a w o (putA x f):=by
  unfold putA
  split
  · split
    · rintro ⟨h1,h2⟩;exact ⟨_,h _ _ _ _ rfl h1 (by assumption) h2,rfl⟩
    · trivial
  · trivial
theorem sound_put2{x y:Option (Bool×Value)}{f:Value→Value→Option (Prop×Value)}(h:∀g u g' u' ob v,x=some (g,u)→g=true→y=some (g',u')→g'=true→f u u'=some (ob,v)→ob→(execOp a.eval o).run P w=.ok (.value v) w):Sound P c n s ρ a w o (put2 x y f):=by
  unfold put2
  split
  · split
    · rintro ⟨h1,h2,h3⟩;exact ⟨_,h _ _ _ _ _ _ rfl h1 rfl h2 (by assumption) h3,rfl⟩
    · trivial
  · trivial
theorem sound_addOb{g:Bool}{r:Res}(h:g=true→Sound P c n s ρ a w o r):Sound P c n s ρ a w o (addOb g r):=by
  cases r<;>first|trivial|exact fun ⟨h1,h2⟩=>h h1 h2
theorem isL_get?{l:List AV}{us:List Value}{i:Nat}{v:AV}(h:isL ρ l us)(hv:l[i]? = some v):us[i]? = some (us.getD i undef)∧v.is ρ (us.getD i undef):=by
  have h1:=isL_length h
  have h2:i<us.length:=by have:=(List.getElem?_eq_some_iff.1 hv).1;omega
  exact ⟨by simp[h2],isL_get h i v hv⟩
theorem sound_loadH{T:TypeId}{x:Operand}(hop:o.op=.load T x)(h:Gam c n s ρ a w){g:Bool}{k off:Nat}(hx:g=true→∃b,ρ k=some b∧a.eval x=ptr b.b off):Sound P c n s ρ a w o (loadH P T g off (lkH s.hp k)):=by
  cases hk:lkH s.hp k with
  | none=>trivial
  | some r2=>
    obtain ⟨T',cs⟩:=r2
    refine sound_addOb fun hg=>?_
    obtain ⟨b,hb,e⟩:=hx hg
    obtain ⟨⟨arr,h1⟩,_⟩:=h.hp k T' cs b hk hb
    cases hr:loadR P T cs off with
    | put ob v=>
      intro ho
      obtain ⟨u,hu,hv⟩:=load_ok (P:=P) hr ho h1
      refine ⟨u,?_,hv⟩
      simp only[execOp,hop,e,Sem.run_bind,hu,Sem.run_pure,Result.andThen_ok]
    | bad=>trivial
    | ask=>trivial
    | sto _ _ _ => unfold loadR at hr; split at hr <;> try cases hr
                   split at hr<;>cases hr
    | new _ _ => unfold loadR at hr; split at hr <;> try cases hr
                 split at hr<;>cases hr
    | call _ _ => unfold loadR at hr; split at hr <;> try cases hr
                  split at hr<;>cases hr
    | gen _ => unfold loadR at hr; split at hr <;> try cases hr
               split at hr<;>cases hr
theorem sound_load{T:TypeId}{x:Operand}(hop:o.op=.load T x)(h:Gam c n s ρ a w):Sound P c n s ρ a w o (loadX P s T (Sx.ev s x)):=by
  have hev:=h.ev x
  have hext:∀g u,(Sx.ev s x).val=some (g,u)→Sound P c n s ρ a w o (put1 (some (g,u)) (loadV P s T)):=fun g u hx=>sound_put1 fun g' u' ob v e hg hf ho=>by
    cases e
    have e2:=val_is hx hg hev
    unfold loadV at hf
    simp only[Option.map_eq_some_iff,Prod.mk.injEq]at hf
    obtain ⟨v',h1,rfl,rfl⟩:=hf
    have:=lookM_ok (P:=P) (w:=w) h.sub h1
    simp only[execOp,hop,e2,Sem.run_bind,this,Sem.run_pure,Result.andThen_ok]
  cases hx:Sx.ev s x with
  | own k off=>rw[hx]at hev;exact sound_loadH hop h fun _=>hev
  | gown g k off=>
    rw[hx]at hev
    have hev:if g=true then ∃b,ρ k=some b∧a.eval x=ptr b.b off else a.eval x=undef:=hev
    exact sound_loadH hop h fun hg=>by rw[if_pos hg]at hev;exact hev
  | ext u=>exact hext true u (by rw[hx];rfl)
  | gd g u=>
    cases g with
    | true=>exact hext true u (by rw[hx];rfl)
    | false=>simp only[loadX];unfold zeroR;split<;>first|trivial|(intro ho;exact ho.elim)
  | _=>trivial
theorem sound_store{T:TypeId}{x y:Operand}(hop:o.op=.store T x y)(h:Gam c n s ρ a w):Sound P c n s ρ a w o (storeX P s T (Sx.ev s y) (Sx.ev s x).ptr?):=by
  cases hx:(Sx.ev s x).ptr? with
  | none=>trivial
  | some r=>
    obtain ⟨g,k,off⟩:=r
    simp only[storeX]
    cases hk:lkH s.hp k with
    | none=>trivial
    | some r2=>
      obtain ⟨T',cs⟩:=r2
      refine sound_addOb fun hg=>?_
      obtain ⟨b,hb,e⟩:=ptr_is hx hg (h.ev x)
      obtain ⟨⟨arr,h1⟩,_⟩:=h.hp k T' cs b hk hb
      have key:∀ob k' cs',storeR P T k cs off (Sx.ev s y)=.sto ob k' cs'→Sound P c n s ρ a w o (.sto ob k' cs'):=fun ob k' cs' hr ho=>by
        obtain ⟨w',arr',r1,r2,rfl,r4⟩:=store_ok (P:=P) hr ho h1 (h.ev y)
        refine ⟨w',?_,h.sto hk hb r2 r4⟩
        simp only[execOp,hop,e,Sem.run_bind,r1,Sem.run_pure,Result.andThen_ok]
      unfold storeR at key ⊢
      split
      · split
        · exact key _ _ _ (by simp only[*])
        · trivial
      · exact key _ _ _ (by simp only[*])
      · trivial
theorem sound_field{S f:Nat}{x:Operand}(hop:o.op=.field S x f)(h:Gam c n s ρ a w):Sound P c n s ρ a w o (fieldO P S f (unG (Sx.ev s x))):=by
  cases hx:unG (Sx.ev s x) with
  | none=>trivial
  | some r=>
    obtain ⟨g,v⟩:=r
    refine sound_addOb fun hg=>?_
    have hv:=unG_ok hx hg (h.ev x)
    unfold fieldX
    split
    · rename_i l off T hl hoff
      obtain ⟨us,hu,hus⟩:=cellsG_ok hl hv
      have hul:=isL_length hus
      unfold fOff at hoff
      split at hoff
      · rename_i fs hS
        simp only[Option.map_eq_some_iff,Prod.mk.injEq]at hoff
        obtain ⟨fd,hfd,rfl,rfl⟩:=hoff
        have hrun:∀r,(part fd.type us.toArray fd.offset).run P w=.ok r w→(execOp a.eval o).run P w=.ok (.value r) w:=fun r hr=>by
          simp only[execOp,hop,hu,Instr.field,Sem.run_bind,run_underlying hS,Result.andThen_ok,hfd,asAgg,Sem.run_pure,hr]
        split
        · rename_i m hk hs
          intro ho
          refine ⟨_,hrun (.agg ((us.drop fd.offset).take m).toArray) ?_,aggA_ok (isL_take _ (isL_drop _ hus))⟩
          obtain ⟨d,hd,hrow⟩:=kindT_true hk
          have hagg:(isAgg fd.type).run P w=.ok true w:=by
            unfold isAgg
            rw[Sem.run_bind,run_underlying hd w]
            cases d<;>simp[TypeDesc.isRow]at hrow<;>rfl
          unfold szO at hs
          simp only[Option.map_eq_some_iff]at hs
          obtain ⟨it,hit,rfl⟩:=hs
          have hsz:(sizeOf fd.type).run P w=.ok it.size w:=by simp[sizeOf,typeInfo,hit]
          simp only[part,Sem.run_bind,hagg,Result.andThen_ok,if_true,hsz,Sem.run_pure]
          congr 2
          rw[←Array.toList_inj]
          simp[List.extract]
        · rename_i m hk hs
          split
          · rename_i v' hv'
            intro _
            obtain ⟨h1,h2⟩:=isL_get? hus hv'
            refine ⟨_,hrun _ ?_,h2⟩
            have h3:us.toArray[fd.offset]? = some (us.getD fd.offset undef):=by simpa using h1
            simp only[part,Sem.run_bind,kindT_false hk,Result.andThen_ok,Bool.false_eq_true,if_false,h3,Sem.run_pure]
          · trivial
        · trivial
      · cases hoff
    · trivial
theorem sound_ext{i:Nat}{x:Operand}(hop:o.op=.extract x i)(h:Gam c n s ρ a w):Sound P c n s ρ a w o (extR i (unG (Sx.ev s x))):=by
  unfold extR
  split
  · rename_i g vs hx
    split
    · rename_i v hv
      intro hg
      have h1:a.eval x=.tuple vs:=unG_ok hx hg (h.ev x)
      refine ⟨v,?_,rfl⟩
      simp only[execOp,hop,h1,Sem.run_bind,Instr.extract,hv,Sem.run_pure,Result.andThen_ok]
    · trivial
  · rename_i g l hx
    split
    · rename_i v hv
      intro hg
      obtain ⟨us,hus,h1⟩:=unG_ok hx hg (h.ev x)
      obtain ⟨h2,h3⟩:=isL_get? hus hv
      refine ⟨_,?_,h3⟩
      have h4:us.toArray[i]? = some (us.getD i undef):=by simpa using h2
      simp only[execOp,hop,h1,aggV,if_true,Sem.run_bind,Instr.extract,h4,Sem.run_pure,Result.andThen_ok]
    · trivial
  · trivial
theorem slcT_ok{T e:TypeId}(h:slcT P T=some e):P.underlying T=some (.slice e):=by
  unfold slcT at h;split at h
  · cases h;assumption
  · cases h
theorem arrT_ok{T e:TypeId}{m:Nat}(h:arrT P T=some (m,e)):P.underlying T=some (.array m e):=by
  unfold arrT at h;split at h
  · cases h;assumption
  · cases h
theorem szO_run{T:TypeId}{z:Nat}(h:szO P T=some z):(sizeOf T).run P w=.ok z w:=by
  unfold szO at h
  simp only[Option.map_eq_some_iff]at h
  obtain ⟨it,hit,rfl⟩:=h
  simp[sizeOf,typeInfo,hit]
theorem addr_add(b off i:Nat):(Addr.add ⟨b,off,none⟩ i)=⟨b,off+i,none⟩:=Addr.add_mid b off i
theorem run_idx_slice{T e:TypeId}{A:Addr}{m cap:Nat}{k:IntKind}{i:Int}{z:Nat}(hT:P.underlying T=some (.slice e))(hz:szO P e=some z)(h0:0≤i)(h1:i<m) :
    (Instr.indexAt T (.slice (some A) m cap) (.int k i)).run P w=.ok (.pointer (some (A.add (i.toNat*z)))) w:=by
  simp[Instr.indexAt,asIntOf,run_underlying hT,h0,h1,szO_run hz]
theorem sound_idx{T:TypeId}{x y:Operand}(hop:o.op=.indexAddr T x y)(h:Gam c n s ρ a w):Sound P c n s ρ a w o (idxR P T (Sx.ev s x) (Sx.ev s y).val):=by
  unfold idxR
  split
  · rename_i g kk i hy
    refine sound_addOb fun hg=>?_
    have hey:=val_is hy hg (h.ev y)
    have hrun:∀r,(Instr.indexAt T (a.eval x) (.int kk i)).run P w=.ok r w→(execOp a.eval o).run P w=.ok (.value r) w:=fun r hr=>by
      simp only[execOp,hop,hey,Sem.run_bind,hr,Sem.run_pure,Result.andThen_ok]
    have hev:=h.ev x
    unfold idxA
    split
    · rename_i e he
      have hT:=slcT_ok he
      split
      · rename_i z hz
        have hext:∀v,a.eval x=v→isSl v=true→nilS v=false→0≤i→i<slen v→(execOp a.eval o).run P w=.ok (.value (elemP v z i.toNat)) w:=fun v hv h1 h2 h3 h4=>by
          cases v<;>try cases h1
          rename_i A m cap
          cases A with
          | none=>cases h2
          | some A=>exact hrun _ (by rw[hv];exact run_idx_slice hT hz h3 h4)
        split
        · rename_i k off m z' hx
          rintro ⟨rfl,h1,h2⟩
          rw[hx]at hev
          rcases hev with ⟨b,cap,hb,e2,e3,e4⟩|⟨e2,_⟩
          · refine ⟨ptr b.b (off+i.toNat*z'),hrun _ ?_,b,hb,rfl⟩
            rw[e2,run_idx_slice hT hz h1 h2,addr_add];rfl
          · omega
        · rename_i v hx
          rintro ⟨h1,h2,h3,h4⟩
          rw[hx]at hev
          exact ⟨_,hext v hev h1 h2 h3 h4,rfl⟩
        · rename_i g' v hx
          rintro ⟨h0,h1,h2,h3,h4⟩
          rw[hx]at hev
          have hev:a.eval x=if g'=true then v else undef:=hev
          rw[if_pos h0]at hev
          exact ⟨_,hext v hev h1 h2 h3 h4,rfl⟩
        · trivial
      · trivial
    · split
      · rename_i m e he
        have hT:=arrT_ok he
        split
        · rename_i z k off hz hx
          rintro ⟨h1,h2⟩
          rw[hx]at hev
          obtain ⟨b,hb,e2⟩:=hev
          refine ⟨ptr b.b (off+i.toNat*z),hrun _ ?_,b,hb,rfl⟩
          rw[e2]
          simp[Instr.indexAt,asIntOf,run_underlying hT,h1,h2,szO_run hz,ptr,Instr.sureAddr,addr_add]
        · trivial
      · trivial
  · trivial
theorem byteAt_ok(x:ByteArray)(i:Nat)(h:i<x.size):((x[i]).toNat:Int)=byteAt x i:=by
  unfold byteAt
  have h1:i<x.data.toList.length:=by simpa using h
  rw[List.getD_eq_getElem?_getD,List.getElem?_eq_getElem h1]
  rfl
theorem sound_index{T:TypeId}{x y:Operand}(hop:o.op=.index T x y)(h:Gam c n s ρ a w):Sound P c n s ρ a w o (put2 (Sx.ev s x).val (Sx.ev s y).val (indV P T)):=by
  refine sound_put2 fun g u g' u' ob v hx hg hy hg' hf ho=>?_
  have e1:=val_is hx hg (h.ev x)
  have e2:=val_is hy hg' (h.ev y)
  have hrun:∀r,(Instr.index T u u').run P w=.ok r w→(execOp a.eval o).run P w=.ok (.value r) w:=fun r hr=>by
    simp only[execOp,hop,e1,e2,Sem.run_bind,hr,Sem.run_pure,Result.andThen_ok]
  refine hrun _ ?_
  unfold indV at hf
  split at hf
  · split at hf
    · rename_i hs
      unfold isStrT at hs
      split at hs
      · rename_i hT
        simp only[Option.some.injEq,Prod.mk.injEq]at hf
        obtain ⟨rfl,rfl⟩:=hf
        rw[run_index_string w _ _ _ _ hT,dif_pos ho,byteAt_ok]
      · cases hs
    · split at hf
      · rename_i m e he
        have hT:=arrT_ok he
        split at hf
        · rename_i z hk hz
          split at hf
          · rename_i v' hv'
            simp only[Option.some.injEq,Prod.mk.injEq]at hf
            obtain ⟨rfl,rfl⟩:=hf
            simp[Instr.index,asIntOf,run_underlying hT,ho.1,ho.2,szO_run hz,part,kindT_false hk,hv']
          · cases hf
        · cases hf
      · cases hf
    · cases hf
  · cases hf
theorem bndO_ok(h:Gam c n s ρ a w){x:Option Operand}{d i:Int}{ob:Prop}(hb:bndO s d x=some (ob,i))(ho:ob):(x=none∧i=d)∨∃y k,x=some y∧a.eval y=.int k i:=by
  unfold bndO at hb
  split at hb
  · simp only[Option.some.injEq,Prod.mk.injEq]at hb;exact .inl ⟨rfl,hb.2.symm⟩
  · rename_i y
    split at hb
    · rename_i g k j hy
      simp only[Option.some.injEq,Prod.mk.injEq]at hb
      obtain ⟨rfl,rfl⟩:=hb
      exact .inr ⟨y,k,rfl,val_is hy ho (h.ev y)⟩
    · cases hb
theorem run_bounds(isS:Bool)(m cap:Nat){lo hi:Option Value}{l h:Int}(hl:(lo=none∧l=0)∨∃k,lo=some (.int k l))(hh:(hi=none∧h=m)∨∃k,hi=some (.int k h))(h0:0≤l)(h1:l≤h)(h2:h≤cap) :
    (Instr.sliceBounds isS m cap lo hi none).run P w=.ok (l.toNat,h.toNat,cap) w:=by
  have e:((h.toNat:Nat):Int)=h:=Int.toNat_of_nonneg (by omega)
  have h3:0≤h:=by omega
  rcases hl with ⟨rfl,rfl⟩|⟨k,rfl⟩<;>rcases hh with ⟨rfl,rfl⟩|⟨k',rfl⟩
  · simp[Instr.sliceBounds]
  · simp[Instr.sliceBounds,Instr.sliceBound,asIntOf,h3,h2]
  · simp[Instr.sliceBounds,Instr.sliceBound,asIntOf,h0,h1]
  · simp[Instr.sliceBounds,Instr.sliceBound,asIntOf,h0,h1,h3,h2,e]
theorem sound_sliceV{T:TypeId}{x:Operand}{lo hi:Option Operand}{f:Unit→AV}(hop:o.op=.slice T x lo hi none)(h:Gam c n s ρ a w)(hev:(f ()).is ρ (a.eval x)):Sound P c n s ρ a w o (slcR P s T (f ()) lo hi):=by
  have hb:∀{y:Option Operand} {d i:Int} {ob:Prop},bndO s d y=some (ob,i)→ob→(y.map a.eval=none∧i=d)∨∃k,y.map a.eval=some (.int k i):=fun hb ho=>by
    rcases bndO_ok h hb ho with ⟨rfl,e⟩|⟨y,k,rfl,e⟩
    · exact .inl ⟨rfl,e⟩
    · exact .inr ⟨k,by simp[e]⟩
  have hrun:∀r,(Instr.sliceAt T (a.eval x) (lo.map a.eval) (hi.map a.eval) none).run P w=.ok r w→(execOp a.eval o).run P w=.ok (.value r) w:=fun r hr=>by
    simp only[execOp,hop,Sem.run_bind,Option.map_none,hr,Sem.run_pure,Result.andThen_ok]
  unfold slcR
  split
  · rename_i e k off m z' he hx
    have hT:=slcT_ok he
    split
    · rename_i z o1 l o2 hh hz hl' hh'
      rintro ⟨rfl,ho1,ho2,h0,h1,h2⟩
      rw[hx]at hev
      rcases hev with ⟨b,cap,hb',e2,e3,e4⟩|⟨e2,A,hA,e3⟩
      · have hbd:=run_bounds (P:=P) (w:=w) true m cap (hb hl' ho1) (hb hh' ho2) h0 h1 (by omega)
        refine ⟨.slice (if cap=l.toNat then some ⟨b.b,off,none⟩ else some ⟨b.b,off+l.toNat*z',none⟩) (hh.toNat-l.toNat) (cap-l.toNat),hrun _ ?_,?_⟩
        · rw[e2]
          simp only[Instr.sliceAt,Sem.run_bind,run_underlying hT,Result.andThen_ok,Instr.slice,hbd,szO_run hz,Sem.run_pure,Option.map_some,addr_add]
        · by_cases hc:cap=l.toNat
          · rw[if_pos hc]
            refine .inr ⟨by omega,some ⟨b.b,off,none⟩,fun x e=>by cases e;rfl,?_⟩
            rw[show hh.toNat-l.toNat=0 by omega,show cap-l.toNat=0 by omega]
          · rw[if_neg hc]
            refine .inl ⟨b,cap-l.toNat,hb',rfl,by omega,?_⟩
            have:l.toNat≤cap:=by omega
            rw[Nat.sub_mul]
            have:=Nat.mul_le_mul_right z' this
            omega
      · subst e2
        have hbd:=run_bounds (P:=P) (w:=w) true 0 0 (hb hl' ho1) (hb hh' ho2) h0 h1 (by omega)
        refine ⟨.slice A 0 0,hrun _ ?_,.inr ⟨by omega,A,hA,rfl⟩⟩
        have hl0:l.toNat=0:=by omega
        have hh0:hh.toNat=0:=by omega
        rw[e3]
        simp only[Instr.sliceAt,Sem.run_bind,run_underlying hT,Result.andThen_ok,Instr.slice,hbd,szO_run hz,Sem.run_pure,hl0,hh0,if_true]
    · trivial
  · rename_i e v he hx
    have hT:=slcT_ok he
    split
    · rename_i z o1 l o2 hh hz hl' hh'
      rintro ⟨hs,ho1,ho2,h0,h1,h2⟩
      rw[hx]at hev
      have hev:a.eval x=v:=hev
      obtain ⟨A, m, cap, rfl⟩ : ∃ A m cap, v = .slice A m cap := by cases v <;> try cases hs
                                                                    exact ⟨_,_,_,rfl⟩
      have hbd:=run_bounds (P:=P) (w:=w) true m cap (hb hl' ho1) (hb hh' ho2) h0 h1 h2
      refine ⟨_,hrun _ ?_,rfl⟩
      rw[hev]
      simp only[Instr.sliceAt,Sem.run_bind,run_underlying hT,Result.andThen_ok,Instr.slice,hbd,szO_run hz,Sem.run_pure,subS]
    · trivial
  · rename_i v hn hx
    split
    · rename_i o1 l o2 hh hl' hh'
      rintro ⟨hs,ho1,ho2,h0,h1,h2⟩
      rw[hx]at hev
      have hev:a.eval x=.string v:=hev
      have hbd:=run_bounds (P:=P) (w:=w) false v.size v.size (hb hl' ho1) (hb hh' ho2) h0 h1 h2
      unfold isStrT at hs
      split at hs
      · rename_i hT
        refine ⟨_,hrun _ ?_,rfl⟩
        rw[hev]
        simp only[Instr.sliceAt,Sem.run_bind,run_underlying hT,Result.andThen_ok,Instr.slice,Option.isSome_none,Bool.false_eq_true,if_false,hbd,Sem.run_pure]
      · cases hs
    · trivial
  · trivial
theorem sound_sliceO{T:TypeId}{x:Operand}{lo hi:Option Operand}{k off:Nat}(hop:o.op=.slice T x lo hi none)(h:Gam c n s ρ a w)(hev:AV.is ρ (.own k off) (a.eval x)):Sound P c n s ρ a w o (slcO P s T k off lo hi (lkH s.hp k)):=by
  have hb:∀{y:Option Operand} {d i:Int} {ob:Prop},bndO s d y=some (ob,i)→ob→(y.map a.eval=none∧i=d)∨∃k,y.map a.eval=some (.int k i):=fun hb ho=>by
    rcases bndO_ok h hb ho with ⟨rfl,e⟩|⟨y,k,rfl,e⟩
    · exact .inl ⟨rfl,e⟩
    · exact .inr ⟨k,by simp[e]⟩
  have hrun:∀r,(Instr.sliceAt T (a.eval x) (lo.map a.eval) (hi.map a.eval) none).run P w=.ok r w→(execOp a.eval o).run P w=.ok (.value r) w:=fun r hr=>by
    simp only[execOp,hop,Sem.run_bind,Option.map_none,hr,Sem.run_pure,Result.andThen_ok]
  unfold slcO
  split
  · rename_i T' cs hk
    split
    · rename_i m e he
      have hT:=arrT_ok he
      split
      · rename_i z o1 l o2 hh hz hl' hh'
        rintro ⟨ho1,ho2,h0,h1,h2,h3⟩
        obtain ⟨b,hb',e2⟩:=hev
        obtain ⟨⟨arr,r⟩,-,-⟩:=h.hp k T' cs b hk hb'
        have hle:cs.length≤b.n:=r.le
        have hbd:=run_bounds (P:=P) (w:=w) false m m (hb hl' ho1) (hb hh' ho2) h0 h1 h2
        refine ⟨.slice (some (if m=l.toNat then ⟨b.b,off,none⟩ else ⟨b.b,off+l.toNat*z,none⟩)) (hh.toNat-l.toNat) (m-l.toNat),hrun _ ?_,?_⟩
        · rw[e2]
          simp only[Instr.sliceAt,Sem.run_bind,run_underlying hT,Result.andThen_ok,ptr,Instr.sureAddr,hbd,szO_run hz,Sem.run_pure,addr_add]
        · by_cases hc:m=l.toNat
          · rw[if_pos hc]
            refine .inr ⟨by omega,some ⟨b.b,off,none⟩,fun x e=>by cases e;rfl,?_⟩
            rw[show hh.toNat-l.toNat=0 by omega,show m-l.toNat=0 by omega]
          · rw[if_neg hc]
            refine .inl ⟨b,m-l.toNat,hb',rfl,by omega,?_⟩
            have:l.toNat≤m:=by omega
            rw[Nat.sub_mul]
            have:=Nat.mul_le_mul_right z this
            omega
      · trivial
    · trivial
  · trivial
theorem sound_slice{T:TypeId}{x:Operand}{lo hi:Option Operand}(hop:o.op=.slice T x lo hi none)(h:Gam c n s ρ a w):Sound P c n s ρ a w o (slcG P s T (Sx.ev s x) lo hi):=by
  have hev:=h.ev x
  cases hx:Sx.ev s x with
  | gd g v=>
    rw[hx]at hev
    exact sound_addOb fun hg=>sound_sliceV (f:=fun _=>.ext v) hop h (by subst hg;simpa [AV.is] using hev)
  | own k off=>
    rw[hx]at hev
    exact sound_sliceO hop h hev
  | _=>
    rw[hx]at hev
    exact sound_sliceV (f:=fun _=>_) hop h hev
theorem sound_conv{S T:TypeId}{x:Operand}(hop:o.op=.convert S T x)(h:Gam c n s ρ a w):Sound P c n s ρ a w o (putA (Sx.ev s x).val (conV P S T)):=by
  refine sound_putA fun g u ob v hx hg hf ho=>?_
  have e1:=val_is hx hg (h.ev x)
  have hrun:∀r,(convert S T u).run P w=.ok r w→(execOp a.eval o).run P w=.ok (.value r) w:=fun r hr=>by
    simp only[execOp,hop,e1,Sem.run_bind,hr,Sem.run_pure,Result.andThen_ok]
  refine hrun _ ?_
  unfold conV at hf
  split at hf
  · rename_i k hk
    split at hf
    · rename_i k2 k3 m hk2
      simp only[Option.some.injEq,Prod.mk.injEq]at hf
      obtain ⟨rfl,rfl⟩:=hf
      unfold intT at hk hk2
      split at hk
      · rename_i hT
        cases hk
        split at hk2
        · rename_i hS
          simp[convert,run_underlying hS,run_underlying hT,Conv.intToInt]
        · cases hk2
      · cases hk
    · cases hf
  · split at hf
    · rename_i h1 h2
      simp only[Option.some.injEq,Prod.mk.injEq]at hf
      obtain ⟨rfl,rfl⟩:=hf
      unfold isStrT at h1 h2
      split at h1
      · rename_i hT
        split at h2
        · rename_i hS
          simp[convert,run_underlying hS,run_underlying hT]
        · cases h2
      · cases h1
    · rename_i m h1 h2
      split at hf
      · rename_i hS
        simp only[Option.some.injEq,Prod.mk.injEq]at hf
        obtain ⟨rfl,rfl⟩:=hf
        unfold isStrT at h1
        split at h1
        · rename_i hT
          obtain ⟨k2,hk2⟩:=Option.isSome_iff_exists.1 hS
          unfold intT at hk2
          split at hk2
          · rename_i k3 hS3
            exact run_convert_int_string w S T _ _ (by rw[hS3];rfl) hT
          · cases hk2
        · cases h1
      · cases hf
    · cases hf
theorem bytesA_ok:∀{l:List AV} {us:List Value} {ob:Prop} {b:List UInt8},isL ρ l us→bytesA l=some (ob,b)→ob→us=b.map fun x=>Value.int .u8 (x.toNat:Int)
  | [],us,ob,b,hl,hb,_=>by
    simp only[bytesA,Option.some.injEq,Prod.mk.injEq]at hb
    obtain ⟨_,rfl⟩:=hb
    simpa [isL] using hl
  | v :: r,us,ob,b,hl,hb,ho=>by
    obtain ⟨u,us',rfl,hu,hr⟩:=hl
    unfold bytesA at hb
    split at hb
    · rename_i e;cases e
    · rename_i n r2 e
      cases e
      split at hb
      · rename_i ob2 l2 h2
        simp only[Option.some.injEq,Prod.mk.injEq]at hb
        obtain ⟨rfl,rfl⟩:=hb
        obtain ⟨h0,h1,h3⟩:=ho
        have ih:=bytesA_ok hr h2 h3
        have hu:u=.int .u8 n:=hu
        rw[List.map_cons,ih,hu]
        congr 2
        rw[UInt8.toNat_ofNat',Nat.mod_eq_of_lt (by omega)]
        omega
      · cases hb
    · cases hb
theorem sound_convX{S T:TypeId}{x:Operand}(hop:o.op=.convert S T x)(h:Gam c n s ρ a w):Sound P c n s ρ a w o (convX P s S T (Sx.ev s x)):=by
  have h0:=sound_conv (P:=P) hop h
  cases hx:Sx.ev s x with
  | slo k off m z=>
    have hev:=h.ev x
    rw[hx]at hev
    simp only[convX]
    cases hk:lkH s.hp k with
    | none=>trivial
    | some r=>
      obtain ⟨T0,cs⟩:=r
      unfold strH
      simp only
      split
      · rename_i ob l E hb hE
        split
        · rename_i hI
          rintro ⟨rfl,hfit,hT,ho⟩
          refine ⟨_,?_,rfl⟩
          unfold isStrT at hT
          split at hT
          case h_2=>cases hT
          rename_i hT2
          have hS:=slcT_ok hE
          unfold intT at hI
          split at hI
          case h_2=>cases hI
          rename_i hE2
          cases hI
          have hrun:(convert S T (a.eval x)).run P w=.ok (.string ⟨l.toArray⟩) w:=by
            rcases hev with ⟨b,cap,hb2,e2,e3,e4⟩|⟨rfl,A,hA,e2⟩
            · obtain ⟨⟨arr,hr⟩,_⟩:=h.hp k T0 cs b hk hb2
              have hp:=hr.part (off:=off) (m:=m) hfit
              have hbs:=bytesA_ok hp hb ho
              have hle:=hr.le
              have hln:=congrArg List.length hbs
              rw[List.length_map,List.length_take,List.length_drop,Array.length_toList,hr.size]at hln
              have hlm:l.length=m:=by omega
              rw[e2,←hlm]
              refine run_convert_bytes_back w S T E ⟨b.b,off,none⟩ cap l hS hE2 hT2 fun j hj=>?_
              have hj2:=congrArg (fun q:List Value=>q[j]?) hbs
              try simp only at hj2
              rw[List.getElem?_map,List.getElem?_eq_getElem hj,List.getElem?_take_of_lt (by omega),List.getElem?_drop]at hj2
              rw[addr_add,cell_of hr.there]
              simpa using hj2
            · have hl:l=[]:=by
                simp only[List.take_zero,bytesA,Option.some.injEq,Prod.mk.injEq]at hb
                exact hb.2.symm
              subst hl
              rw[e2]
              cases A with
              | none=>exact Lib.run_convert_nil_bytes w S T E 0 hS hE2 hT2
              | some A=>exact run_convert_bytes_back w S T E A 0 [] hS hE2 hT2 (fun j hj=>by simp at hj)
          simp only[execOp,hop,Sem.run_bind,hrun,Sem.run_pure,Result.andThen_ok]
        · trivial
      · trivial
  | _=>rw[hx]at h0;exact h0
theorem away_ev{k:Nat}(h:∀t,k∉(lk s.env t).ment)(x:Operand):k∉(Sx.ev s x).ment:=by
  cases x with
  | tmp t=>exact h t
  | const v=>simp[Sx.ev,AV.ment]
  | global g=>simp[Sx.ev,AV.ment]
  | func f=>simp[Sx.ev,AV.ment,mentL]
theorem cellsA_ment{v:AV}{l:List AV}(h:cellsA v=some l):mentL l=v.ment:=by
  cases v with
  | ag t l'=>cases t<;>simp only[cellsA,Option.some.injEq,reduceCtorEq]at h;subst h;rfl
  | ext x=>simp only[cellsA,Option.some.injEq]at h;subst h;simp only[AV.ment];exact mentL_ext _
  | own k o=>simp only[cellsA,Option.some.injEq]at h;subst h;simp[mentL]
  | fn f ks=>simp only[cellsA,Option.some.injEq]at h;subst h;simp[mentL]
  | bm f ks=>simp only[cellsA,Option.some.injEq]at h;subst h;simp[mentL]
  | slo k o n z=>simp only[cellsA,Option.some.injEq]at h;subst h;simp[mentL]
  | _=>simp[cellsA]at h
theorem cellsG_ment{v:AV}{l:List AV}(h:cellsG v=some l):mentL l=v.ment:=by
  cases v with
  | ag t l'=>cases t<;>simp only[cellsG,Option.some.injEq,reduceCtorEq]at h;subst h;rfl
  | ext x=>cases x<;>simp only[cellsG,Option.some.injEq,reduceCtorEq]at h;subst h;simp only[AV.ment];exact mentL_ext _
  | _=>simp[cellsG]at h
theorem mentL_take{k:Nat}{l:List AV}{i:Nat}(h:k∈mentL (l.take i)):k∈mentL l:=by
  obtain ⟨v,h1,h2⟩:=mentL_mem h
  exact mentL_of (List.mem_of_mem_take h1) h2
theorem mentL_drop{k:Nat}{l:List AV}{i:Nat}(h:k∈mentL (l.drop i)):k∈mentL l:=by
  obtain ⟨v,h1,h2⟩:=mentL_mem h
  exact mentL_of (List.mem_of_mem_drop h1) h2
theorem unG_ment{v x:AV}{g:Bool}(h:unG v=some (g,x)):x.ment=v.ment:=by
  cases v<;>simp only[unG,Option.some.injEq,Prod.mk.injEq,reduceCtorEq]at h<;>obtain ⟨_,rfl⟩:=h<;>simp[AV.ment]
theorem partC_ment{m:Nat}{k:Bool}{v:AV}{ob:Prop}{l:List AV}(h:partC m k v=some (ob,l)):mentL l=v.ment:=by
  unfold partC at h
  split at h
  · split at h
    · rename_i hl;cases h;exact cellsG_ment hl
    · cases h
  · cases h;simp[mentL]
theorem buildL_ment{k:Nat}{pl:List (Nat×Nat×Bool)}:∀(parts:List (Nat×AV)) (cells out:List AV) (ob:Prop),buildL pl cells parts=some (ob,out)→k∉mentL cells→(∀p∈parts,k∉p.2.ment)→k∉mentL out
  | [],cells,out,ob,h,hc,_=>by simp only[buildL,Option.some.injEq,Prod.mk.injEq]at h;rw[←h.2];exact hc
  | (i,x) :: r,cells,out,ob,h,hc,hp=>by
    simp only[buildL]at h
    split at h
    · rename_i off m kk g v hpl hx
      split at h
      · rename_i ob1 vs hc1
        split at h
        · rename_i ob2 out2 hb
          simp only[Option.some.injEq,Prod.mk.injEq]at h
          obtain ⟨rfl,rfl⟩:=h
          refine buildL_ment r _ _ _ hb ?_ fun p hp'=>hp p (by simp[hp'])
          simp only[mentL_append,List.mem_append,not_or]
          refine ⟨fun h=>hc (mentL_take h),?_,fun h=>hc (mentL_drop h)⟩
          rw[partC_ment hc1,unG_ment hx]
          exact hp (i,x) (by simp)
        · cases h
      · cases h
    · cases h
theorem parts_ok(h:Gam c n s ρ a w)(ps:Array (Nat×Operand)):Parts ρ (ps.toList.map fun p=>(p.1,Sx.ev s p.2)) (ps.map fun (i,x)=>(i,a.eval x)).toList:=by
  refine ⟨by simp[Function.comp_def],?_⟩
  have:=gam_isL h (ps.toList.map (·.2))
  simpa [Function.comp_def] using this
theorem sound_box{T:TypeId}{x:Operand}(hop:o.op=.box T x)(h:Gam c n s ρ a w):Sound P c n s ρ a w o (boxR T (Sx.ev s x)):=by
  unfold boxR
  split
  · rename_i l hl
    intro _
    refine ⟨(a.eval x).cells,ptr w.heap.size 0,?_,fun k=>⟨_,upd_self _ _ _,rfl⟩,cellsA_ok hl (h.ev x),fun k hk=>by rw[cellsA_ment hl];exact away_ev hk x⟩
    simp only[execOp,hop,Instr.box,Sem.run_bind,Result.andThen_ok,newVar_ok,Sem.run_pure]
    rfl
  · trivial
theorem sound_alloc{T:TypeId}(hop:o.op=.alloc T)(h:Gam c n s ρ a w):Sound P c n s ρ a w o (match zeroC P T with|some cs=>.new ⟨True,T,none⟩ (cs.map .ext)|none=>.bad):=by
  split
  · rename_i z hz
    intro _
    obtain ⟨zv,hzv,rfl⟩:=zero_ok (P:=P) (w:=w) hz
    refine ⟨zv.cells,ptr w.heap.size 0,?_,fun k=>⟨_,upd_self _ _ _,rfl⟩,isL_ext _,fun k _=>by rw[mentL_ext];simp⟩
    simp only[execOp,hop,Instr.alloc,Sem.run_bind,hzv,Result.andThen_ok,newVar_ok,Sem.run_pure]
    rfl
  · trivial
theorem sound_buildS{T:TypeId}{m:Nat}{ps:Array (Nat×Operand)}(hop:o.op=.buildSlice T m ps)(h:Gam c n s ρ a w):Sound P c n s ρ a w o (buildSR P T m (ps.toList.map fun p=>(p.1,Sx.ev s p.2))):=by
  cases hr:buildSR P T m (ps.toList.map fun p=>(p.1,Sx.ev s p.2)) with
  | new D cs=>
    intro ho
    obtain ⟨z,h1,h2,h3⟩:=buildSR_ok (P:=P) (w:=w) (ρ:=ρ) hr ho
    obtain ⟨os,h4,h5⟩:=h3 _ (parts_ok h ps)
    have h6:=isL_length h4
    refine ⟨os.toArray,.slice (some ⟨w.heap.size,0,none⟩) m m,?_,fun k=>?_,h4,fun k hk=>?_⟩
    · simp only[execOp,hop,Sem.run_bind,h5,Sem.run_pure,Result.andThen_ok]
    · unfold NewD.av
      rw[h1]
      exact .inl ⟨_,m,upd_self _ _ _,rfl,Nat.le_refl _,by simp;omega⟩
    · unfold buildSR at hr
      split at hr
      · split at hr
        · split at hr
          · rename_i hb
            simp only[Res.new.injEq]at hr
            obtain ⟨rfl,rfl⟩:=hr
            refine buildL_ment _ _ _ _ hb (by rw[mentL_ext];simp) fun p hp=>?_
            simp only[List.mem_map]at hp
            obtain ⟨q,_,rfl⟩:=hp
            exact away_ev hk q.2
          · cases hr
        · cases hr
      · cases hr
  | bad=>trivial
  | ask=>trivial
  | _=>
    unfold buildSR at hr
    split at hr<;>try cases hr
    split at hr<;>try cases hr
    split at hr<;>cases hr
theorem sound_build{T:TypeId}{ps:Array (Nat×Operand)}(hop:o.op=.build T ps)(h:Gam c n s ρ a w):Sound P c n s ρ a w o (buildR P T (ps.toList.map fun p=>(p.1,Sx.ev s p.2))):=by
  cases hr:buildR P T (ps.toList.map fun p=>(p.1,Sx.ev s p.2)) with
  | put ob v=>
    intro ho
    obtain ⟨u,h1,h2⟩:=buildR_ok (P:=P) (w:=w) (ρ:=ρ) hr ho (parts_ok h ps)
    refine ⟨u,?_,h2⟩
    simp only[execOp,hop,Sem.run_bind,h1,Sem.run_pure,Result.andThen_ok]
  | bad=>trivial
  | ask=>trivial
  | _=>
    unfold buildR at hr
    split at hr<;>try cases hr
    split at hr<;>cases hr
theorem made_cells(zs:List Value)(z:Value)(hz:z.cells.toList=zs)(m:Nat):madeCells z.cells (m*zs.length)=(repN zs m).toArray:=by
  subst hz
  have h:=rep_cells (zv:=z) (sz:=z.cells.size) (n:=m) rfl
  unfold madeCells
  simpa using h
theorem sound_make{T:TypeId}{x y:Operand}(hop:o.op=.makeSlice T x y)(h:Gam c n s ρ a w):Sound P c n s ρ a w o (makeR P T (Sx.ev s x).val (Sx.ev s y).val):=by
  unfold makeR
  split
  · rename_i e g k1 l g' k2 m he hx hy
    split
    · rename_i z by_ zs hz hby hzc
      rintro ⟨hg,hg',h0,h1,h2,h3,h4,h5⟩
      have e1:=val_is hx hg (h.ev x)
      have e2:=val_is hy hg' (h.ev y)
      have hT:=slcT_ok he
      unfold szO at hz
      unfold byO at hby
      unfold zeroC at hzc
      simp only[Option.map_eq_some_iff]at hz hby
      simp only[Option.map_eq_some_iff,Option.bind_eq_some_iff]at hzc
      obtain ⟨it,hit,rfl⟩:=hz
      obtain ⟨it2,hit2,rfl⟩:=hby
      obtain ⟨zv,⟨it3,hit3,hzv⟩,rfl⟩:=hzc
      rw[hit]at hit2 hit3
      injection hit2 with hit2
      injection hit3 with hit3
      subst hit2 hit3
      have hr:=run_make (P:=P) w T e it zv hT hit hzv k1 k2 l m h0 h1 (by omega) (by omega)
      have hmc:=made_cells zv.cells.toList zv rfl m.toNat
      rw[h3]at hmc
      rw[hmc]at hr
      refine ⟨(repN zv.cells.toList m.toNat).toArray,.slice (some ⟨w.heap.size,0,none⟩) l.toNat m.toNat,?_,fun k=>?_,isL_ext _,fun k _=>by rw[mentL_ext];simp⟩
      · simp only[execOp,hop,e1,e2,Sem.run_bind,hr,Sem.run_pure,Result.andThen_ok]
      · refine .inl ⟨_,m.toNat,upd_self _ _ _,rfl,by omega,?_⟩
        simp[repN_length,h3]
    · trivial
  · trivial
theorem sound_mkF{fn:Fn}{first cs:Array Operand}(hop:o.op=.makeFunc fn first cs)(h:Gam c n s ρ a w):Sound P c n s ρ a w o (mkF fn (first.toList.map (Sx.ev s)) (cs.toList.map (Sx.ev s))):=by
  unfold mkF
  split
  · rename_i f h1
    intro _
    have h1':first.map a.eval=#[]:=by
      have:first.toList=[]:=by simpa using h1
      rw[←Array.toList_inj];simp[this]
    refine ⟨_,?_,cs.toList.map a.eval,gam_isL h _,rfl⟩
    have h5:cs.map a.eval=(cs.toList.map a.eval).toArray:=by rw[←Array.toList_inj];simp
    simp only[execOp,hop,Instr.makeFunc,h1',h5,Sem.run_bind,Sem.run_pure,Result.andThen_ok]
  · rename_i f x r h1
    split
    · rename_i hcs
      intro _
      have h5':cs.map a.eval=#[]:=by
        have:cs.toList=[]:=by simpa using hcs
        rw[←Array.toList_inj];simp[this]
      refine ⟨_,?_,first.toList.map a.eval,by rw[←h1];exact gam_isL h _,rfl⟩
      have h6:first.map a.eval=(first.toList.map a.eval).toArray:=by rw[←Array.toList_inj];simp
      simp only[execOp,hop,Instr.makeFunc,h5',h6,Sem.run_bind,Sem.run_pure,Result.andThen_ok]
    · trivial
  · trivial
end
end Go.Proofs.Ytjapnklocibgaaa.Sx
