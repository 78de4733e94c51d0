/- Part 7 of the texts of this claim: a symbolic executor and contracts of functions. -/
import Derived.Test.YtjapnklocibgaaaOCiRCApp
import Derived.Maps.Keyed
import Derived.Maps.Own
namespace Go.Proofs.Ytjapnklocibgaaa.Sx
open Go Go.RowKit
set_option linter.unusedVariables false
set_option linter.unusedSimpArgs false
section
variable {P:Program}{c:Cx}{n:Nat}{s:St}{ρ:Rho}{a:Act}{w:World}{o:Oper}
theorem map_one{α β:Type}{f:α→β}{l:List α}{v:β}(h:l.map f=[v]):∃x,l=[x]∧f x=v:=by
 cases l with
 | nil=>cases h
 | cons x r=>cases r with
  | nil=>exact ⟨x,rfl,by simpa using h⟩
  | cons y q=>simp at h
theorem map_two{α β:Type}{f:α→β}{l:List α}{v v':β}(h:l.map f=[v,v']):∃x y,l=[x,y]∧f x=v∧f y=v':=by
 cases l with
 | nil=>cases h
 | cons x r=>cases r with
  | nil=>simp at h
  | cons y q=>cases q with
   | nil=>exact ⟨x,y,rfl,by simpa using h⟩
   | cons z q=>simp at h
theorem sound_call{cl:Call}(hop:o.op=.call cl)(h:Gam c n s ρ a w):Sound P c n s ρ a w o (callR P (evC s cl.callee) cl.argTypes.toList (cl.args.toList.map (Sx.ev s))):=by
 have hargs:cl.args.map a.eval=(cl.args.toList.map a.eval).toArray:=by rw[←Array.toList_inj];simp
 have hts:cl.argTypes=cl.argTypes.toList.toArray:=by simp
 have he:=gam_isL h cl.args.toList
 cases hc:cl.callee with
 | value g=>
  simp only[evC,callR]
  split
  ·rename_i f ks hg
   injection hg with hg
   intro hb
   have hev:=h.ev g
   rw[hg]at hev
   obtain ⟨us,h1,h2⟩:=hev
   refine ⟨_,isL_append he h1,?_⟩
   simp only[execOp,hop,resolve,hc,h2,Deferred.ofValue,Sem.run_bind,Sem.run_pure,Result.andThen_ok,invoke,hargs]
   rw[show (#[]++(cl.args.toList.map a.eval).toArray++us.toArray)=(cl.args.toList.map a.eval++us).toArray by simp]
   exact callsB_ok hb
  ·rename_i f ks hg
   injection hg with hg
   intro hb
   have hev:=h.ev g
   rw[hg]at hev
   obtain ⟨us,h1,h2⟩:=hev
   refine ⟨_,isL_append h1 he,?_⟩
   simp only[execOp,hop,resolve,hc,h2,Deferred.ofValue,Sem.run_bind,Sem.run_pure,Result.andThen_ok,invoke,hargs]
   rw[show (us.toArray++(cl.args.toList.map a.eval).toArray++#[])=(us++cl.args.toList.map a.eval).toArray by simp]
   exact callsB_ok hb
  ·exact fun hb=>hb.elim
  ·rename_i e;cases e
  ·trivial
 | invoke r m=>trivial
 | builtin b=>
  simp only[evC,callR]
  have hx:∀u w',(builtin b cl.argTypes o.type (cl.args.map fun | .const _=>true|_=>false) (cl.args.toList.map a.eval).toArray).run P w=.ok (.value u) w'→
    (execOp a.eval o).run P w=.ok (.value u) w':=fun u w' hu=>by
   simp only[execOp,hop,resolve,hc,Sem.run_bind,Sem.run_pure,Result.andThen_ok,invoke,hargs]
   exact hu
  generalize hts2:cl.argTypes.toList=ts at hts ⊢
  rw[hts]at hx
  clear hts hargs hts2
  generalize cl.args.toList=args at hx he ⊢
  cases b with
  | len=>
   simp only[bltR]
   unfold lenR
   split
   ·rename_i T k off m z harg
    intro ho
    obtain ⟨x,rfl,harg2⟩:=map_one harg
    ·have hev:=h.ev x
     rw[harg2]at hev
     obtain ⟨e,hT⟩:=isSliceT_ok ho
     refine ⟨_,hx _ _ ?_,rfl⟩
     rcases hev with ⟨b,cap,_,e2,_⟩|⟨rfl,A,_,e2⟩<;>simp[builtin,Builtin.len_,run_underlying hT,goInt,e2]
   ·obtain ⟨y,rfl,harg2⟩:=map_one ‹List.map (Sx.ev s) args=[_]›
    ·subst harg2
     split
     ·trivial
     refine sound_put1 fun g u ob v hy hg hf ho=>hx _ _ ?_
     have e2:=val_is hy hg (h.ev y)
     unfold lenV at hf
     split at hf
     ·rename_i hs
      simp only[Option.some.injEq,Prod.mk.injEq]at hf
      obtain ⟨rfl,rfl⟩:=hf
      obtain ⟨e,hT⟩:=isSliceT_ok hs
      cases u<;>try cases ho
      simp[builtin,Builtin.len_,run_underlying hT,goInt,e2,slen]
     ·rename_i hs
      split at hf
      ·simp only[Option.some.injEq,Prod.mk.injEq]at hf
       obtain ⟨rfl,rfl⟩:=hf
       unfold isStrT at hs
       split at hs
       ·simp[builtin,Builtin.len_,run_underlying ‹_›,goInt,e2]
       ·cases hs
      ·cases hf
     ·cases hf
   ·trivial
  | min=>
   simp only[bltR]
   split
   ·rename_i x y harg
    obtain ⟨x',y',rfl,rfl,rfl⟩:=map_two harg
    ·refine sound_put2 fun g u g' u' ob v h1 hg h2 hg' hf ho=>hx _ _ ?_
     have e1:=val_is h1 hg (h.ev x')
     have e2:=val_is h2 hg' (h.ev y')
     unfold minV at hf
     split at hf
     ·split at hf
      ·simp only[Option.some.injEq,Prod.mk.injEq]at hf
       obtain ⟨rfl,rfl⟩:=hf
       simp[builtin,Builtin.min_,Builtin.min2,e1,e2]
      ·cases hf
     ·cases hf
   ·trivial
  | max=>
   simp only[bltR]
   split
   ·rename_i x y harg
    obtain ⟨x',y',rfl,rfl,rfl⟩:=map_two harg
    ·refine sound_put2 fun g u g' u' ob v h1 hg h2 hg' hf ho=>hx _ _ ?_
     have e1:=val_is h1 hg (h.ev x')
     have e2:=val_is h2 hg' (h.ev y')
     unfold maxV at hf
     split at hf
     ·split at hf
      ·simp only[Option.some.injEq,Prod.mk.injEq]at hf
       obtain ⟨rfl,rfl⟩:=hf
       simp[builtin,Builtin.max_,Builtin.max2,e1,e2]
      ·cases hf
     ·cases hf
   ·trivial
  | append=>
   intro K hK hd
   simp only[genR]at hK
   match args,he,hK,hx with
   | [x,y],he,hK,hx=>
    obtain ⟨u,w',s',ρ',h1,h2,h3⟩:=appR_ok (P:=P) (ty:=o.type) h (norm_is (h.ev x)) (norm_is (h.ev y)) hK hd
    refine ⟨u,w',s',ρ',hx _ _ ?_,h2,h3⟩
    simp only[builtin,Sem.run_bind,Sem.run_pure,Result.andThen_ok]
    rw[show ([x,y].map a.eval).toArray=#[a.eval x,a.eval y] by simp,h1]
    rfl
   | [],he,hK,hx=>unfold appR at hK;split at hK<;>simp_all[normL]
   | [x],he,hK,hx=>unfold appR at hK;split at hK<;>simp_all[normL]
   | x :: y :: z :: r,he,hK,hx=>unfold appR at hK;split at hK<;>simp_all[normL]
  | _=>trivial
theorem intKey_ok{v:Value}{n:Int}(h:intKey v=some n):v=.int .i64 n∧(Lit.int .i64 n).wf=true:=by
 unfold intKey at h
 split at h
 ·split at h
  ·cases h;exact ⟨rfl,‹_›⟩
  ·cases h
 ·cases h
theorem trueV_ok{v:Value}(h:trueV v=true):v=.bool true:=by
 unfold trueV at h
 split at h
 ·rfl
 ·cases h
theorem sound_lku{T:TypeId}{m x:Operand}(hop:o.op=.lookup T m x false)(h:Gam c n s ρ a w):Sound P c n s ρ a w o (tOp P s (.lookup T m x false)):=by
 simp only[tOp]
 unfold lkuR
 split
 ·rename_i g k g' key e1 e2
  cases hib:intBool P T with
  | false=>trivial
  | true=>
   cases hv:mapM s.M k key with
   | none=>trivial
   | some v=>
    rintro ⟨hg,hg'⟩
    have em:=val_is e1 hg (h.ev m)
    have ex:=val_is e2 hg' (h.ev x)
    obtain ⟨kt,et,i,ht,hkt,hei,hez⟩:∃kt et i,P.underlying T=some (.map kt et)∧P.underlying kt=some (.int .i64)∧P.info? et=some i∧i.zero=some (.bool false):=by
     unfold intBool at hib
     split at hib
     ·split at hib
      ·split at hib
       ·exact ⟨_,_,_,‹_›,‹_›,‹_›,‹_›⟩
       ·cases hib
      ·cases hib
     ·cases hib
    unfold mapM at hv
    cases ho:s.M k with
    | none=>rw[ho]at hv;cases hv
    | some ob=>
     rw[ho]at hv
     have hb:=h.sub _ _ ho
     obtain ⟨es,clock,q,rfl,hq,hall,rfl⟩:∃es clock q,ob=.map es clock∧intKey key=some q∧es.toList.all (fun e=>(intKey e.key).isSome&&trueV e.val)=true∧v=.bool (es.toList.any fun e=>intKey e.key==some q):=by
      cases ob with
      | map es clock=>
       cases hq:intKey key with
       | none=>simp[mapO,hq]at hv
       | some q=>
        by_cases hall:es.toList.all (fun e=>(intKey e.key).isSome&&trueV e.val)=true
        ·simp only[mapO,hq,if_pos hall,Option.some.injEq]at hv
         exact ⟨es,clock,q,rfl,rfl,hall,hv.symm⟩
        ·simp only[mapO,hq,if_neg hall]at hv
         cases hv
      | _=>simp[mapO]at hv
     have KK:=Maps.int_keyed hkt
     obtain ⟨rfl,hqw⟩:=intKey_ok hq
     have hkeys:∀e∈es.toList,∃l,keyOf P kt e.key=some l:=fun e he=>by
      have h1:=List.all_eq_true.1 hall e he
      rw[Bool.and_eq_true]at h1
      obtain ⟨y,hy⟩:=Option.isSome_iff_exists.1 h1.1
      obtain ⟨e3,e4⟩:=intKey_ok hy
      rw[e3]
      exact ⟨_,Maps.keyOf_int_mk hkt e4⟩
     have hkey:=Maps.keyOf_int_mk hkt hqw
     have hz:(zeroValue et).run P w=.ok (.bool false) w:=by
      simp[zeroValue,typeInfo,hei,hez]
     rcases KK.find w hkey es.toList hkeys with ⟨f1,f2⟩|⟨j,e0,f1,f2,f3⟩
     ·have hany:(es.toList.any fun e=>intKey e.key==some q)=false:=by
       rw[List.any_eq_false]
       intro e he h1
       have h2:intKey e.key=some q:=by simpa using h1
       exact f2 e he (intKey_ok h2).1
      have hrun:(Instr.lookup T (.map (some k)) (.int .i64 q) false).run P w=.ok (.bool false) w:=by
       simp[Instr.lookup,run_underlying ht,MapKept.run_getObj_map hb,KK.check w _ hkey,f1,hz,Result.andThen]
      refine ⟨.bool false,?_,by rw[hany];rfl⟩
      simp[execOp,hop,em,ex,hrun,Result.andThen]
     ·have hm0:e0∈es.toList:=List.mem_of_getElem? f2
      have h1:=List.all_eq_true.1 hall e0 hm0
      rw[Bool.and_eq_true]at h1
      have hv0:=trueV_ok h1.2
      have hany:(es.toList.any fun e=>intKey e.key==some q)=true:=by
       rw[List.any_eq_true]
       exact ⟨e0,hm0,by rw[f3,hq];simp⟩
      have hrun:(Instr.lookup T (.map (some k)) (.int .i64 q) false).run P w=.ok (.bool true) w:=by
       simp[Instr.lookup,run_underlying ht,MapKept.run_getObj_map hb,KK.check w _ hkey,f1,Result.andThen,hv0]
      refine ⟨.bool true,?_,by rw[hany];rfl⟩
      simp[execOp,hop,em,ex,hrun,Result.andThen]
 ·trivial
theorem tOp_sound(h:Gam c n s ρ a w):Sound P c n s ρ a w o (tOp P s o.op):=by
 cases hop:o.op with
 | move x=>exact fun _=>⟨_,run_move (.inl hop),h.ev x⟩
 | assign x=>exact fun _=>⟨_,run_move (.inr hop),h.ev x⟩
 | pick x y z=>
  simp only[tOp]
  unfold pickV
  split
  ·rename_i g t g1 u1 g2 u2 e1 e2 e3
   rintro ⟨hg,h1,h2⟩
   have i1:=val_is e1 hg (h.ev x)
   refine ⟨_,?_,rfl⟩
   simp only[execOp,hop,i1,asBool,Sem.run_bind,Sem.run_pure,Result.andThen_ok,selV_eq]
   cases t
   ·simp[val_is e3 (h2 rfl) (h.ev z)]
   ·simp[val_is e2 (h1 rfl) (h.ev y)]
  ·trivial
 | binOp b T x y Ty=>
  exact sound_put2 fun g u g' u' ob v e1 hg e2 hg' hf ho=>by
   have hf:binV P b T u u'=some (ob,v):=by
    unfold binW at hf
    split at hf
    ·rename_i e;rw[e];exact hf
    ·cases hf;exact ho.elim
   simp only[execOp,hop,val_is e1 hg (h.ev x),val_is e2 hg' (h.ev y),Sem.run_bind,eqGuard_ok hf,binV_ok hf ho,Sem.run_pure,Result.andThen_ok]
 | unOp uo T x=>
  exact sound_put1 fun g u ob v e1 hg hf ho=>by
   have hf:unV uo u=some v:=by
    unfold unV1 at hf
    split at hf
    ·rename_i e;cases hf;exact e
    ·cases hf;exact ho.elim
   simp only[execOp,hop,val_is e1 hg (h.ev x),Sem.run_bind,unV_ok hf,Sem.run_pure,Result.andThen_ok]
 | extract x i=>exact sound_ext hop h
 | nilCheck x=>
  simp only[tOp]
  have hx:=h.ev x
  unfold nilA
  split
  ·rename_i v e
   intro ho
   rw[e]at hx
   have hx:a.eval x=v:=hx
   refine ⟨v,?_,rfl⟩
   unfold isPt at ho
   split at ho
   ·simp only[execOp,hop,hx]
    rfl
   ·cases ho
  ·rename_i g v e
   rintro ⟨hg,ho⟩
   rw[e]at hx
   have hx:a.eval x=if g=true then v else undef:=hx
   rw[if_pos hg]at hx
   refine ⟨v,?_,rfl⟩
   unfold isPt at ho
   split at ho
   ·simp only[execOp,hop,hx]
    rfl
   ·cases ho
  ·rename_i k off e
   intro _
   rw[e]at hx
   obtain ⟨b,hb,e2⟩:=hx
   refine ⟨ptr b.b off,?_,b,hb,rfl⟩
   simp only[execOp,hop,e2,ptr]
   rfl
  ·rename_i g k off e
   intro hg
   rw[e]at hx
   have hx:if g=true then ∃b,ρ k=some b∧a.eval x=ptr b.b off else a.eval x=undef:=hx
   rw[if_pos hg]at hx
   obtain ⟨b,hb,e2⟩:=hx
   refine ⟨ptr b.b off,?_,b,hb,rfl⟩
   simp only[execOp,hop,e2,ptr]
   rfl
  ·trivial
 | fieldAddr S x f=>
  simp only[tOp]
  have hext:∀g v,(Sx.ev s x).val=some (g,v)→Sound P c n s ρ a w o (fldV P (fOff P S f) g v):=fun g v hx=>by
   unfold fldV
   split
   ·rename_i o1 T1 hf
    rintro ⟨hg,hp,ho⟩
    have e:=val_is hx hg (h.ev x)
    cases v with
    | pointer A=>
     cases A with
     | none=>cases hp
     | some A=>
      refine ⟨.pointer (some (A.add o1)),?_,rfl⟩
      simp only[execOp,hop,e,Sem.run_bind,fOff_pt hf ho,Sem.run_pure,Result.andThen_ok]
    | _=>cases hp
   ·trivial
  have hown:Sound P c n s ρ a w o (fieldR P (fOff P S f) (Sx.ev s x).ptr?):=by
   unfold fieldR
   split
   ·rename_i o1 T1 g k off hf hx
    rintro ⟨hg,ho⟩
    obtain ⟨b,hb,e⟩:=ptr_is hx hg (h.ev x)
    refine ⟨ptr b.b (off+o1),?_,b,hb,rfl⟩
    simp only[execOp,hop,e,Sem.run_bind,fOff_ok hf ho,Sem.run_pure,Result.andThen_ok]
   ·trivial
  unfold fldA
  split
  ·rename_i v hx;exact hext true v (by rw[hx];rfl)
  ·rename_i g v hx;exact hext g v (by rw[hx];rfl)
  ·exact hown
 | load T x=>exact sound_load hop h
 | store T x y=>exact sound_store hop h
 | makeFunc fn first captured=>exact sound_mkF hop h
 | call cl=>exact sound_call hop h
 | alloc T=>exact sound_alloc hop h
 | box T x=>exact sound_box hop h
 | buildSlice T m ps=>exact sound_buildS hop h
 | build T ps=>exact sound_build hop h
 | field S x f=>exact sound_field hop h
 | makeSlice T x y=>exact sound_make hop h
 | indexAddr T x y=>exact sound_idx hop h
 | index T x y=>exact sound_index hop h
 | slice T x lo hi mx=>
  cases mx with
  | none=>exact sound_slice hop h
  | some _=>trivial
 | convert S T x=>exact sound_convX hop h
 | lookup T m x co=>
  cases co with
  | true=>trivial
  | false=>exact sound_lku hop h
 | _=>trivial
theorem Gam.newD(h:Gam c n s ρ a w){d:Nat}{D:NewD}{cs:List AV}{arr:Array Value}{u:Value}(hd:d<n)(hcs:isL ρ cs arr.toList)(hm:∀k,(∀t,k∉(lk s.env t).ment)→k∉mentL cs)
  (haw:awayP (s.kb+d) s) (hu:∀k,(D.av k).is (upd ρ k (some ⟨w.heap.size,arr.size⟩)) u) :
  ∃ρ',Gam c n {env:=(d,D.av (s.kb+d)) :: s.env,hp:=(s.kb+d,D.T,cs) :: s.hp,M:=s.M,kb:=s.kb,fx:=s.fx,fr:=s.fr} ρ' (a.put (some d) u) (w.alloc (.cells arr D.T)):=by
 have hl:=isL_length hcs
 refine ⟨_,h.new (awayP_env haw) (awayP_hp haw) (awayP_fx haw) hd (by simp at hl;omega) (fun i v hv=>?_) (hm _ (awayP_env haw)) (hu _)⟩
 have:=isL_get hcs i v hv
 simpa [Array.getD_eq_getD_getElem?,List.getD_eq_getElem?_getD] using this
theorem fin_ok{K:St→Prop}{Kc:Act→World→Prop}{Q:Exit→Act→World→Prop}(hd:dOK n o.dst)(h:Gam c n s ρ a w)
  (hK:∀s' a' w',K s'→Ga c n s' a' w'→Kc a' w') (hf:fin P o s K (tOp P s o.op)):o.wp P a w Kc Q:=by
 have hs:=tOp_sound (P:=P) (o:=o) h
 generalize ht:tOp P s o.op=r at hf hs
 cases r with
 | bad=>exact hf.elim
 | put ob v=>
  obtain ⟨ho,hk⟩:=hf
  obtain ⟨u,hr,hv⟩:=hs ho
  simp only[Oper.wp,hr,Oper.upon]
  exact hK _ _ _ hk ⟨ρ,h.put hv hd⟩
 | sto ob k cs=>
  obtain ⟨ho,hk⟩:=hf
  obtain ⟨w',hr,h'⟩:=hs ho
  simp only[Oper.wp,hr,Oper.upon]
  exact hK _ _ _ hk ⟨ρ,h'.put (v:=.unk) trivial hd⟩
 | new T cs=>
  simp only[fin,newK]at hf
  split at hf
  ·rename_i d hdst
   obtain ⟨⟨h0,h1⟩,hk⟩:=hf
   obtain ⟨arr,u,hr,hu,hcs,haw⟩:=hs h0
   simp only[Oper.wp,hr,Oper.upon]
   rw[hdst]at hd ⊢
   exact hK _ _ _ hk (h.newD hd hcs haw h1 hu)
  ·exact hf.elim
 | call f args=>
  obtain ⟨hb,mv,hmv,hc⟩:=hf
  obtain ⟨us,he,hr⟩:=hs hb
  simp only[Oper.wp,hr,Oper.upon]
  refine (hc ρ w us (h.heapIs _) (isL_norm he)).mono fun e w' hh=>?_
  obtain ⟨u,v,H',M',ρ',rfl,⟨hnk,hk⟩,hl⟩:=hh
  exact hK _ _ _ hk (h.left hd hmv hnk hl)
 | gen G=>
  obtain ⟨u,w',s',ρ',hr,hk,hg⟩:=hs K hf hd
  simp only[Oper.wp,hr,Oper.upon]
  exact hK _ _ _ hk ⟨ρ',hg⟩
 | ask=>
  exact Oper.wp_mono (fun a' w' ⟨s',hk,hg⟩=>hK _ _ _ hk hg) (hf c n a w Q ⟨ρ,h⟩ hd)
theorem guard_ok{ops:Array Oper}{j:Nat}{want g:Bool}(h:Gam c n s ρ a w)(hg:guardB ops.toList s (some (j,want))=some g) :
  (yielded ops a.tmps j==some want)=g:=by
 simp only[guardB,gslot_eq]at hg
 rw[Array.getElem?_toList]at hg
 split at hg
 ·rename_i t ht
  split at hg
  ·rename_i gg b hv
   injection hg with hg
   subst hg
   have hev:=h.env t
   have hu:a.tmps.getD t undef=if gg=true then .bool b else undef:=by
    cases hl:lk s.env t<;>rw[hl]at hv hev<;>simp[AV.val]at hv
    ·obtain ⟨rfl,rfl⟩:=hv;rw[if_pos rfl];exact hev
    ·obtain ⟨rfl,rfl⟩:=hv;exact hev
   simp only[yielded,ht,Option.bind_some]
   by_cases hlt:t<a.tmps.size
   ·have h1:a.tmps[t]? = some (a.tmps.getD t undef):=by simp[Array.getD,hlt]
    rw[h1,hu]
    cases gg
    ·simp[undef]
    ·simp
   ·have h1:a.tmps[t]? = none:=Array.getElem?_eq_none (by omega)
    have h2:a.tmps.getD t undef=undef:=by simp[Array.getD,hlt]
    rw[h2]at hu
    rw[h1]
    cases gg
    ·simp
    ·simp[undef]at hu
  ·rename_i v _ hv
   injection hg with hg
   subst hg
   have hev:=h.env t
   have hu:a.tmps.getD t undef=undef:=by
    cases hl:lk s.env t<;>rw[hl]at hv hev<;>simp[AV.val]at hv
    ·obtain ⟨rfl,rfl⟩:=hv;exact hev
   simp only[yielded,ht,Option.bind_some]
   by_cases hlt:t<a.tmps.size
   ·have h1:a.tmps[t]? = some (a.tmps.getD t undef):=by simp[Array.getD,hlt]
    rw[h1,hu]
    simp[undef]
   ·have h1:a.tmps[t]? = none:=Array.getElem?_eq_none (by omega)
    rw[h1]
    simp
  ·cases hg
 ·cases hg
theorem step1_ok{ops:Array Oper}{K:St→Prop}{Kc:Act→World→Prop}{Q:Exit→Act→World→Prop}(hd:dOK n o.dst)(h:Gam c n s ρ a w)
  (hK:∀s' a' w',K s'→Ga c n s' a' w'→Kc a' w') (hf:step1 P ops.toList o s K o.guard) :
  if Region.wanted o (yielded ops a.tmps) then o.wp P a w Kc Q else Kc (a.put o.dst undef) w:=by
 cases hgd:o.guard with
 | none=>
  rw[hgd]at hf
  have:Region.wanted o (yielded ops a.tmps)=true:=by simp[Region.wanted,hgd]
  rw[if_pos this]
  exact fin_ok hd h hK hf
 | some jw=>
  obtain ⟨j,want⟩:=jw
  rw[hgd]at hf
  have hw:Region.wanted o (yielded ops a.tmps)=(yielded ops a.tmps j==some want):=by simp[Region.wanted,hgd]
  rw[hw]
  simp only[step1]at hf
  cases hg:guardB ops.toList s (some (j,want)) with
  | none=>rw[hg]at hf;exact hf.elim
  | some g=>
   rw[hg]at hf
   rw[guard_ok h hg]
   simp only[stepG]at hf
   have hs:=tOp_sound (P:=P) (o:=o) h
   have hskip:g=false→∀v:AV,v.is ρ undef→K (s.put o.dst v)→Kc (a.put o.dst undef) w:=fun _ v hv hk=>hK _ _ _ hk ⟨ρ,h.put hv hd⟩
   cases ht:tOp P s o.op with
   | put ob v=>
    rw[ht]at hf hs
    have key:∀x,v=.ext x∨(∃g',v=.gd g' x∧(g=true→g'=true))→(g=true→ob)→K (s.put o.dst (.gd g x))→
      if g=true then o.wp P a w Kc Q else Kc (a.put o.dst undef) w:=by
     intro x hvx hob hk
     cases g
     ·simp only[Bool.false_eq_true,if_false]
      exact hskip rfl (.gd false x) rfl hk
     ·simp only[if_true]
      obtain ⟨u,hr,hv⟩:=hs (hob rfl)
      simp only[Oper.wp,hr,Oper.upon]
      refine hK _ _ _ hk ⟨ρ,h.put ?_ hd⟩
      rcases hvx with rfl|⟨g',rfl,hg'⟩
      ·exact hv
      ·have hv:u=if g'=true then x else undef:=hv
       rw[if_pos (hg' rfl)]at hv
       exact hv
    have gen:brv g (fin P o s K (.put ob v)) (K (s.put o.dst (.ext undef)))→if g=true then o.wp P a w Kc Q else Kc (a.put o.dst undef) w:=fun hb=>by
     cases g
     ·simp only[Bool.false_eq_true,if_false]
      exact hskip rfl (.ext undef) rfl (hb.2 rfl)
     ·simp only[if_true]
      exact fin_ok hd h hK (by rw[ht];exact hb.1 rfl)
    cases v with
    | ext x=>exact key x (.inl rfl) hf.1 hf.2
    | gd g' x=>exact key x (.inr ⟨g',rfl,fun e=>(hf.1 e).1⟩) (fun e=>(hf.1 e).2) hf.2
    | own k off=>
     obtain ⟨hob,hk⟩:=hf
     cases g
     ·simp only[Bool.false_eq_true,if_false]
      exact hskip rfl (.gown false k off) rfl hk
     ·simp only[if_true]
      obtain ⟨u,hr,hv⟩:=hs (hob rfl)
      simp only[Oper.wp,hr,Oper.upon]
      exact hK _ _ _ hk ⟨ρ,h.put (v:=.gown true k off) hv hd⟩
    | _=>exact gen hf
   | _=>
    rw[ht]at hf
    cases g
    ·simp only[Bool.false_eq_true,if_false]
     exact hskip rfl (.ext undef) rfl (hf.2 rfl)
    ·simp only[if_true]
     exact fin_ok hd h hK (by rw[ht];exact hf.1 rfl)
theorem runOps_ok{ops:Array Oper}{Q:Exit→Act→World→Prop}{K:St→Prop}(hK:∀s a w,K s→Ga c n s a w→Q .normal a w) :
  ∀(l:List Oper) (s:St) (a:Act) (w:World),(∀o∈l,dOK n o.dst)→Ga c n s a w→runOps P ops.toList l K s→wpList P ops Q l a w
 | [],s,a,w,_,hg,h=>hK s a w h hg
 | o :: r,s,a,w,hl,⟨ρ,hg⟩,h=>by
  refine wpList_step fun Kc hKc=>?_
  exact step1_ok (hl o (by simp)) hg (fun s' a' w' hk hg'=>hKc _ _ (runOps_ok hK r s' a' w' (fun o ho=>hl o (by simp[ho])) hg' hk)) h
end
end Go.Proofs.Ytjapnklocibgaaa.Sx
