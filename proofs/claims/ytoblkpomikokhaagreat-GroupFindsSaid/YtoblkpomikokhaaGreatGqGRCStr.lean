/- Part 18 of the texts of this claim: a symbolic executor and contracts of functions. -/
import Derived.Test.YtoblkpomikokhaaGreatGqGRCMak
import Derived.Lib.Builder
import Derived.Laws.Strings
namespace Go.Proofs.YtoblkpomikokhaaGreat.Sx
open Go Go.RowKit
set_option linter.unusedVariables false
set_option linter.unusedSimpArgs false
set_option maxRecDepth 100000
set_option maxHeartbeats 8000000
attribute [local congr] fin_congr finG_congr stepG_congr step1_congr runOps_congr brv_congr obl_congr condK_congr LoopK_congr seqK_congr CutK_congr vc_congr DrawK_congr regK_congr CallK_congr AskK_congr newK_congr retC_congr ret1_congr retK_congr outV_congr closeK_congr genR_congr appR_congr finD_congr finGD_congr stepGD_congr stepD_congr CallK0_congr runD_congr okR_congr CallS_congr vcX_congr
def bs(l:List UInt8):ByteArray:=⟨l.toArray⟩
theorem bs_mk(l:List UInt8):ByteArray.mk l.toArray=bs l:=rfl
theorem bs_data(l:List UInt8):(bs l).data.toList=l:=rfl
theorem bs_of(s:ByteArray):s=bs s.data.toList:=by cases s;rfl
theorem bs_size(l:List UInt8):(bs l).size=l.length:=rfl
theorem bs_toList(l:List UInt8):(bs l).toList=l:=by rw[ByteArray.toList_eq];rfl
theorem bs_app(a b:List UInt8):bs a++bs b=bs (a++b):=by
 apply ByteArray.ext
 rw[ByteArray.data_append]
 simp[bs]
theorem bs_ext(l:List UInt8)(i j:Nat):(bs l).extract i j=bs ((l.take j).drop i):=by
 apply ByteArray.ext
 rw[ByteArray.data_extract]
 apply Array.ext'
 simp[bs,Array.toList_extract,List.extract,List.drop_take]
theorem bs_at(l:List UInt8)(i:Nat):byteAt (bs l) i=((l.getD i 0).toNat:Int):=rfl
theorem bs_cells(l:List UInt8):(bs l).data.toList=l:=rfl
def clsL(p:UInt8→Bool):List Bool:=(List.range 256).map fun c=>p (UInt8.ofNat c)
def clsC(p:UInt8→Bool):List AV:=cE boolV1 (clsL p)
def clsV(p:UInt8→Bool):Value:=.agg ((clsL p).map boolV1).toArray
theorem clsL_len(p:UInt8→Bool):(clsL p).length=256:=by simp[clsL]
theorem cls_len(p:UInt8→Bool):(clsC p).length=256:=by rw[clsC,cE_len,clsL_len]
theorem cls_take(p:UInt8→Bool):(clsC p).take 256=clsC p:=List.take_of_length_le (by rw[cls_len];omega)
theorem cls_drop(p:UInt8→Bool):(clsC p).drop 256=[]:=List.drop_eq_nil_of_le (by rw[cls_len];omega)
theorem vals_ext:∀l:List Value,vals (l.map .ext)=some l
 | []=>rfl
 | v :: r=>by simp only[List.map_cons,vals,vals_ext r,Option.map_some]
theorem cls_agg(p:UInt8→Bool):aggA (clsC p)=.ext (clsV p):=by
 unfold aggA clsC cE
 rw[vals_ext]
 rfl
theorem cls_cellsG(p:UInt8→Bool):cellsG (.ext (clsV p))=some (clsC p):=by simp[cellsG,clsV,clsC,cE]
theorem cls_cellsA(p:UInt8→Bool):cellsA (.ext (clsV p))=some (clsC p):=by simp[cellsA,clsV,clsC,cE,Value.cells]
theorem allOne_ext:∀l:List Value,(∀v∈l,v.oneCell'=true)→allOne (l.map .ext)
 | [],_=>trivial
 | v :: r,h=>⟨h v List.mem_cons_self,allOne_ext r fun x hx=>h x (List.mem_cons_of_mem _ hx)⟩
theorem cls_one(p:UInt8→Bool):allOne (clsC p)=True:=eq_true (allOne_ext _ fun v hv=>by
 obtain ⟨b,_,rfl⟩:=List.mem_map.1 hv;rfl)
theorem cls_ment(p:UInt8→Bool):mentL (clsC p)=[]:=cE_ment _ _
theorem cls_at(p:UInt8→Bool)(b:UInt8):(clsC p)[b.toNat]? = some (.ext (.bool (p b))):=by
 have h:=b.toNat_lt
 simp[clsC,cE,clsL,boolV1,List.getElem?_range h]
theorem imp_ga(a b:Prop):(a→a∧b)=(a→b):=propext ⟨fun h x=>(h x).2,fun h x=>⟨x,h x⟩⟩
theorem guard_pk(x y:Bool):(x=false→y=true→(!x&&y)=true)=True:=by cases x<;>cases y<;>simp
theorem guard_pk2(x y:Bool):(x=true→y=false→(x&&!y)=true)=True:=by cases x<;>cases y<;>simp
def z256:List AV:=(List.replicate 256 (Value.bool false)).map .ext
theorem z256_def:(List.replicate 256 (Value.bool false)).map AV.ext=z256:=rfl
theorem z256_len:z256.length=256:=by simp[z256]
theorem z256_drop:z256.drop 256=[]:=List.drop_eq_nil_of_le (by rw[z256_len];omega)
theorem z256_ment:mentL z256=[]:=mentL_ext _
theorem cE_kill{α:Type}(k:Nat)(g:α→Value)(l:List α):killL k (cE g l)=cE g l:=by
 unfold cE
 generalize l.map g=vs
 induction vs with
 | nil=>rfl
 | cons v r ih=>simp only[List.map_cons,killL,AV.kill,ih]
theorem cls_kill(k:Nat)(p:UInt8→Bool):killL k (clsC p)=clsC p:=cE_kill _ _ _
def parC(p:UInt8→Bool)(i:Nat):List AV:=clsC fun c=>decide (c.toNat<i)&&p c
theorem par_zero(p:UInt8→Bool):parC p 0=z256:=by
 have h:∀n:Nat,((List.range n).map fun c=>decide ((UInt8.ofNat c).toNat<0)&&p (UInt8.ofNat c)).map boolV1=List.replicate n (Value.bool false):=fun n=>by
  rw[List.eq_replicate_iff]
  exact ⟨by simp,fun b hb=>by simp[boolV1]at hb;exact hb.2.symm⟩
 unfold parC clsC z256 cE clsL
 rw[h]
theorem par_all(p:UInt8→Bool):parC p 256=clsC p:=by
 unfold parC
 congr 1
 funext c
 have:=c.toNat_lt
 simp;omega
theorem par_set(p:UInt8→Bool){i:Nat}(h:i<256)(b:Bool)(hb:b=p (UInt8.ofNat i)):(parC p i).set i (.ext (.bool b))=parC p (i+1):=by
 unfold parC clsC cE clsL
 apply List.ext_getElem (by simp)
 intro n h1 h2
 simp only[List.getElem_set,List.getElem_map,List.getElem_range,boolV1]
 simp at h2
 have e:(UInt8.ofNat n).toNat=n:=by simp;omega
 split
 ·rename_i hin;subst hin;rw[hb,e];simp
 ·rw[e]
  have:decide (n<i)=decide (n<i+1):=by simp;omega
  rw[this]
theorem par_at(p:UInt8→Bool){i k:Nat}(h:k<256):(parC p i)[k]? = some (.ext (.bool (decide (k<i)&&p (UInt8.ofNat k)))):=by
 have:=cls_at (fun c=>decide (c.toNat<i)&&p c) (UInt8.ofNat k)
 have e:(UInt8.ofNat k).toNat=k:=by simp;omega
 rw[e]at this
 exact this
theorem par_len(p:UInt8→Bool)(i:Nat):(parC p i).length=256:=cls_len _
theorem par_ment(p:UInt8→Bool)(i:Nat):mentL (parC p i)=[]:=cls_ment _
theorem callS_of{P:Program}{f:FuncId}{us:List Value}{v:Value}{M:Mem}{K:AV→Hp→Mem→Prop}(h:∀w,Calls P f us.toArray w fun e w'=>e=.returned v∧Below w.heap.size w w')(hK:K (.ext v) [] M):CallS P f (us.map .ext) [] M [] K:=fun ρ w us' hH hus=>by
 have e:us'=us:=by
  have:∀(l:List Value) (u:List Value),isL ρ (l.map .ext) u→u=l:=by
   intro l
   induction l with
   | nil=>intro u hu;exact hu
   | cons a r ih=>
    intro u hu
    obtain ⟨x,y,rfl,h1,h2⟩:=hu
    rw[ih y h2]
    exact congrArg (· :: r) h1
  exact this us us' hus
 subst e
 refine (h w).mono fun e w' ⟨h1,h2⟩=>?_
 subst h1
 have hs:Sub M w':=fun b o hb=>by
  have hb:=hH.sub b o hb
  have hlt:b<w.heap.size:=by
   rcases Nat.lt_or_ge b w.heap.size with hl|hg
   ·exact hl
   ·rw[Array.getElem?_eq_none hg]at hb;cases hb
  rw[h2.block b hlt];exact hb
 exact ⟨v,.ext v,[],M,ρ,rfl,hK,⟨rfl,⟨fun k T cs b hk=>by simp[lkH]at hk,fun k T cs hk=>by simp[lkH]at hk,fun k k' b b' hk=>by simp[lkH]at hk,hs⟩,fun k hk=>by simp[lkH]at hk,fun _ _ _=>rfl,fun k _=>⟨by simp[AV.ment],fun j T cs hj=>by simp[lkH]at hj⟩,fun k b hk=>by simp[lkH]at hk,h2.os,h2.tape,h2.output,h2.size,fun b hb _=>h2.block b hb,Mem.le.refl _,fun b hb=>.inl hb⟩⟩
end Go.Proofs.YtoblkpomikokhaaGreat.Sx
