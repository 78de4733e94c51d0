/- Part 18 of the texts of this claim: a symbolic executor and contracts of functions. -/
import Derived.Test.YtjapnklocibgaaaOCiRCMak
import Derived.Lib.Builder
import Derived.Laws.Strings
namespace Go.Proofs.Ytjapnklocibgaaa.Sx
open Go Go.RowKit
set_option linter.unusedVariables false
set_option linter.unusedSimpArgs false
set_option maxRecDepth 100000
set_option maxHeartbeats 8000000
attribute [local congr] fin_congr finG_congr stepG_congr step1_congr runOps_congr brv_congr obl_congr condK_congr LoopK_congr seqK_congr CutK_congr vc_congr DrawK_congr regK_congr CallK_congr AskK_congr newK_congr retC_congr ret1_congr retK_congr outV_congr closeK_congr genR_congr appR_congr finD_congr finGD_congr stepGD_congr stepD_congr CallK0_congr runD_congr okR_congr CallS_congr vcX_congr
def bs(l:List UInt8):ByteArray:=⟨l.toArray⟩
theorem bs_mk(l:List UInt8):ByteArray.mk l.toArray=bs l:=rfl
theorem bs_size(l:List UInt8):(bs l).size=l.length:=rfl
theorem bs_toList(l:List UInt8):(bs l).toList=l:=by rw[ByteArray.toList_eq];rfl
theorem bs_app(a b:List UInt8):bs a++bs b=bs (a++b):=by
 apply ByteArray.ext
 rw[ByteArray.data_append]
 simp[bs]
theorem bs_ext(l:List UInt8)(i j:Nat):(bs l).extract i j=bs ((l.take j).drop i):=by
 apply ByteArray.ext
 rw[ByteArray.data_extract]
 apply Array.ext'
 simp[bs,Array.toList_extract,List.extract,List.drop_take]
theorem bs_at(l:List UInt8)(i:Nat):byteAt (bs l) i=((l.getD i 0).toNat:Int):=rfl
theorem bs_cells(l:List UInt8):(bs l).data.toList=l:=rfl
theorem imp_ga(a b:Prop):(a→a∧b)=(a→b):=propext ⟨fun h x=>(h x).2,fun h x=>⟨x,h x⟩⟩
theorem guard_pk(x y:Bool):(x=false→y=true→(!x&&y)=true)=True:=by cases x<;>cases y<;>simp
theorem guard_pk2(x y:Bool):(x=true→y=false→(x&&!y)=true)=True:=by cases x<;>cases y<;>simp
theorem cE_kill{α:Type}(k:Nat)(g:α→Value)(l:List α):killL k (cE g l)=cE g l:=by
 unfold cE
 generalize l.map g=vs
 induction vs with
 | nil=>rfl
 | cons v r ih=>simp only[List.map_cons,killL,AV.kill,ih]
end Go.Proofs.Ytjapnklocibgaaa.Sx
