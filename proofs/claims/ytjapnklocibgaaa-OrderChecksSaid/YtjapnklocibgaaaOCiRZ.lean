/- Items: which are right, also such with something changed, and that others are refused. -/
import Derived.Test.YtjapnklocibgaaaRows
import Derived.Test.YtjapnklocibgaaaOCiRP4
import Derived.Test.YtjapnklocibgaaaOCiRCRow
import Derived.SizedLaws
namespace Go.Proofs.Ytjapnklocibgaaa.orderChecks
open Go.ChangeShapes Go.WideShapes Go.ChangeAt Go.RowKit
theorem own:ownKnob Try.prog.godebug=none:=by kernel_rfl
theorem laid:laidOutB Try.prog=true:=by kernel_rfl
set_option maxRecDepth 100000 in
theorem lifted(os:Os)(started:os.Started)(H:Type)(enc:TypeId×Value→H) :
  ReturnsInHanded {} Try.checked os 7 .any (Rows.orderChecksSpec.pre6 enc Try.prog Try.f7 Rows.orderChecksRow.domain false) (Rows.orderChecksSpec.post enc Try.prog Try.f7 false true false false):=by
 refine returnsInHanded_of_change_sized (C:=Try.checked) own started (by kernel_rfl) Try.func7
  (ChangeSpec.witness6 (enc:=enc) (C:=Try.checked) false ⟨#[],#[.slice none 0 0,.slice none 0 0,.int .i64 0],[]⟩ 8 (by kernel_rfl) (by kernel_rfl) (by kernel_rfl) (by kernel_rfl)) ?_
 intro W base args ds gs before hval0 hW hcnd hsz _
 have hval:∀(j:Nat) t v,Try.f7.params[j]? = some t→args[j]? = some v→Value.okWide Try.prog W .any base t v:=hval0
 have hW':=hW
 have hlt:∀x∈before,x.block<W.heap.size:=fun x hx=>hW'.lt x hx
 obtain ⟨p,q,hA0,hV,rfl,hfz,hnd⟩:=hW
 have hA:DataW.TrodAll enc Try.prog W 0 (fun _=>true) true Try.f7.params.toList args.toList ds p:=hA0
 have hAk:=hA
 rw[Try.params7]at hA hval hsz
 obtain ⟨v0,vs0,d0,ds0,p0,q0,hargs,rfl,rfl,h0,r0⟩:=trodAll_cons hA
 obtain ⟨v1,vs1,d1,ds1,p1,q1,rfl,rfl,rfl,h1,r1⟩:=trodAll_cons r0
 obtain ⟨v2,vs2,d2,ds2,p2,q2,rfl,rfl,rfl,h2,r2⟩:=trodAll_cons r1
 obtain ⟨rfl,rfl,rfl⟩:=trodAll_nil r2
 obtain rfl:args=#[v0,v1,v2]:=by cases args;simp_all
 obtain ⟨rfl,rfl⟩:=trodVars_none hV
 obtain ⟨l0,g0,b0,o0⟩:=Sx.open_sints (k:=.i64) Try.underlying22 Try.underlying3 (by kernel_rfl) (hval 0 22 v0 rfl rfl) h0
 obtain ⟨l1,g1,b1,o1⟩:=Sx.opn_slice (z:=5) (B:=88) (Sx.opn_item (Sx.opn_str3 Try.underlying46 (Sx.opn_str2 Try.underlying44 (Sx.opn_stringO Try.underlying9) (Sx.opn_stringO Try.underlying9) rfl (by kernel_rfl) (by kernel_rfl)) (Sx.opn_frac Try.underlying34 Try.underlying32 Try.underlying55 ⟨rfl,rfl⟩ ⟨rfl,rfl⟩ ⟨by kernel_rfl,by kernel_rfl,by kernel_rfl,by kernel_rfl⟩) (Sx.opn_int Try.underlying3) rfl (by kernel_rfl) (by kernel_rfl) (by kernel_rfl))) (fun _=>rfl) (by kernel_rfl) (by kernel_rfl) Try.underlying26 (hval 1 26 v1 rfl rfl) h1 (Sx.small_of hsz (j:=1) rfl rfl)
 obtain ⟨a2,rfl,rfl,rfl,w2⟩:=open_int Try.underlying3 (hval 2 3 v2 rfl rfl) h2
 clear hA0 hval0
 simp only[List.append_nil]at hW' hlt
 refine (Sx.law_callsM (us:=[v0,v1,.int .i64 a2]) (Sx.ochecks29_ok v0 v1 l0 l1 a2 g0 g1 o1 fun _ _=>rfl)).mono fun e W' ⟨he,hg⟩=>?_
 subst he
 refine ⟨_,rfl,Sx.post_of_below (pv:=[]) hW' (fun _ _ _=>(trodAll_cons_mk (shut_bool Try.underlying4 _) trodAll_mk0)) (fun sp hs=>Sx.trodAll_stays laid hg (by kernel_rfl) (fun x hx=>hlt x (by simpa using hx)) (fun x hx=>hs x (by simpa using hx)) hAk) (fun _ _=>rfl) (by simp)
  hg (ok_one (by kernel_rfl) rfl (okWide_bool_mk Try.underlying4 _))⟩
theorem over:Rows.orderChecksRow.holds Try.pinned (OpenSpec.ofChange Rows.orderChecksSpec):=
 OpenClaim.holds_of_wide 7 Try.f7 rfl rfl rfl rfl rfl rfl rfl ⟨rfl,rfl,rfl,rfl,rfl⟩ rfl rfl rfl rfl rfl (by kernel_rfl) Try.func7 (by kernel_rfl)
  (of_decide_eq_true (by kernel_rfl)) (by unfold Func.isWrapper;first|(rw[if_pos (by decide +kernel)];kernel_rfl)|(rw[if_neg (by decide +kernel)];exact ⟨rfl,rfl⟩))
  (fun os started H enc _=>lifted os started H enc)
theorem proved:Rows.OrderChecksSaid:=
 over
end Go.Proofs.Ytjapnklocibgaaa.orderChecks
