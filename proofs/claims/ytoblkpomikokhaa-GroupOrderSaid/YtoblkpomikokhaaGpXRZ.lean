/- Groups: the order of the failures changes nothing about who belongs together, and what groups are called. -/
import Derived.Test.YtoblkpomikokhaaRows
import Derived.Test.YtoblkpomikokhaaGpXRP3
import Derived.Test.YtoblkpomikokhaaGpXRCRow
namespace Go.Proofs.Ytoblkpomikokhaa.groupOrder
open Go.ChangeShapes Go.WideShapes Go.ChangeAt Go.RowKit
theorem own:ownKnob Try.prog.godebug=none:=by kernel_rfl
theorem laid:laidOutB Try.prog=true:=by kernel_rfl
set_option maxRecDepth 100000 in
theorem lifted(os:Os)(started:os.Started)(H:Type)(enc:TypeId×Value→H) :
  ReturnsInHanded {} Try.checked os 6 .any (Rows.groupOrderSpec.pre6 enc Try.prog Try.f6 Rows.groupOrderRow.domain false) (Rows.groupOrderSpec.post enc Try.prog Try.f6 false true false false):=by
 refine returnsInHanded_of_change (C:=Try.checked) own started (by kernel_rfl) Try.func6
  (ChangeSpec.witness6 (enc:=enc) (C:=Try.checked) false ⟨#[],#[.slice none 0 0,.slice none 0 0,.int .i64 0],[]⟩ 8 (by kernel_rfl) (by kernel_rfl) (by kernel_rfl) (by kernel_rfl)) ?_
 intro W base args ds gs before hval0 hW hcnd _
 have hval:∀(j:Nat) t v,Try.f6.params[j]? = some t→args[j]? = some v→Value.okWide Try.prog W .any base t v:=hval0
 have hW':=hW
 have hlt:∀x∈before,x.block<W.heap.size:=fun x hx=>hW'.lt x hx
 obtain ⟨p,q,hA0,hV,rfl,hfz,hnd⟩:=hW
 have hA:DataW.TrodAll enc Try.prog W 0 (fun _=>true) true Try.f6.params.toList args.toList ds p:=hA0
 have hAk:=hA
 rw[Try.params6]at hA hval
 obtain ⟨v0,vs0,d0,ds0,p0,q0,hargs,rfl,rfl,h0,r0⟩:=trodAll_cons hA
 obtain ⟨v1,vs1,d1,ds1,p1,q1,rfl,rfl,rfl,h1,r1⟩:=trodAll_cons r0
 obtain ⟨v2,vs2,d2,ds2,p2,q2,rfl,rfl,rfl,h2,r2⟩:=trodAll_cons r1
 obtain ⟨rfl,rfl,rfl⟩:=trodAll_nil r2
 obtain rfl:args=#[v0,v1,v2]:=by cases args;simp_all
 obtain ⟨rfl,rfl⟩:=trodVars_none hV
 obtain ⟨l0,g0,b0,o0⟩:=Sx.open_sints (k:=.i64) Try.underlying25 Try.underlying3 (by kernel_rfl) (hval 0 25 v0 rfl rfl) h0
 obtain ⟨l1,g1,b1,o1⟩:=Sx.open_sints (k:=.i64) Try.underlying25 Try.underlying3 (by kernel_rfl) (hval 1 25 v1 rfl rfl) h1
 obtain ⟨a2,rfl,rfl,rfl,w2⟩:=open_int Try.underlying3 (hval 2 3 v2 rfl rfl) h2
 clear hA0 hval0
 simp only[List.append_nil]at hW' hlt
 refine (Sx.law_callsM (us:=[v0,v1,.int .i64 a2]) (Sx.order27_ok v0 v1 l0 l1 a2 g0 g1 fun _ _=>rfl)).mono fun e W' ⟨he,hg⟩=>?_
 subst he
 refine ⟨_,rfl,Sx.post_of_below (pv:=[]) hW' (fun _ _ _=>(trodAll_cons_mk (shut_bool Try.underlying4 _) trodAll_mk0)) (fun sp hs=>Sx.trodAll_stays laid hg (by kernel_rfl) (fun x hx=>hlt x (by simpa using hx)) (fun x hx=>hs x (by simpa using hx)) hAk) (fun _ _=>rfl) (by simp)
  hg (ok_one (by kernel_rfl) rfl (okWide_bool_mk Try.underlying4 _))⟩
theorem over:Rows.groupOrderRow.holds Try.pinned (OpenSpec.ofChange Rows.groupOrderSpec):=
 OpenClaim.holds_of_wide 6 Try.f6 rfl rfl rfl rfl rfl rfl rfl ⟨rfl,rfl,rfl,rfl,rfl⟩ rfl rfl rfl rfl rfl (by kernel_rfl) Try.func6 (by kernel_rfl)
  (of_decide_eq_true (by kernel_rfl)) (by unfold Func.isWrapper;first|(rw[if_pos (by decide +kernel)];kernel_rfl)|(rw[if_neg (by decide +kernel)];exact ⟨rfl,rfl⟩))
  (fun os started H enc _=>lifted os started H enc)
theorem proved:Rows.GroupOrderSaid:=
 over
end Go.Proofs.Ytoblkpomikokhaa.groupOrder
