/- Groups: linked failures are in one group, and no group can be divided into two parts of which no members are linked. -/
import Derived.Test.YtoblkpomikokhaaRows
import Derived.Test.YtoblkpomikokhaaGpZRP3
import Derived.Test.YtoblkpomikokhaaGpZRCRow
namespace Go.Proofs.Ytoblkpomikokhaa.groupChains
open Go.ChangeShapes Go.WideShapes Go.ChangeAt Go.RowKit
theorem own:ownKnob Try.prog.godebug=none:=by kernel_rfl
theorem laid:laidOutB Try.prog=true:=by kernel_rfl
set_option maxRecDepth 100000 in
theorem lifted(os:Os)(started:os.Started)(H:Type)(enc:TypeId×Value→H) :
  ReturnsInHanded {} Try.checked os 5 .any (Rows.groupChainsSpec.pre6 enc Try.prog Try.f5 Rows.groupChainsRow.domain false) (Rows.groupChainsSpec.post enc Try.prog Try.f5 false true false false):=by
 refine returnsInHanded_of_change (C:=Try.checked) own started (by kernel_rfl) Try.func5
  (ChangeSpec.witness6 (enc:=enc) (C:=Try.checked) false ⟨#[],#[.slice none 0 0,.int .i64 0],[]⟩ 8 (by kernel_rfl) (by kernel_rfl) (by kernel_rfl) (by kernel_rfl)) ?_
 intro W base args ds gs before hval0 hW hcnd _
 have hval:∀(j:Nat) t v,Try.f5.params[j]? = some t→args[j]? = some v→Value.okWide Try.prog W .any base t v:=hval0
 have hW':=hW
 have hlt:∀x∈before,x.block<W.heap.size:=fun x hx=>hW'.lt x hx
 obtain ⟨p,q,hA0,hV,rfl,hfz,hnd⟩:=hW
 have hA:DataW.TrodAll enc Try.prog W 0 (fun _=>true) true Try.f5.params.toList args.toList ds p:=hA0
 have hAk:=hA
 rw[Try.params5]at hA hval
 obtain ⟨v0,vs0,d0,ds0,p0,q0,hargs,rfl,rfl,h0,r0⟩:=trodAll_cons hA
 obtain ⟨v1,vs1,d1,ds1,p1,q1,rfl,rfl,rfl,h1,r1⟩:=trodAll_cons r0
 obtain ⟨rfl,rfl,rfl⟩:=trodAll_nil r1
 obtain rfl:args=#[v0,v1]:=by cases args;simp_all
 obtain ⟨rfl,rfl⟩:=trodVars_none hV
 obtain ⟨l0,g0,b0,o0⟩:=Sx.open_sints (k:=.i64) Try.underlying25 Try.underlying3 (by kernel_rfl) (hval 0 25 v0 rfl rfl) h0
 obtain ⟨a1,rfl,rfl,rfl,w1⟩:=open_int Try.underlying3 (hval 1 3 v1 rfl rfl) h1
 clear hA0 hval0
 simp only[List.append_nil]at hW' hlt
 refine (Sx.law_callsM (us:=[v0,.int .i64 a1]) (Sx.chains27_ok v0 l0 a1 g0 fun _ _=>rfl)).mono fun e W' ⟨he,hg⟩=>?_
 subst he
 refine ⟨_,rfl,Sx.post_of_below (pv:=[]) hW' (fun _ _ _=>(trodAll_cons_mk (shut_bool Try.underlying4 _) trodAll_mk0)) (fun sp hs=>Sx.trodAll_stays laid hg (by kernel_rfl) (fun x hx=>hlt x (by simpa using hx)) (fun x hx=>hs x (by simpa using hx)) hAk) (fun _ _=>rfl) (by simp)
  hg (ok_one (by kernel_rfl) rfl (okWide_bool_mk Try.underlying4 _))⟩
theorem over:Rows.groupChainsRow.holds Try.pinned (OpenSpec.ofChange Rows.groupChainsSpec):=
 OpenClaim.holds_of_wide 5 Try.f5 rfl rfl rfl rfl rfl rfl rfl ⟨rfl,rfl,rfl,rfl,rfl⟩ rfl rfl rfl rfl rfl (by kernel_rfl) Try.func5 (by kernel_rfl)
  (of_decide_eq_true (by kernel_rfl)) (by unfold Func.isWrapper;first|(rw[if_pos (by decide +kernel)];kernel_rfl)|(rw[if_neg (by decide +kernel)];exact ⟨rfl,rfl⟩))
  (fun os started H enc _=>lifted os started H enc)
theorem proved:Rows.GroupChainsSaid:=
 over
end Go.Proofs.Ytoblkpomikokhaa.groupChains
