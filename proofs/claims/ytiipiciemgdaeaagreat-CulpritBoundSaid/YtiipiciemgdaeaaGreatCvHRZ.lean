/- Searches for culprits: the chance of a wrong decision is at most Delta times the chance to decide, and the chances of all ends are 1. -/
import Derived.Test.YtiipiciemgdaeaaGreatRows
import Derived.Test.YtiipiciemgdaeaaGreatCvHRQ
import Derived.Test.YtiipiciemgdaeaaGreatUACRow
namespace Go.Proofs.YtiipiciemgdaeaaGreat.culpritBound
open Go.ChangeShapes Go.WideShapes Go.ChangeAt Go.RowKit
theorem own:ownKnob Tryz.prog.godebug=none:=by kernel_rfl
theorem laid:laidOutB Tryz.prog=true:=by kernel_rfl
set_option maxRecDepth 100000 in
theorem lifted(os:Os)(started:os.Started)(H:Type)(enc:TypeId×Value→H) :
  ReturnsInHanded {} Tryz.checked os 8 .any (Rows.culpritBoundSpec.pre6 enc Tryz.prog Tryz.f8 Rows.culpritBoundRow.domain false) (Rows.culpritBoundSpec.post enc Tryz.prog Tryz.f8 false true false false):=by
 refine returnsInHanded_of_change (C:=Tryz.checked) own started (by kernel_rfl) Tryz.func8
  (ChangeSpec.witness6 (enc:=enc) (C:=Tryz.checked) false ⟨#[],#[.slice none 0 0],[]⟩ 8 (by kernel_rfl) (by kernel_rfl) (by kernel_rfl) (by kernel_rfl)) ?_
 intro W base args ds gs before hval0 hW hcnd _
 have hval:∀(j:Nat) t v,Tryz.f8.params[j]? = some t→args[j]? = some v→Value.okWide Tryz.prog W .any base t v:=hval0
 have hW':=hW
 have hlt:∀x∈before,x.block<W.heap.size:=fun x hx=>hW'.lt x hx
 obtain ⟨p,q,hA0,hV,rfl,hfz,hnd⟩:=hW
 have hA:DataW.TrodAll enc Tryz.prog W 0 (fun _=>true) true Tryz.f8.params.toList args.toList ds p:=hA0
 have hAk:=hA
 rw[Tryz.params8]at hA hval
 obtain ⟨v0,vs0,d0,ds0,p0,q0,hargs,rfl,rfl,h0,r0⟩:=trodAll_cons hA
 obtain ⟨rfl,rfl,rfl⟩:=trodAll_nil r0
 obtain rfl:args=#[v0]:=by cases args;simp_all
 obtain ⟨rfl,rfl⟩:=trodVars_none hV
 obtain ⟨l0,g0,b0,o0⟩:=Sx.open_sints (k:=.i64) Tryz.underlying22 Tryz.underlying3 (by kernel_rfl) (hval 0 22 v0 rfl rfl) h0
 clear hA0 hval0
 simp only[List.append_nil]at hW' hlt
 refine (Sx.law_callsM (us:=[v0]) (Sx.cbound36_ok v0 l0 g0 fun _ _=>rfl)).mono fun e W' ⟨he,hg⟩=>?_
 subst he
 refine ⟨_,rfl,Sx.post_of_below (pv:=[]) hW' (fun _ _ _=>(trodAll_cons_mk (shut_bool Tryz.underlying4 _) trodAll_mk0)) (fun sp hs=>Sx.trodAll_stays laid hg (by kernel_rfl) (fun x hx=>hlt x (by simpa using hx)) (fun x hx=>hs x (by simpa using hx)) hAk) (fun _ _=>rfl) (by simp)
  hg (ok_one (by kernel_rfl) rfl (okWide_bool_mk Tryz.underlying4 _))⟩
theorem over:Rows.culpritBoundRow.holds Tryz.pinned (OpenSpec.ofChange Rows.culpritBoundSpec):=
 OpenClaim.holds_of_wide 8 Tryz.f8 rfl rfl rfl rfl rfl rfl rfl ⟨rfl,rfl,rfl,rfl,rfl⟩ rfl rfl rfl rfl rfl (by kernel_rfl) Tryz.func8 (by kernel_rfl)
  (of_decide_eq_true (by kernel_rfl)) (by unfold Func.isWrapper;first|(rw[if_pos (by decide +kernel)];kernel_rfl)|(rw[if_neg (by decide +kernel)];exact ⟨rfl,rfl⟩))
  (fun os started H enc _=>lifted os started H enc)
theorem proved:Rows.CulpritBoundSaid:=
 over
end Go.Proofs.YtiipiciemgdaeaaGreat.culpritBound
