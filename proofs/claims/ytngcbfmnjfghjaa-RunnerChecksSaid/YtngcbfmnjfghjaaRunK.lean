/- The runner: a machine is refused by each exported function exactly when the reference calls it malformed. -/
import Derived.Test.YtngcbfmnjfghjaaRows
import Derived.Test.YtngcbfmnjfghjaaRunJ
import Derived.Test.YtngcbfmnjfghjaaRow
namespace Go.Proofs.Ytngcbfmnjfghjaa.runnerChecks
open Go.ChangeShapes Go.WideShapes Go.ChangeAt Go.RowKit

theorem own : ownKnob Try.prog.godebug = none := by kernel_rfl
theorem laid : laidOutB Try.prog = true := by kernel_rfl

set_option maxRecDepth 100000 in
theorem lifted (os : Os) (started : os.Started) (H : Type) (enc : TypeId × Value → H) :
    ReturnsInHanded {} Try.checked os 7 .any (Rows.runnerChecksSpec.pre6 enc Try.prog Try.f7 Rows.runnerChecksRow.domain false) (Rows.runnerChecksSpec.post enc Try.prog Try.f7 false true false false) := by
  refine returnsInHanded_of_change (C := Try.checked) own started (by kernel_rfl) Try.func7
    (ChangeSpec.witness6 (enc := enc) (C := Try.checked) false ⟨#[], #[.agg #[.int .i64 0, .int .i64 0, .int .i64 0, .int .i64 0, .int .i64 0, .bool false], .int .i64 0, .int .i64 0], []⟩ 8 (by kernel_rfl) (by kernel_rfl) (by kernel_rfl) (by kernel_rfl)) ?_
  intro W base args ds gs before hval0 hW hcnd _
  have hval : ∀ (j : Nat) t v, Try.f7.params[j]? = some t → args[j]? = some v → Value.okWide Try.prog W .any base t v := hval0
  have hW' := hW
  have hlt : ∀ x ∈ before, x.block < W.heap.size := fun x hx => hW'.lt x hx
  obtain ⟨p, q, hA0, hV, rfl, hfz, hnd⟩ := hW
  have hA : DataW.TrodAll enc Try.prog W 0 (fun _ => true) true Try.f7.params.toList args.toList ds p := hA0
  have hAk := hA
  rw [Try.params7] at hA hval
  obtain ⟨v0, vs0, d0, ds0, p0, q0, hargs, rfl, rfl, h0, r0⟩ := trodAll_cons hA
  obtain ⟨v1, vs1, d1, ds1, p1, q1, rfl, rfl, rfl, h1, r1⟩ := trodAll_cons r0
  obtain ⟨v2, vs2, d2, ds2, p2, q2, rfl, rfl, rfl, h2, r2⟩ := trodAll_cons r1
  obtain ⟨rfl, rfl, rfl⟩ := trodAll_nil r2
  obtain rfl : args = #[v0, v1, v2] := by cases args; simp_all
  obtain ⟨rfl, rfl⟩ := trodVars_none hV
  obtain ⟨cs0, rfl, cl0, cf0⟩ := Sx.open_str Try.underlying24 (hval 0 24 v0 rfl rfl) h0
  obtain ⟨q0_0, q0_1, q0_2, q0_3, q0_4, q0_5, rfl⟩ := Sx.len6 (cl0.trans (show Try.prog.cellsOf 24 = 6 by kernel_rfl))
  obtain ⟨_, _, e0_0⟩ := cf0 0 _ rfl
  obtain ⟨c0_0, r0_0, _, w0_0⟩ := DataW.trod_int Try.underlying3 e0_0
  obtain rfl := List.cons_eq_cons.1 (show [q0_0] = _ from r0_0) |>.1
  obtain ⟨_, _, e0_1⟩ := cf0 1 _ rfl
  obtain ⟨c0_1, r0_1, _, w0_1⟩ := DataW.trod_int Try.underlying3 e0_1
  obtain rfl := List.cons_eq_cons.1 (show [q0_1] = _ from r0_1) |>.1
  obtain ⟨_, _, e0_2⟩ := cf0 2 _ rfl
  obtain ⟨c0_2, r0_2, _, w0_2⟩ := DataW.trod_int Try.underlying3 e0_2
  obtain rfl := List.cons_eq_cons.1 (show [q0_2] = _ from r0_2) |>.1
  obtain ⟨_, _, e0_3⟩ := cf0 3 _ rfl
  obtain ⟨c0_3, r0_3, _, w0_3⟩ := DataW.trod_int Try.underlying3 e0_3
  obtain rfl := List.cons_eq_cons.1 (show [q0_3] = _ from r0_3) |>.1
  obtain ⟨_, _, e0_4⟩ := cf0 4 _ rfl
  obtain ⟨c0_4, r0_4, _, w0_4⟩ := DataW.trod_int Try.underlying3 e0_4
  obtain rfl := List.cons_eq_cons.1 (show [q0_4] = _ from r0_4) |>.1
  obtain ⟨_, _, e0_5⟩ := cf0 5 _ rfl
  obtain ⟨c0_5, r0_5, _⟩ := DataW.trod_bool Try.underlying4 e0_5
  obtain rfl := List.cons_eq_cons.1 (show [q0_5] = _ from r0_5) |>.1
  obtain ⟨a1, rfl, rfl, rfl, w1⟩ := open_int Try.underlying3 (hval 1 3 v1 rfl rfl) h1
  obtain ⟨a2, rfl, rfl, rfl, w2⟩ := open_int Try.underlying3 (hval 2 3 v2 rfl rfl) h2
  clear hA0 hval0
  simp only [List.append_nil] at hW' hlt
  refine (Sx.law_callsM (us := [.agg #[.int .i64 c0_0, .int .i64 c0_1, .int .i64 c0_2, .int .i64 c0_3, .int .i64 c0_4, .bool c0_5], .int .i64 a1, .int .i64 a2]) (Sx.checks_ok ⟨c0_0, c0_1, c0_2, c0_3, c0_4, c0_5⟩ a1 a2 fun _ _ => rfl)).mono fun e W' ⟨he, hg⟩ => ?_
  subst he
  refine ⟨_, rfl, Sx.post_of_below (pv := []) hW' (fun _ _ _ => (trodAll_cons_mk (shut_bool Try.underlying4 _) trodAll_mk0)) (fun sp hs => Sx.trodAll_stays laid hg (by kernel_rfl) (fun x hx => hlt x (by simpa using hx)) (fun x hx => hs x (by simpa using hx)) hAk) (fun _ _ => rfl) (by simp)
    hg (ok_one (by kernel_rfl) rfl (okWide_bool_mk Try.underlying4 _))⟩

theorem over : Rows.runnerChecksRow.holds Try.pinned (OpenSpec.ofChange Rows.runnerChecksSpec) :=
  OpenClaim.holds_of_wide 7 Try.f7 rfl rfl rfl rfl rfl rfl rfl ⟨rfl, rfl, rfl, rfl, rfl⟩ rfl rfl rfl rfl rfl (by kernel_rfl) Try.func7 (by kernel_rfl)
    (of_decide_eq_true (by kernel_rfl)) (by unfold Func.isWrapper; first | (rw [if_pos (by decide +kernel)]; kernel_rfl) | (rw [if_neg (by decide +kernel)]; exact ⟨rfl, rfl⟩))
    (fun os started H enc _ => lifted os started H enc)

theorem proved : Rows.RunnerChecksSaid :=
  over
end Go.Proofs.Ytngcbfmnjfghjaa.runnerChecks
