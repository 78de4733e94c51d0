import Derived.Test.YtlndhpljajlneaaDoorRefN
import Derived.Test.YtlndhpljajlneaaDoorByt
/- Numbers: the program reads the digits of a number. -/
namespace Go.Proofs.YtlndhpljajlneaaDoor.Sx
open Go Go.RowKit
set_option linter.unusedVariables false
set_option linter.unusedSimpArgs false
set_option maxRecDepth 100000
set_option maxHeartbeats 8000000
attribute [local congr] fin_congr finG_congr stepG_congr step1_congr runOps_congr brv_congr obl_congr condK_congr LoopK_congr seqK_congr CutK_congr vc_congr DrawK_congr regK_congr CallK_congr AskK_congr newK_congr retC_congr ret1_congr retK_congr outV_congr closeK_congr genR_congr appR_congr finD_congr finGD_congr stepGD_congr stepD_congr CallK0_congr runD_congr okR_congr CallS_congr vcX_congr
attribute [local congr] Stop_congr
theorem dg_sub64 {b : UInt8} (h : dgT b = true) : IntKind.u64.wrap (IntKind.u8.wrap ((b.toNat : Int) - 48)) = ((dgV b : Nat) : Int) := by
  obtain ⟨h1, h2⟩ := dg_sub h
  rw [h1, wrap64_id (by omega)]
theorem updM_le2 {M : Mem} {b : Nat} {o : Obj} (h : M b = none) : Mem.le M (updM M b o) := fun x y hx => by
  by_cases e : x = b
  · subst e; rw [h] at hx; cases hx
  · rw [updM_ne e]; exact hx
section
variable {M : Mem} {K : AV → Hp → Mem → Prop}
def npaSt (M : Mem) (l : List UInt8) : St := { env := [(0, .ext (.string (bs l)))], hp := [], M := M, kb := 0, fx := [] }
def npbSt (M : Mem) (r : List UInt8) (w : Value) : St := { env := [(4, .ext w), (0, .ext (.string (bs r)))], hp := [], M := M, kb := 0, fx := [] }
def npcSt (M : Mem) (r : List UInt8) (w : Value) (n : Nat) (b cap j part power : Nat) : St := { env := [(43, .ext (.int .i64 (j : Int))), (42, .ext (.int .i64 (n : Int))), (41, .ext (.slice (some ⟨b, 0, none⟩) n cap)), (7, .ext (.int .u64 (power : Int))), (6, .ext (.int .u64 (part : Int))), (5, .ext (.int .i64 (n : Int))), (4, .ext w), (0, .ext (.string (bs r)))], hp := [], M := M, kb := 0, fx := [] }
theorem nparse_ok (l : List UInt8) (hl : l.length < 1000000000) (hK : NatR M K (parR l)) : CallS Tryd.prog 28 [.ext (.string (bs l))] [] M [] K := by
  refine inlS (cs := [5]) Tryd.mixed Tryd.func28 rfl (by kernel_rfl) 0 rfl rfl ?_
  simp only [Tryd.f28]
  unfold parR at hK
  by_cases h13 : 1300 < l.length
  · have d1 : decide ((1300 : Int) < (l.length : Int)) = true := by rw [decide_eq_true_eq]; omega
    rw [if_pos h13] at hK
    (replace hb0 := true_and True); refine Go1.mk ?_; repeat' ((first | (with_reducible refine Go1.go ?_) | ((with_reducible first | refine brv_mk ?_ ?_ | refine gsplitD ?_ ?_ | refine gsplitG ?_ ?_) <;> intro h <;> (try simp only [Bool.not_eq_true', Bool.not_eq_false'] at h) <;> replace hb0 := h) | (refine And.intro ?ob ?_; case ob => ((try simp only [sxO, ne_eq, maxLen] at *); omega)) | fail) <;> (try simp (config := { maxSteps := 1000000 }) only [hb0, d1, bs_mk, bs_app, bs_ext, bs_size, bs_toList, bs_at, bs_cells, List.take_length, imp_ga, guard_pk, guard_pk2, ↓hold_pre, awayP, runOps, regK, step1, newK, genR, appR, obl, buildR, Value.cells, closeK, keepH, outV, retK, ret1, retC, RetV, Option.getD, runD, stepD, afterK, undef, simprocAttr, sxB, ↓sxD, sxE, sxTab]))
    exact NatR.err _ hK
  have d1 : decide ((1300 : Int) < (l.length : Int)) = false := by rw [decide_eq_false_iff_not]; omega
  rw [if_neg h13] at hK
  (replace hb0 := true_and True); refine Go1.mk ?_; repeat' ((first | (with_reducible refine Go1.go ?_) | ((with_reducible first | refine brv_mk ?_ ?_ | refine gsplitD ?_ ?_ | refine gsplitG ?_ ?_) <;> intro h <;> (try simp only [Bool.not_eq_true', Bool.not_eq_false'] at h) <;> replace hb0 := h) | (refine And.intro ?ob ?_; case ob => ((try simp only [sxO, ne_eq, maxLen] at *); omega)) | fail) <;> (try simp (config := { maxSteps := 1000000 }) only [hb0, d1, bs_mk, bs_app, bs_ext, bs_size, bs_toList, bs_at, bs_cells, List.take_length, imp_ga, guard_pk, guard_pk2, ↓hold_pre, awayP, runOps, regK, step1, newK, genR, appR, obl, buildR, Value.cells, closeK, keepH, outV, retK, ret1, retC, RetV, Option.getD, runD, stepD, afterK, undef, simprocAttr, sxB, ↓sxD, sxE, sxTab]))
  refine ⟨fun z => ¬ (l = [] ∨ (1 < l.length ∧ l.getD 0 0 = 48)) ∧ l.all dgT = true ∧ z = npaSt M l, ?_, ?_⟩
  · by_cases hne : l = []
    · subst hne
      have e1 : (([] : List UInt8) == []) = true := rfl
      (replace hb0 := true_and True); refine Go1.mk ?_; repeat' ((first | (with_reducible refine Go1.go ?_) | ((with_reducible first | refine brv_mk ?_ ?_ | refine gsplitD ?_ ?_ | refine gsplitG ?_ ?_) <;> intro h <;> (try simp only [Bool.not_eq_true', Bool.not_eq_false'] at h) <;> replace hb0 := h) | (refine And.intro ?ob ?_; case ob => ((try simp only [sxO, ne_eq, maxLen] at *); omega)) | fail) <;> (try simp (config := { maxSteps := 1000000 }) only [hb0, e1, bs_mk, bs_app, bs_ext, bs_size, bs_toList, bs_at, bs_cells, List.take_length, imp_ga, guard_pk, guard_pk2, ↓hold_pre, awayP, runOps, regK, step1, newK, genR, appR, obl, buildR, Value.cells, closeK, keepH, outV, retK, ret1, retC, RetV, Option.getD, runD, stepD, afterK, undef, simprocAttr, sxB, ↓sxD, sxE, sxTab]))
      exact NatR.err _ hK
    have e1 : (l == []) = false := by simpa using hne
    have d0 : (0 : Int) < (l.length : Int) := by
      have := List.length_pos_iff.2 hne
      omega
    by_cases h1 : 1 < l.length
    · have d2 : decide ((1 : Int) < (l.length : Int)) = true := by rw [decide_eq_true_eq]; omega
      by_cases hz : l.getD 0 0 = 48
      · have d4 : decide (((l.getD 0 0).toNat : Int) = 48) = true := by rw [hz]; rfl
        rw [if_pos (.inr ⟨h1, hz⟩)] at hK
        (replace hb0 := true_and True); refine Go1.mk ?_; repeat' ((first | (with_reducible refine Go1.go ?_) | ((with_reducible first | refine brv_mk ?_ ?_ | refine gsplitD ?_ ?_ | refine gsplitG ?_ ?_) <;> intro h <;> (try simp only [Bool.not_eq_true', Bool.not_eq_false'] at h) <;> replace hb0 := h) | (refine And.intro ?ob ?_; case ob => ((try simp only [sxO, ne_eq, maxLen] at *); omega)) | fail) <;> (try simp (config := { maxSteps := 1000000 }) only [hb0, e1, d0, d2, d4, bs_mk, bs_app, bs_ext, bs_size, bs_toList, bs_at, bs_cells, List.take_length, imp_ga, guard_pk, guard_pk2, ↓hold_pre, awayP, runOps, regK, step1, newK, genR, appR, obl, buildR, Value.cells, closeK, keepH, outV, retK, ret1, retC, RetV, Option.getD, runD, stepD, afterK, undef, simprocAttr, sxB, ↓sxD, sxE, sxTab]))
        exact NatR.err _ hK
      · have d4 : decide (((l.getD 0 0).toNat : Int) = 48) = false := by
          rw [decide_eq_false_iff_not]
          intro e
          exact hz (UInt8.toNat_inj.1 (show (l.getD 0 0).toNat = (48 : UInt8).toNat by rw [show (48 : UInt8).toNat = 48 from rfl]; omega))
        have hh : ¬ (l = [] ∨ (1 < l.length ∧ l.getD 0 0 = 48)) := fun h => by
          rcases h with h | h
          · exact hne h
          · exact hz h.2
        rw [if_neg hh] at hK
        (replace hb0 := true_and True); refine Go1.mk ?_; repeat' ((first | (with_reducible refine Go1.go ?_) | ((with_reducible first | refine brv_mk ?_ ?_ | refine gsplitD ?_ ?_ | refine gsplitG ?_ ?_) <;> intro h <;> (try simp only [Bool.not_eq_true', Bool.not_eq_false'] at h) <;> replace hb0 := h) | ((first | (with_reducible refine isCall (f := 52) ?_; refine callA_nil (by kernel_rfl) ?_) | (with_reducible refine isCall0 (f := 52) ?_; refine callA0_nil (by kernel_rfl) ?_)); refine (strTrim_ok l hl (fun r hr => Stop.mk ?_))) | (refine And.intro ?ob ?_; case ob => ((try simp only [sxO, ne_eq, maxLen] at *); omega)) | fail) <;> (try simp (config := { maxSteps := 1000000 }) only [hb0, e1, d0, d2, d4, bs_mk, bs_app, bs_ext, bs_size, bs_toList, bs_at, bs_cells, List.take_length, imp_ga, guard_pk, guard_pk2, ↓hold_pre, awayP, runOps, regK, step1, newK, genR, appR, obl, buildR, Value.cells, closeK, keepH, outV, retK, ret1, retC, RetV, Option.getD, runD, stepD, afterK, undef, simprocAttr, sxB, ↓sxD, sxE, sxTab]))
        refine Stop.go ?_
        by_cases hr0 : r = []
        · have e2 : (r == []) = true := by simpa using hr0
          (replace hb0 := true_and True); refine Go1.mk ?_; repeat' ((first | (with_reducible refine Go1.go ?_) | ((with_reducible first | refine brv_mk ?_ ?_ | refine gsplitD ?_ ?_ | refine gsplitG ?_ ?_) <;> intro h <;> (try simp only [Bool.not_eq_true', Bool.not_eq_false'] at h) <;> replace hb0 := h) | (refine And.intro ?ob ?_; case ob => ((try simp only [sxO, ne_eq, maxLen] at *); omega)) | fail) <;> (try simp (config := { maxSteps := 1000000 }) only [hb0, e2, bs_mk, bs_app, bs_ext, bs_size, bs_toList, bs_at, bs_cells, List.take_length, imp_ga, guard_pk, guard_pk2, ↓hold_pre, awayP, runOps, regK, step1, newK, genR, appR, obl, buildR, Value.cells, closeK, keepH, outV, retK, ret1, retC, RetV, Option.getD, runD, stepD, afterK, undef, simprocAttr, sxB, ↓sxD, sxE, sxTab]))
          exact ⟨npaSt M l, le_sub ⟨rfl, trivial⟩ trivial rfl rfl rfl (keepLt0 _), hh, List.all_eq_true.2 (hr.1 hr0), rfl⟩
        · have e2 : (r == []) = false := by simpa using hr0
          rw [if_neg (fun h => hr0 (hr.2 (List.all_eq_true.1 h)))] at hK
          (replace hb0 := true_and True); refine Go1.mk ?_; repeat' ((first | (with_reducible refine Go1.go ?_) | ((with_reducible first | refine brv_mk ?_ ?_ | refine gsplitD ?_ ?_ | refine gsplitG ?_ ?_) <;> intro h <;> (try simp only [Bool.not_eq_true', Bool.not_eq_false'] at h) <;> replace hb0 := h) | (refine And.intro ?ob ?_; case ob => ((try simp only [sxO, ne_eq, maxLen] at *); omega)) | fail) <;> (try simp (config := { maxSteps := 1000000 }) only [hb0, e2, bs_mk, bs_app, bs_ext, bs_size, bs_toList, bs_at, bs_cells, List.take_length, imp_ga, guard_pk, guard_pk2, ↓hold_pre, awayP, runOps, regK, step1, newK, genR, appR, obl, buildR, Value.cells, closeK, keepH, outV, retK, ret1, retC, RetV, Option.getD, runD, stepD, afterK, undef, simprocAttr, sxB, ↓sxD, sxE, sxTab]))
          exact NatR.err _ hK
    · have d2 : decide ((1 : Int) < (l.length : Int)) = false := by rw [decide_eq_false_iff_not]; omega
      have hh : ¬ (l = [] ∨ (1 < l.length ∧ l.getD 0 0 = 48)) := fun h => by
        rcases h with h | h
        · exact hne h
        · exact h1 h.1
      rw [if_neg hh] at hK
      (replace hb0 := true_and True); refine Go1.mk ?_; repeat' ((first | (with_reducible refine Go1.go ?_) | ((with_reducible first | refine brv_mk ?_ ?_ | refine gsplitD ?_ ?_ | refine gsplitG ?_ ?_) <;> intro h <;> (try simp only [Bool.not_eq_true', Bool.not_eq_false'] at h) <;> replace hb0 := h) | ((first | (with_reducible refine isCall (f := 52) ?_; refine callA_nil (by kernel_rfl) ?_) | (with_reducible refine isCall0 (f := 52) ?_; refine callA0_nil (by kernel_rfl) ?_)); refine (strTrim_ok l hl (fun r hr => Stop.mk ?_))) | (refine And.intro ?ob ?_; case ob => ((try simp only [sxO, ne_eq, maxLen] at *); omega)) | fail) <;> (try simp (config := { maxSteps := 1000000 }) only [hb0, e1, d0, d2, bs_mk, bs_app, bs_ext, bs_size, bs_toList, bs_at, bs_cells, List.take_length, imp_ga, guard_pk, guard_pk2, ↓hold_pre, awayP, runOps, regK, step1, newK, genR, appR, obl, buildR, Value.cells, closeK, keepH, outV, retK, ret1, retC, RetV, Option.getD, runD, stepD, afterK, undef, simprocAttr, sxB, ↓sxD, sxE, sxTab]))
      refine Stop.go ?_
      by_cases hr0 : r = []
      · have e2 : (r == []) = true := by simpa using hr0
        (replace hb0 := true_and True); refine Go1.mk ?_; repeat' ((first | (with_reducible refine Go1.go ?_) | ((with_reducible first | refine brv_mk ?_ ?_ | refine gsplitD ?_ ?_ | refine gsplitG ?_ ?_) <;> intro h <;> (try simp only [Bool.not_eq_true', Bool.not_eq_false'] at h) <;> replace hb0 := h) | (refine And.intro ?ob ?_; case ob => ((try simp only [sxO, ne_eq, maxLen] at *); omega)) | fail) <;> (try simp (config := { maxSteps := 1000000 }) only [hb0, e2, bs_mk, bs_app, bs_ext, bs_size, bs_toList, bs_at, bs_cells, List.take_length, imp_ga, guard_pk, guard_pk2, ↓hold_pre, awayP, runOps, regK, step1, newK, genR, appR, obl, buildR, Value.cells, closeK, keepH, outV, retK, ret1, retC, RetV, Option.getD, runD, stepD, afterK, undef, simprocAttr, sxB, ↓sxD, sxE, sxTab]))
        exact ⟨npaSt M l, le_sub ⟨rfl, trivial⟩ trivial rfl rfl rfl (keepLt0 _), hh, List.all_eq_true.2 (hr.1 hr0), rfl⟩
      · have e2 : (r == []) = false := by simpa using hr0
        rw [if_neg (fun h => hr0 (hr.2 (List.all_eq_true.1 h)))] at hK
        (replace hb0 := true_and True); refine Go1.mk ?_; repeat' ((first | (with_reducible refine Go1.go ?_) | ((with_reducible first | refine brv_mk ?_ ?_ | refine gsplitD ?_ ?_ | refine gsplitG ?_ ?_) <;> intro h <;> (try simp only [Bool.not_eq_true', Bool.not_eq_false'] at h) <;> replace hb0 := h) | (refine And.intro ?ob ?_; case ob => ((try simp only [sxO, ne_eq, maxLen] at *); omega)) | fail) <;> (try simp (config := { maxSteps := 1000000 }) only [hb0, e2, bs_mk, bs_app, bs_ext, bs_size, bs_toList, bs_at, bs_cells, List.take_length, imp_ga, guard_pk, guard_pk2, ↓hold_pre, awayP, runOps, regK, step1, newK, genR, appR, obl, buildR, Value.cells, closeK, keepH, outV, retK, ret1, retC, RetV, Option.getD, runD, stepD, afterK, undef, simprocAttr, sxB, ↓sxD, sxE, sxTab]))
        exact NatR.err _ hK
  rintro z ⟨hh, hall, rfl⟩
  rw [if_neg hh, if_pos hall] at hK
  have hall := List.all_eq_true.1 hall
  (replace hb0 := true_and True); refine Go1.mk ?_; repeat' ((first | (with_reducible refine Go1.go ?_) | ((with_reducible first | refine brv_mk ?_ ?_ | refine gsplitD ?_ ?_ | refine gsplitG ?_ ?_) <;> intro h <;> (try simp only [Bool.not_eq_true', Bool.not_eq_false'] at h) <;> replace hb0 := h) | (refine And.intro ?ob ?_; case ob => ((try simp only [sxO, ne_eq, maxLen] at *); omega)) | fail) <;> (try simp (config := { maxSteps := 1000000 }) only [hb0, npaSt, bs_mk, bs_app, bs_ext, bs_size, bs_toList, bs_at, bs_cells, List.take_length, imp_ga, guard_pk, guard_pk2, ↓hold_pre, awayP, runOps, regK, step1, newK, genR, appR, obl, buildR, Value.cells, closeK, keepH, outV, retK, ret1, retC, RetV, Option.getD, runD, stepD, afterK, undef, simprocAttr, sxB, ↓sxD, sxE, sxTab]))
  refine ⟨fun d z => ∃ M' w p r, d = r.length ∧ p ++ r = l ∧ Mem.le M M' ∧ IsL M' u32V w (ofN (numB p)) ∧ FreshS M w ∧ z = npbSt M' r w,
    ⟨l.length, npbSt M l (.slice none 0 0), le_sub ⟨rfl, rfl, trivial⟩ trivial rfl rfl rfl (keepLt0 _), ⟨M, _, [], l, rfl, rfl, Mem.le.refl _, by rw [show numB [] = 0 from rfl, ofN_zero]; exact isL_nil _ _ _, freshS_nil _ _, rfl⟩⟩, ?_⟩
  rintro d z ⟨M1, w, p, r, rfl, hpr, hM1, hw, hwf, rfl⟩
  have hll : p.length + r.length = l.length := by rw [← hpr, List.length_append]
  have hp : ∀ b ∈ p, dgT b = true := fun b hb => hall b (by rw [← hpr]; simp [hb])
  have hr : ∀ b ∈ r, dgT b = true := fun b hb => hall b (by rw [← hpr]; simp [hb])
  have hwl := ten_len (numB_len hp)
  by_cases hr0 : r.length = 0
  · have hrn : r = [] := List.length_eq_zero_iff.1 hr0
    subst hrn
    rw [List.append_nil] at hpr
    subst hpr
    obtain ⟨k1, k2⟩ := hK.lim hM1 hw hwf
    have n0 : ([] : List UInt8).length = 0 := rfl
    have d2 : decide ((0 : Int) < ((0 : Nat) : Int)) = false := by decide
    by_cases h : (ofN (numB p)).length ≤ 128
    · (replace hb0 := true_and True); refine Go1.mk ?_; repeat' ((first | (with_reducible refine Go1.go ?_) | ((with_reducible first | refine brv_mk ?_ ?_ | refine gsplitD ?_ ?_ | refine gsplitG ?_ ?_) <;> intro h <;> (try simp only [Bool.not_eq_true', Bool.not_eq_false'] at h) <;> replace hb0 := h) | ((first | (with_reducible refine isCall (f := 55) ?_; refine callA_nil (by kernel_rfl) ?_) | (with_reducible refine isCall0 (f := 55) ?_; refine callA0_nil (by kernel_rfl) ?_)); refine (limit_ok w _ hw (fun _ => Stop.mk ?_) (fun h2 => absurd h (by omega)))) | (refine And.intro ?ob ?_; case ob => ((try simp only [sxO, ne_eq, maxLen] at *); omega)) | fail) <;> (try simp (config := { maxSteps := 1000000 }) only [hb0, npbSt, hw.one, n0, d2, bs_mk, bs_app, bs_ext, bs_size, bs_toList, bs_at, bs_cells, List.take_length, imp_ga, guard_pk, guard_pk2, ↓hold_pre, awayP, runOps, regK, step1, newK, genR, appR, obl, buildR, Value.cells, closeK, keepH, outV, retK, ret1, retC, RetV, Option.getD, runD, stepD, afterK, undef, simprocAttr, sxB, ↓sxD, sxE, sxTab]))
      refine Stop.go ?_
      (replace hb0 := true_and True); refine Go1.mk ?_; repeat' ((first | (with_reducible refine Go1.go ?_) | ((with_reducible first | refine brv_mk ?_ ?_ | refine gsplitD ?_ ?_ | refine gsplitG ?_ ?_) <;> intro h <;> (try simp only [Bool.not_eq_true', Bool.not_eq_false'] at h) <;> replace hb0 := h) | (refine And.intro ?ob ?_; case ob => ((try simp only [sxO, ne_eq, maxLen] at *); omega)) | fail) <;> (try simp (config := { maxSteps := 1000000 }) only [hb0, hw.one, bs_mk, bs_app, bs_ext, bs_size, bs_toList, bs_at, bs_cells, List.take_length, imp_ga, guard_pk, guard_pk2, ↓hold_pre, awayP, runOps, regK, step1, newK, genR, appR, obl, buildR, Value.cells, closeK, keepH, outV, retK, ret1, retC, RetV, Option.getD, runD, stepD, afterK, undef, simprocAttr, sxB, ↓sxD, sxE, sxTab]))
      exact k1 h
    · (replace hb0 := true_and True); refine Go1.mk ?_; repeat' ((first | (with_reducible refine Go1.go ?_) | ((with_reducible first | refine brv_mk ?_ ?_ | refine gsplitD ?_ ?_ | refine gsplitG ?_ ?_) <;> intro h <;> (try simp only [Bool.not_eq_true', Bool.not_eq_false'] at h) <;> replace hb0 := h) | ((first | (with_reducible refine isCall (f := 55) ?_; refine callA_nil (by kernel_rfl) ?_) | (with_reducible refine isCall0 (f := 55) ?_; refine callA0_nil (by kernel_rfl) ?_)); refine (limit_ok w _ hw (fun h2 => absurd h2 h) (fun _ => Stop.mk ?_))) | (refine And.intro ?ob ?_; case ob => ((try simp only [sxO, ne_eq, maxLen] at *); omega)) | fail) <;> (try simp (config := { maxSteps := 1000000 }) only [hb0, npbSt, hw.one, n0, d2, bs_mk, bs_app, bs_ext, bs_size, bs_toList, bs_at, bs_cells, List.take_length, imp_ga, guard_pk, guard_pk2, ↓hold_pre, awayP, runOps, regK, step1, newK, genR, appR, obl, buildR, Value.cells, closeK, keepH, outV, retK, ret1, retC, RetV, Option.getD, runD, stepD, afterK, undef, simprocAttr, sxB, ↓sxD, sxE, sxTab]))
      refine Stop.go ?_
      (replace hb0 := true_and True); refine Go1.mk ?_; repeat' ((first | (with_reducible refine Go1.go ?_) | ((with_reducible first | refine brv_mk ?_ ?_ | refine gsplitD ?_ ?_ | refine gsplitG ?_ ?_) <;> intro h <;> (try simp only [Bool.not_eq_true', Bool.not_eq_false'] at h) <;> replace hb0 := h) | (refine And.intro ?ob ?_; case ob => ((try simp only [sxO, ne_eq, maxLen] at *); omega)) | fail) <;> (try simp (config := { maxSteps := 1000000 }) only [hb0, bs_mk, bs_app, bs_ext, bs_size, bs_toList, bs_at, bs_cells, List.take_length, imp_ga, guard_pk, guard_pk2, ↓hold_pre, awayP, runOps, regK, step1, newK, genR, appR, obl, buildR, Value.cells, closeK, keepH, outV, retK, ret1, retC, RetV, Option.getD, runD, stepD, afterK, undef, simprocAttr, sxB, ↓sxD, sxE, sxTab]))
      exact k2 (by omega)
  obtain ⟨n, hn⟩ : ∃ n, n = (r.length - 1) % 9 + 1 := ⟨_, rfl⟩
  have hn9 : n ≤ 9 := by omega
  have hnr : n ≤ r.length := by omega
  have d2 : decide ((0 : Int) < (r.length : Int)) = true := by rw [decide_eq_true_eq]; omega
  have w1 : IntKind.i64.wrap ((r.length : Int) - 1) = ((r.length - 1 : Nat) : Int) := pred_i (by omega) (by omega)
  have w2 : ((r.length - 1 : Nat) : Int).tmod 9 = (((r.length - 1) % 9 : Nat) : Int) := by rw [show (9 : Int) = ((9 : Nat) : Int) from rfl, ← Int.ofNat_tmod]
  have w3 : IntKind.i64.wrap ((((r.length - 1) % 9 : Nat) : Int) + 1) = (n : Int) := by rw [succ_i (by omega), ← hn]
  have a1 : (0 : Int) ≤ (n : Int) := by omega
  have a2 : (n : Int) ≤ (r.length : Int) := by omega
  have n9 : ((9 : Int) ≠ 0) = True := by decide
  (replace hb0 := true_and True); refine Go1.mk ?_; repeat' ((first | (with_reducible refine Go1.go ?_) | ((with_reducible first | refine brv_mk ?_ ?_ | refine gsplitD ?_ ?_ | refine gsplitG ?_ ?_) <;> intro h <;> (try simp only [Bool.not_eq_true', Bool.not_eq_false'] at h) <;> replace hb0 := h) | (refine And.intro ?ob ?_; case ob => ((try simp only [sxO, ne_eq, maxLen] at *); omega)) | fail) <;> (try simp (config := { maxSteps := 1000000 }) only [hb0, npbSt, hw.one, d2, w1, w2, w3, a1, a2, List.drop_zero, bs_mk, bs_app, bs_ext, bs_size, bs_toList, bs_at, bs_cells, List.take_length, imp_ga, guard_pk, guard_pk2, ↓hold_pre, awayP, runOps, regK, step1, newK, genR, appR, obl, buildR, Value.cells, closeK, keepH, outV, retK, ret1, retC, RetV, Option.getD, runD, stepD, afterK, undef, simprocAttr, sxB, ↓sxD, sxE, sxTab]))
  obtain ⟨g, hg⟩ : ∃ g, g = r.take n := ⟨_, rfl⟩
  have hgl : g.length = n := by rw [hg, List.length_take]; omega
  have hgd : ∀ b ∈ g, dgT b = true := fun b hb => hr b (List.mem_of_mem_take (hg ▸ hb))
  refine ask_bytesOf (E := 5) (l := g) rfl (by kernel_rfl) (by kernel_rfl) (by kernel_rfl) (by rw [hg]; rfl) (fun b ob cap hb hbuf hcap => ?_)
  have hb : M1 b = none := hb
  have hbuf : BufM (updM M1 b ob) b 5 g := hbuf
  have hM2 : Mem.le M1 (updM M1 b ob) := updM_le2 hb
  generalize updM M1 b ob = M2 at *
  have hw2 := hw.le hM2
  (replace hb0 := true_and True); refine Go1.mk ?_; repeat' ((first | (with_reducible refine Go1.go ?_) | ((with_reducible first | refine brv_mk ?_ ?_ | refine gsplitD ?_ ?_ | refine gsplitG ?_ ?_) <;> intro h <;> (try simp only [Bool.not_eq_true', Bool.not_eq_false'] at h) <;> replace hb0 := h) | (refine And.intro ?ob ?_; case ob => ((try simp only [sxO, ne_eq, maxLen] at *); omega)) | fail) <;> (try simp (config := { maxSteps := 1000000 }) only [hb0, St.put, hgl, bs_mk, bs_app, bs_ext, bs_size, bs_toList, bs_at, bs_cells, List.take_length, imp_ga, guard_pk, guard_pk2, ↓hold_pre, awayP, runOps, regK, step1, newK, genR, appR, obl, buildR, Value.cells, closeK, keepH, outV, retK, ret1, retC, RetV, Option.getD, runD, stepD, afterK, undef, simprocAttr, sxB, ↓sxD, sxE, sxTab]))
  refine ⟨fun d z => ∃ j, j ≤ n ∧ d = n - j ∧ z = npcSt M2 r w n b cap j (numB (g.take j)) (10 ^ j), ⟨n, npcSt M2 r w n b cap 0 0 1, le_sub ⟨rfl, rfl, rfl, rfl, rfl, rfl, rfl, rfl, trivial⟩ trivial rfl rfl rfl (keepLt0 _) (fun _ h => by cases h), ⟨0, by omega, by omega, rfl⟩⟩, ?_⟩
  rintro d z ⟨j, hj, rfl, rfl⟩
  have hgj : ∀ b ∈ g.take j, dgT b = true := fun b hb => hgd b (List.mem_of_mem_take hb)
  have hpj := numB_len hgj
  rw [List.length_take, Nat.min_eq_left (by omega)] at hpj
  have h10 : 10 ^ j ≤ 1000000000 := Nat.le_trans (Nat.pow_le_pow_right (by decide) (show j ≤ 9 by omega)) (by decide)
  by_cases hlt : j < n
  · have d3 : decide ((j : Int) < (n : Int)) = true := by rw [decide_eq_true_eq]; omega
    have hjg : j < g.length := by omega
    have b1 : (0 : Int) ≤ (j : Int) := by omega
    have b2 : (j : Int) < (n : Int) := by omega
    have hat := hbuf.at (P := Tryd.prog) (n := n) (cap := cap) tk5 tz5 hjg
    have htk : g.take (j + 1) = g.take j ++ [g[j]] := by rw [List.take_add_one, List.getElem?_eq_getElem hjg]; rfl
    have hc := hgd _ (List.getElem_mem hjg)
    generalize g[j] = c at *
    have hx1 := dg_sub64 hc
    have hdc := (dg_sub hc).2
    have v1 : IntKind.u64.wrap (10 * ((numB (g.take j) : Nat) : Int)) = ((10 * numB (g.take j) : Nat) : Int) := by rw [show (10 : Int) * ((numB (g.take j) : Nat) : Int) = ((10 * numB (g.take j) : Nat) : Int) by omega, wrap64_id (by omega)]
    have v2 : IntKind.u64.wrap (((10 * numB (g.take j) : Nat) : Int) + ((dgV c : Nat) : Int)) = ((numB (g.take (j + 1)) : Nat) : Int) := by rw [htk, numB_snoc, show ((10 * numB (g.take j) : Nat) : Int) + ((dgV c : Nat) : Int) = ((10 * numB (g.take j) + dgV c : Nat) : Int) by omega, wrap64_id (by omega)]
    have v3 : IntKind.u64.wrap (10 * ((10 ^ j : Nat) : Int)) = ((10 ^ (j + 1) : Nat) : Int) := by rw [Nat.pow_succ, show (10 : Int) * ((10 ^ j : Nat) : Int) = ((10 ^ j * 10 : Nat) : Int) by omega, wrap64_id (by omega)]
    have v4 : IntKind.i64.wrap ((j : Int) + 1) = ((j + 1 : Nat) : Int) := succ_i (by omega)
    generalize numB (g.take j) = pj at *
    generalize hq1 : numB (g.take (j + 1)) = pj1 at *
    generalize hq2 : 10 ^ (j + 1) = tj1 at *
    generalize 10 ^ j = tj at *
    (replace hb0 := true_and True); refine Go1.mk ?_; repeat' ((first | (with_reducible refine Go1.go ?_) | ((with_reducible first | refine brv_mk ?_ ?_ | refine gsplitD ?_ ?_ | refine gsplitG ?_ ?_) <;> intro h <;> (try simp only [Bool.not_eq_true', Bool.not_eq_false'] at h) <;> replace hb0 := h) | (refine And.intro ?ob ?_; case ob => ((try simp only [sxO, ne_eq, maxLen] at *); omega)) | fail) <;> (try simp (config := { maxSteps := 1000000 }) only [hb0, npcSt, d3, b1, b2, hat, u8V, hx1, v1, v2, v3, v4, bs_mk, bs_app, bs_ext, bs_size, bs_toList, bs_at, bs_cells, List.take_length, imp_ga, guard_pk, guard_pk2, ↓hold_pre, awayP, runOps, regK, step1, newK, genR, appR, obl, buildR, Value.cells, closeK, keepH, outV, retK, ret1, retC, RetV, Option.getD, runD, stepD, afterK, undef, simprocAttr, sxB, ↓sxD, sxE, sxTab]))
    exact ⟨n - (j + 1), npcSt M2 r w n b cap (j + 1) pj1 tj1, by omega, le_sub ⟨rfl, rfl, rfl, rfl, rfl, rfl, rfl, rfl, trivial⟩ trivial rfl rfl rfl (keepLt0 _), j + 1, by omega, rfl, by rw [hq1, hq2]; rfl⟩
  obtain rfl : j = n := by omega
  have d3 : decide ((j : Int) < (j : Int)) = false := by simp
  rw [show g.take j = g by rw [← hgl]; exact List.take_length] at hpj ⊢
  have hnum : numB (p ++ g) = numB p * 10 ^ j + numB g := by rw [numB_app, hgl]
  have hrd : g ++ r.drop j = r := by rw [hg]; exact List.take_append_drop _ _
  have hpg : ∀ b ∈ p ++ g, dgT b = true := fun b hb => by
    rcases List.mem_append.1 hb with h | h
    · exact hp b h
    · exact hgd b h
  have hsum := ten_len (numB_len hpg)
  have hmul : (ofN (numB p * 10 ^ j)).length ≤ p.length + j := ten_len (by
    have := numB_len hp
    rw [Nat.pow_add]
    exact (Nat.mul_lt_mul_right (Nat.pow_pos (by decide))).2 this)
  have hpw : (ofN (10 ^ j)).length ≤ j + 1 := ten_len (Nat.pow_lt_pow_right (by decide) (by omega))
  have hgw : (ofN (numB g)).length ≤ j := ten_len hpj
  generalize 10 ^ j = tj at *
  generalize hpgv : numB g = pj at *
  (replace hb0 := true_and True); refine Go1.mk ?_; repeat' ((first | (with_reducible refine Go1.go ?_) | ((with_reducible first | refine brv_mk ?_ ?_ | refine gsplitD ?_ ?_ | refine gsplitG ?_ ?_) <;> intro h <;> (try simp only [Bool.not_eq_true', Bool.not_eq_false'] at h) <;> replace hb0 := h) | ((first | (with_reducible refine isCall (f := 40) ?_; refine callA_nil (by kernel_rfl) ?_) | (with_reducible refine isCall0 (f := 40) ?_; refine callA0_nil (by kernel_rfl) ?_)); refine (of_ok tj (by omega) (fun w4 M4 c1 c2 c3 => Stop.mk ?_))) | ((with_reducible refine isDraw [some 56, some 57, some 58, some 59, some 60, some 61, some 62, some 63, some 64, some 65, some 4, some 0] (by decide) ?_); refine draw_rule [(0, []), (1, []), (4, []), (7, []), (8, []), (9, []), (2, []), (3, []), (5, []), (6, []), (10, []), (11, [])] [[], [], [1], [0, 1, 2], [], [0, 1, 2, 3, 4], [0, 1, 2, 3, 4, 5], [], [], [7, 8], [0, 1, 2, 3, 4, 5, 6], [0, 1, 2, 3, 4, 5, 6, 7, 8, 9, 10]] [56, 57, 58, 59, 60, 61, 62, 63, 64, 65] [4] (by kernel_rfl) (by kernel_rfl) (by kernel_rfl) (by kernel_rfl) (by exact ⟨rfl, trivial⟩) ?_) | (refine And.intro ?ob ?_; case ob => ((try simp only [sxO, ne_eq, maxLen] at *); omega)) | fail) <;> (try simp (config := { maxSteps := 1000000 }) only [hb0, npcSt, hw2.one, d3, bs_mk, bs_app, bs_ext, bs_size, bs_toList, bs_at, bs_cells, List.take_length, imp_ga, guard_pk, guard_pk2, ↓hold_pre, awayP, runOps, regK, step1, newK, genR, appR, obl, buildR, Value.cells, closeK, keepH, outV, retK, ret1, retC, RetV, Option.getD, runD, stepD, afterK, undef, simprocAttr, sxB, ↓sxD, sxE, sxTab]))
  have c1 : Mem.le M2 M4 := c1
  have hw4 := hw2.le c1
  refine Stop.go ?_
  (replace hb0 := true_and True); refine Go1.mk ?_; repeat' ((first | (with_reducible refine Go1.go ?_) | ((with_reducible first | refine brv_mk ?_ ?_ | refine gsplitD ?_ ?_ | refine gsplitG ?_ ?_) <;> intro h <;> (try simp only [Bool.not_eq_true', Bool.not_eq_false'] at h) <;> replace hb0 := h) | ((first | (with_reducible refine isCall (f := 54) ?_; refine callA_nil (by kernel_rfl) ?_) | (with_reducible refine isCall0 (f := 54) ?_; refine callA0_nil (by kernel_rfl) ?_)); refine (mul_ok w w4 _ _ hw4 c2 (by omega) (by omega) (fun w5 M5 e1 e2 e3 => Stop.mk ?_))) | ((with_reducible refine isDraw [some 56, some 57, some 58, some 59, some 60, some 61, some 62, some 63, some 64, some 65, some 4, some 0] (by decide) ?_); refine draw_rule [(0, []), (1, []), (4, []), (7, []), (8, []), (9, []), (2, []), (3, []), (5, []), (6, []), (10, []), (11, [])] [[], [], [1], [0, 1, 2], [], [0, 1, 2, 3, 4], [0, 1, 2, 3, 4, 5], [], [], [7, 8], [0, 1, 2, 3, 4, 5, 6], [0, 1, 2, 3, 4, 5, 6, 7, 8, 9, 10]] [56, 57, 58, 59, 60, 61, 62, 63, 64, 65] [4] (by kernel_rfl) (by kernel_rfl) (by kernel_rfl) (by kernel_rfl) (by exact ⟨rfl, trivial⟩) ?_) | (refine And.intro ?ob ?_; case ob => ((try simp only [sxO, ne_eq, maxLen] at *); omega)) | fail) <;> (try simp (config := { maxSteps := 1000000 }) only [hb0, hw4.one, c2.one, bs_mk, bs_app, bs_ext, bs_size, bs_toList, bs_at, bs_cells, List.take_length, imp_ga, guard_pk, guard_pk2, ↓hold_pre, awayP, runOps, regK, step1, newK, genR, appR, obl, buildR, Value.cells, closeK, keepH, outV, retK, ret1, retC, RetV, Option.getD, runD, stepD, afterK, undef, simprocAttr, sxB, ↓sxD, sxE, sxTab]))
  have e1 : Mem.le M4 M5 := e1
  refine Stop.go ?_
  (replace hb0 := true_and True); refine Go1.mk ?_; repeat' ((first | (with_reducible refine Go1.go ?_) | ((with_reducible first | refine brv_mk ?_ ?_ | refine gsplitD ?_ ?_ | refine gsplitG ?_ ?_) <;> intro h <;> (try simp only [Bool.not_eq_true', Bool.not_eq_false'] at h) <;> replace hb0 := h) | ((first | (with_reducible refine isCall (f := 40) ?_; refine callA_nil (by kernel_rfl) ?_) | (with_reducible refine isCall0 (f := 40) ?_; refine callA0_nil (by kernel_rfl) ?_)); refine (of_ok pj (by omega) (fun w6 M6 f1 f2 f3 => Stop.mk ?_))) | ((with_reducible refine isDraw [some 56, some 57, some 58, some 59, some 60, some 61, some 62, some 63, some 64, some 65, some 4, some 0] (by decide) ?_); refine draw_rule [(0, []), (1, []), (4, []), (7, []), (8, []), (9, []), (2, []), (3, []), (5, []), (6, []), (10, []), (11, [])] [[], [], [1], [0, 1, 2], [], [0, 1, 2, 3, 4], [0, 1, 2, 3, 4, 5], [], [], [7, 8], [0, 1, 2, 3, 4, 5, 6], [0, 1, 2, 3, 4, 5, 6, 7, 8, 9, 10]] [56, 57, 58, 59, 60, 61, 62, 63, 64, 65] [4] (by kernel_rfl) (by kernel_rfl) (by kernel_rfl) (by kernel_rfl) (by exact ⟨rfl, trivial⟩) ?_) | (refine And.intro ?ob ?_; case ob => ((try simp only [sxO, ne_eq, maxLen] at *); omega)) | fail) <;> (try simp (config := { maxSteps := 1000000 }) only [hb0, e2.one, bs_mk, bs_app, bs_ext, bs_size, bs_toList, bs_at, bs_cells, List.take_length, imp_ga, guard_pk, guard_pk2, ↓hold_pre, awayP, runOps, regK, step1, newK, genR, appR, obl, buildR, Value.cells, closeK, keepH, outV, retK, ret1, retC, RetV, Option.getD, runD, stepD, afterK, undef, simprocAttr, sxB, ↓sxD, sxE, sxTab]))
  have f1 : Mem.le M5 M6 := f1
  have e2' := e2.le f1
  refine Stop.go ?_
  (replace hb0 := true_and True); refine Go1.mk ?_; repeat' ((first | (with_reducible refine Go1.go ?_) | ((with_reducible first | refine brv_mk ?_ ?_ | refine gsplitD ?_ ?_ | refine gsplitG ?_ ?_) <;> intro h <;> (try simp only [Bool.not_eq_true', Bool.not_eq_false'] at h) <;> replace hb0 := h) | ((first | (with_reducible refine isCall (f := 53) ?_; refine callA_nil (by kernel_rfl) ?_) | (with_reducible refine isCall0 (f := 53) ?_; refine callA0_nil (by kernel_rfl) ?_)); refine (add_ok w5 w6 _ _ e2' f2 (by omega) (by omega) (fun w7 M7 h1 h2 h3 => Stop.mk ?_))) | ((with_reducible refine isDraw [some 56, some 57, some 58, some 59, some 60, some 61, some 62, some 63, some 64, some 65, some 4, some 0] (by decide) ?_); refine draw_rule [(0, []), (1, []), (4, []), (7, []), (8, []), (9, []), (2, []), (3, []), (5, []), (6, []), (10, []), (11, [])] [[], [], [1], [0, 1, 2], [], [0, 1, 2, 3, 4], [0, 1, 2, 3, 4, 5], [], [], [7, 8], [0, 1, 2, 3, 4, 5, 6], [0, 1, 2, 3, 4, 5, 6, 7, 8, 9, 10]] [56, 57, 58, 59, 60, 61, 62, 63, 64, 65] [4] (by kernel_rfl) (by kernel_rfl) (by kernel_rfl) (by kernel_rfl) (by exact ⟨rfl, trivial⟩) ?_) | (refine And.intro ?ob ?_; case ob => ((try simp only [sxO, ne_eq, maxLen] at *); omega)) | fail) <;> (try simp (config := { maxSteps := 1000000 }) only [hb0, e2'.one, f2.one, bs_mk, bs_app, bs_ext, bs_size, bs_toList, bs_at, bs_cells, List.take_length, imp_ga, guard_pk, guard_pk2, ↓hold_pre, awayP, runOps, regK, step1, newK, genR, appR, obl, buildR, Value.cells, closeK, keepH, outV, retK, ret1, retC, RetV, Option.getD, runD, stepD, afterK, undef, simprocAttr, sxB, ↓sxD, sxE, sxTab]))
  have h1 : Mem.le M6 M7 := h1
  rw [← hnum] at h2
  have t1 : r.take r.length = r := List.take_length
  have a3 : (r.length : Int) ≤ (r.length : Int) := by omega
  refine Stop.go ?_
  (replace hb0 := true_and True); refine Go1.mk ?_; repeat' ((first | (with_reducible refine Go1.go ?_) | ((with_reducible first | refine brv_mk ?_ ?_ | refine gsplitD ?_ ?_ | refine gsplitG ?_ ?_) <;> intro h <;> (try simp only [Bool.not_eq_true', Bool.not_eq_false'] at h) <;> replace hb0 := h) | (refine And.intro ?ob ?_; case ob => ((try simp only [sxO, ne_eq, maxLen] at *); omega)) | fail) <;> (try simp (config := { maxSteps := 1000000 }) only [hb0, h2.one, a1, a2, a3, t1, bs_mk, bs_app, bs_ext, bs_size, bs_toList, bs_at, bs_cells, List.take_length, imp_ga, guard_pk, guard_pk2, ↓hold_pre, awayP, runOps, regK, step1, newK, genR, appR, obl, buildR, Value.cells, closeK, keepH, outV, retK, ret1, retC, RetV, Option.getD, runD, stepD, afterK, undef, simprocAttr, sxB, ↓sxD, sxE, sxTab]))
  have hML : Mem.le M M6 := (((hM1.trans hM2).trans c1).trans e1).trans f1
  exact ⟨(r.drop j).length, npbSt M7 (r.drop j) w7, by rw [List.length_drop]; omega, le_sub ⟨rfl, rfl, trivial⟩ trivial rfl rfl rfl (keepLt0 _), M7, w7, p ++ g, r.drop j, rfl, by rw [List.append_assoc, hrd]; exact hpr, hML.trans h1, h2, h3.le hML, rfl⟩
end
end Go.Proofs.YtlndhpljajlneaaDoor.Sx
