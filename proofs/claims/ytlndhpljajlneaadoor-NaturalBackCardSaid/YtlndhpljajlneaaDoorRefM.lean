import Derived.Test.YtlndhpljajlneaaDoorRefL
import Derived.Test.YtlndhpljajlneaaDoorNumC
/- Numbers: the reference's texts. -/
namespace Go.Proofs.YtlndhpljajlneaaDoor.Sx
open Go Go.RowKit
set_option linter.unusedVariables false
set_option linter.unusedSimpArgs false
set_option maxRecDepth 100000
set_option maxHeartbeats 8000000
attribute [local congr] fin_congr finG_congr stepG_congr step1_congr runOps_congr brv_congr obl_congr condK_congr LoopK_congr seqK_congr CutK_congr vc_congr DrawK_congr regK_congr CallK_congr AskK_congr newK_congr retC_congr ret1_congr retK_congr outV_congr closeK_congr genR_congr appR_congr finD_congr finGD_congr stepGD_congr stepD_congr CallK0_congr runD_congr okR_congr CallS_congr vcX_congr
attribute [local congr] Stop_congr
theorem dec_short (n : Nat) : ∀ k, n < 2 ^ k → (dec n).length ≤ k := by
  induction n using Nat.strongRecOn with
  | _ n ih =>
    intro k hk
    by_cases h : n = 0
    · subst h; rw [dec_zero]; exact Nat.zero_le _
    · rw [dec_pos h, List.length_append, List.length_singleton]
      cases k with
      | zero => simp at hk; omega
      | succ k =>
        rw [Nat.pow_succ] at hk
        have := ih (n / 10) (Nat.div_lt_self (by omega) (by decide)) k (by omega)
        omega
section
variable {M : Mem} {K : AV → Hp → Mem → Prop}
theorem rfmt_ok (u : Value) (l : List Nat) (hu : IsL M u32V u l) (ho : okN l) (hb : l.length < 1000000) (hK : ∀ M', Mem.le M M' → K (.ext (.tuple #[.string (bs (fmtR l).2), .int .i64 (fmtR l).1])) [] M') : CallS Tryd.prog 27 [.ext u] [] M [] K := by
  refine inlS (cs := []) Tryd.mixed Tryd.func27 rfl (by kernel_rfl) 0 rfl rfl ?_
  simp only [Tryd.f27]
  unfold fmtR at hK
  cases hc : chkN l with
  | false =>
    rw [hc] at hK
    (replace hb0 := true_and True); refine Go1.mk ?_; repeat' ((first | (with_reducible refine Go1.go ?_) | ((with_reducible first | refine brv_mk ?_ ?_ | refine gsplitD ?_ ?_ | refine gsplitG ?_ ?_) <;> intro h <;> (try simp only [Bool.not_eq_true', Bool.not_eq_false'] at h) <;> replace hb0 := h) | ((first | (with_reducible refine isCall (f := 16) ?_; refine callA_nil (by kernel_rfl) ?_) | (with_reducible refine isCall0 (f := 16) ?_; refine callA0_nil (by kernel_rfl) ?_)); refine (rcheck_ok u l hu (by omega) ?_)) | (refine And.intro ?ob ?_; case ob => ((try simp only [sxO, ne_eq, maxLen] at *); omega)) | fail) <;> (try simp (config := { maxSteps := 1000000 }) only [hb0, hu.one, hc, bs_mk, bs_app, bs_ext, bs_size, bs_toList, bs_at, bs_cells, List.take_length, imp_ga, guard_pk, guard_pk2, ↓hold_pre, awayP, runOps, regK, step1, newK, genR, appR, obl, buildR, Value.cells, closeK, keepH, outV, retK, ret1, retC, RetV, Option.getD, runD, stepD, afterK, undef, simprocAttr, sxB, ↓sxD, sxE, sxTab]))
    exact hK _ (Mem.le.refl _)
  | true =>
    rw [hc, if_pos rfl] at hK
    obtain ⟨e1, b1⟩ := chkN_ok ho hc
    have hu' := hu
    rw [e1] at hu'
    have hdl : (dec (valN l)).length < 100000 := by
      have h1 := valN_lt ho
      rw [wN_two] at h1
      have := dec_short _ _ h1
      omega
    (replace hb0 := true_and True); refine Go1.mk ?_; repeat' ((first | (with_reducible refine Go1.go ?_) | ((with_reducible first | refine brv_mk ?_ ?_ | refine gsplitD ?_ ?_ | refine gsplitG ?_ ?_) <;> intro h <;> (try simp only [Bool.not_eq_true', Bool.not_eq_false'] at h) <;> replace hb0 := h) | ((first | (with_reducible refine isCall (f := 16) ?_; refine callA_nil (by kernel_rfl) ?_) | (with_reducible refine isCall0 (f := 16) ?_; refine callA0_nil (by kernel_rfl) ?_)); refine (rcheck_ok u l hu (by omega) ?_)) | ((first | (with_reducible refine isCall (f := 51) ?_; refine callA_nil (by kernel_rfl) ?_) | (with_reducible refine isCall0 (f := 51) ?_; refine callA0_nil (by kernel_rfl) ?_)); refine (rdigits_ok u _ hu' (by rw [← e1]; omega) hdl (fun M' h1 => Stop.mk ?_))) | (refine And.intro ?ob ?_; case ob => ((try simp only [sxO, ne_eq, maxLen] at *); omega)) | fail) <;> (try simp (config := { maxSteps := 1000000 }) only [hb0, hu.one, hc, bs_mk, bs_app, bs_ext, bs_size, bs_toList, bs_at, bs_cells, List.take_length, imp_ga, guard_pk, guard_pk2, ↓hold_pre, awayP, runOps, regK, step1, newK, genR, appR, obl, buildR, Value.cells, closeK, keepH, outV, retK, ret1, retC, RetV, Option.getD, runD, stepD, afterK, undef, simprocAttr, sxB, ↓sxD, sxE, sxTab]))
    refine Stop.go ?_
    (replace hb0 := true_and True); refine Go1.mk ?_; repeat' ((first | (with_reducible refine Go1.go ?_) | ((with_reducible first | refine brv_mk ?_ ?_ | refine gsplitD ?_ ?_ | refine gsplitG ?_ ?_) <;> intro h <;> (try simp only [Bool.not_eq_true', Bool.not_eq_false'] at h) <;> replace hb0 := h) | (refine And.intro ?ob ?_; case ob => ((try simp only [sxO, ne_eq, maxLen] at *); omega)) | fail) <;> (try simp (config := { maxSteps := 1000000 }) only [hb0, bs_mk, bs_app, bs_ext, bs_size, bs_toList, bs_at, bs_cells, List.take_length, imp_ga, guard_pk, guard_pk2, ↓hold_pre, awayP, runOps, regK, step1, newK, genR, appR, obl, buildR, Value.cells, closeK, keepH, outV, retK, ret1, retC, RetV, Option.getD, runD, stepD, afterK, undef, simprocAttr, sxB, ↓sxD, sxE, sxTab]))
    exact hK _ h1
end
end Go.Proofs.YtlndhpljajlneaaDoor.Sx
