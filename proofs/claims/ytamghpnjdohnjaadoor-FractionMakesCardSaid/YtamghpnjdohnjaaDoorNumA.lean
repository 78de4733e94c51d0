import Derived.Test.YtamghpnjdohnjaaDoorLimJ
/- Numbers: which lists are numbers. -/
namespace Go.Proofs.YtamghpnjdohnjaaDoor.Sx
open Go Go.RowKit
set_option linter.unusedVariables false
set_option linter.unusedSimpArgs false
set_option maxRecDepth 100000
set_option maxHeartbeats 8000000
attribute [local congr] fin_congr finG_congr stepG_congr step1_congr runOps_congr brv_congr obl_congr condK_congr LoopK_congr seqK_congr CutK_congr vc_congr DrawK_congr regK_congr CallK_congr AskK_congr newK_congr retC_congr ret1_congr retK_congr outV_congr closeK_congr genR_congr appR_congr finD_congr finGD_congr stepGD_congr stepD_congr CallK0_congr runD_congr okR_congr CallS_congr vcX_congr
attribute [local congr] Stop_congr
def chkN (l : List Nat) : Bool := decide (l.length ≤ 128) && (decide (l.length = 0) || !decide (l.getD (l.length - 1) 0 = 0))
theorem chkN_ok {l : List Nat} (ho : okN l) (h : chkN l = true) : l = ofN (valN l) ∧ l.length ≤ 128 := by
  simp only [chkN, Bool.and_eq_true, Bool.or_eq_true, decide_eq_true_eq, Bool.not_eq_true', decide_eq_false_iff_not] at h
  refine ⟨canon ho fun hl => ?_, h.1⟩
  have h2 := h.2.resolve_left (by omega)
  simpa [List.getD, show l.length - 1 < l.length by omega] using h2
theorem chkN_ofN {n : Nat} (h : (ofN n).length ≤ 128) : chkN (ofN n) = true := by
  simp only [chkN, Bool.and_eq_true, Bool.or_eq_true, decide_eq_true_eq, Bool.not_eq_true', decide_eq_false_iff_not]
  refine ⟨h, ?_⟩
  rcases Nat.eq_zero_or_pos (ofN n).length with h1 | h1
  · exact .inl h1
  · right
    have := trimmed_ofN n h1
    simpa [List.getD, show (ofN n).length - 1 < (ofN n).length by omega] using this
section
variable {M : Mem} {K : AV → Hp → Mem → Prop}
theorem check_ok (u : Value) (l : List Nat) (hu : IsL M u32V u l) (hb : l.length < 1000000000) (hK : K (.ext (.bool (chkN l))) [] M) : CallS Tryd.prog 50 [.ext u] [] M [] K := by
  refine inlS (cs := []) Tryd.mixed Tryd.func50 rfl (by kernel_rfl) 0 rfl rfl ?_
  simp only [Tryd.f50]
  by_cases h1 : l.length ≤ 128
  · have d1 : decide ((l.length : Int) ≤ 128) = true := by simp; omega
    by_cases h2 : l.length = 0
    · have d2 : decide ((l.length : Int) = 0) = true := by rw [h2]; rfl
      rw [show chkN l = true by simp [chkN, h1, h2]] at hK
      (replace hb0 := true_and True); refine Go1.mk ?_; repeat' ((first | (with_reducible refine Go1.go ?_) | ((with_reducible first | refine brv_mk ?_ ?_ | refine gsplitD ?_ ?_ | refine gsplitG ?_ ?_) <;> intro h <;> (try simp only [Bool.not_eq_true', Bool.not_eq_false'] at h) <;> replace hb0 := h) | (refine And.intro ?ob ?_; case ob => ((try simp only [sxO, ne_eq, maxLen] at *); omega)) | fail) <;> (try simp (config := { maxSteps := 1000000 }) only [hb0, cE_ment, hasK_nil, cE_kill, cE_len, u32_one, u32_app1, u32_set, Nat.mul_one, hu.one, hu.len, hu.sl, d1, d2, ↓hold_pre, awayP, runOps, regK, step1, newK, genR, appR, obl, buildR, Value.cells, closeK, keepH, outV, retK, ret1, retC, RetV, Option.getD, runD, stepD, afterK, undef, simprocAttr, sxB, ↓sxD, sxE, sxTab]))
      exact hK
    · have d2 : decide ((l.length : Int) = 0) = false := by rw [decide_eq_false_iff_not]; omega
      have hi := hu.idx (P := Tryd.prog) (T := 70) tk70 tz70 (by omega) (show l.length - 1 < l.length by omega)
      have w1 : IntKind.i64.wrap ((l.length : Int) - 1) = ((l.length - 1 : Nat) : Int) := pred_i (by omega) (by omega)
      have hc : chkN l = !decide ((l[l.length - 1]'(by omega) : Int) = 0) := by
        have e : decide ((l[l.length - 1]'(by omega) : Int) = 0) = decide (l[l.length - 1]'(by omega) = 0) := by
          rw [decide_eq_decide]; omega
        rw [e]
        simp [chkN, h1, h2, List.getD, show l.length - 1 < l.length by omega]
      rw [hc] at hK
      (replace hb0 := true_and True); refine Go1.mk ?_; repeat' ((first | (with_reducible refine Go1.go ?_) | ((with_reducible first | refine brv_mk ?_ ?_ | refine gsplitD ?_ ?_ | refine gsplitG ?_ ?_) <;> intro h <;> (try simp only [Bool.not_eq_true', Bool.not_eq_false'] at h) <;> replace hb0 := h) | (refine And.intro ?ob ?_; case ob => ((try simp only [sxO, ne_eq, maxLen] at *); omega)) | fail) <;> (try simp (config := { maxSteps := 1000000 }) only [hb0, cE_ment, hasK_nil, cE_kill, cE_len, u32_one, u32_app1, u32_set, Nat.mul_one, u32V, hu.one, hu.len, hu.sl, d1, d2, hi, w1, ↓hold_pre, awayP, runOps, regK, step1, newK, genR, appR, obl, buildR, Value.cells, closeK, keepH, outV, retK, ret1, retC, RetV, Option.getD, runD, stepD, afterK, undef, simprocAttr, sxB, ↓sxD, sxE, sxTab]))
      exact hK
  · have d1 : decide ((l.length : Int) ≤ 128) = false := by simp; omega
    rw [show chkN l = false by simp [chkN, h1]] at hK
    (replace hb0 := true_and True); refine Go1.mk ?_; repeat' ((first | (with_reducible refine Go1.go ?_) | ((with_reducible first | refine brv_mk ?_ ?_ | refine gsplitD ?_ ?_ | refine gsplitG ?_ ?_) <;> intro h <;> (try simp only [Bool.not_eq_true', Bool.not_eq_false'] at h) <;> replace hb0 := h) | (refine And.intro ?ob ?_; case ob => ((try simp only [sxO, ne_eq, maxLen] at *); omega)) | fail) <;> (try simp (config := { maxSteps := 1000000 }) only [hb0, cE_ment, hasK_nil, cE_kill, cE_len, u32_one, u32_app1, u32_set, Nat.mul_one, hu.one, hu.len, hu.sl, d1, ↓hold_pre, awayP, runOps, regK, step1, newK, genR, appR, obl, buildR, Value.cells, closeK, keepH, outV, retK, ret1, retC, RetV, Option.getD, runD, stepD, afterK, undef, simprocAttr, sxB, ↓sxD, sxE, sxTab]))
    exact hK
end
end Go.Proofs.YtamghpnjdohnjaaDoor.Sx
