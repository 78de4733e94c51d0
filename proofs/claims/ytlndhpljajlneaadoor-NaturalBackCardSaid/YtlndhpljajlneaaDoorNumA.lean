import Derived.Test.YtlndhpljajlneaaDoorLimJ
/- Numbers: which lists are numbers. -/
namespace Go.Proofs.YtlndhpljajlneaaDoor.Sx
open Go Go.RowKit
set_option linter.unusedVariables false
set_option linter.unusedSimpArgs false
set_option maxRecDepth 100000
set_option maxHeartbeats 8000000
attribute [local congr] fin_congr finG_congr stepG_congr step1_congr runOps_congr brv_congr obl_congr condK_congr LoopK_congr seqK_congr CutK_congr vc_congr DrawK_congr regK_congr CallK_congr AskK_congr newK_congr retC_congr ret1_congr retK_congr outV_congr closeK_congr genR_congr appR_congr finD_congr finGD_congr stepGD_congr stepD_congr CallK0_congr runD_congr okR_congr CallS_congr vcX_congr
attribute [local congr] Stop_congr
def chkN (l : List Nat) : Bool := decide (l.length ≤ 128) && (decide (l.length = 0) || !decide (l.getD (l.length - 1) 0 = 0))
theorem chkN_ok {l : List Nat} (ho : okN l) (h : chkN l = true) : l = ofN (valN l) ∧ l.length ≤ 128 := by
  simp only [chkN, Bool.and_eq_true, Bool.or_eq_true, decide_eq_true_eq, Bool.not_eq_true', decide_eq_false_iff_not] at h
  refine ⟨canon ho fun hl => ?_, h.1⟩
  have h2 := h.2.resolve_left (by omega)
  simpa [List.getD, show l.length - 1 < l.length by omega] using h2
theorem chkN_ofN {n : Nat} (h : (ofN n).length ≤ 128) : chkN (ofN n) = true := by
  simp only [chkN, Bool.and_eq_true, Bool.or_eq_true, decide_eq_true_eq, Bool.not_eq_true', decide_eq_false_iff_not]
  refine ⟨h, ?_⟩
  rcases Nat.eq_zero_or_pos (ofN n).length with h1 | h1
  · exact .inl h1
  · right
    have := trimmed_ofN n h1
    simpa [List.getD, show (ofN n).length - 1 < (ofN n).length by omega] using this
section
variable {M : Mem} {K : AV → Hp → Mem → Prop}
theorem check_ok (u : Value) (l : List Nat) (hu : IsL M u32V u l) (hb : l.length < 1000000000) (hK : K (.ext (.bool (chkN l))) [] M) : CallS Tryd.prog 15 [.ext u] [] M [] K := by
  refine inlS (cs := []) Tryd.mixed Tryd.func15 rfl (by kernel_rfl) 0 rfl rfl ?_
  simp only [Tryd.f15]
  by_cases h1 : l.length ≤ 128
  · have d1 : decide ((l.length : Int) ≤ 128) = true := by simp; omega
    by_cases h2 : l.length = 0
    · have d2 : decide ((l.length : Int) = 0) = true := by rw [h2]; rfl
      rw [show chkN l = true by simp [chkN, h1, h2]] at hK
      (replace hb0 := true_and True); refine Go1.mk ?_; repeat' ((first | (with_reducible refine Go1.go ?_) | ((with_reducible first | refine brv_mk ?_ ?_ | refine gsplitD ?_ ?_ | refine gsplitG ?_ ?_) <;> intro h <;> (try simp only [Bool.not_eq_true', Bool.not_eq_false'] at h) <;> replace hb0 := h) | (refine And.intro ?ob ?_; case ob => ((try simp only [sxO, ne_eq, maxLen] at *); omega)) | fail) <;> (try simp (config := { maxSteps := 1000000 }) only [hb0, cE_ment, hasK_nil, cE_kill, cE_len, u32_one, u32_app1, u32_set, Nat.mul_one, hu.one, hu.len, hu.sl, d1, d2, ↓hold_pre, awayP, runOps, regK, step1, newK, genR, appR, obl, buildR, Value.cells, closeK, keepH, outV, retK, ret1, retC, RetV, Option.getD, runD, stepD, afterK, undef, simprocAttr, sxB, ↓sxD, sxE, sxTab]))
      exact hK
    · have d2 : decide ((l.length : Int) = 0) = false := by rw [decide_eq_false_iff_not]; omega
      have hi := hu.idx (P := Tryd.prog) (T := 51) tk51 tz51 (by omega) (show l.length - 1 < l.length by omega)
      have w1 : IntKind.i64.wrap ((l.length : Int) - 1) = ((l.length - 1 : Nat) : Int) := pred_i (by omega) (by omega)
      have hc : chkN l = !decide ((l[l.length - 1]'(by omega) : Int) = 0) := by
        have e : decide ((l[l.length - 1]'(by omega) : Int) = 0) = decide (l[l.length - 1]'(by omega) = 0) := by
          rw [decide_eq_decide]; omega
        rw [e]
        simp [chkN, h1, h2, List.getD, show l.length - 1 < l.length by omega]
      rw [hc] at hK
      (replace hb0 := true_and True); refine Go1.mk ?_; repeat' ((first | (with_reducible refine Go1.go ?_) | ((with_reducible first | refine brv_mk ?_ ?_ | refine gsplitD ?_ ?_ | refine gsplitG ?_ ?_) <;> intro h <;> (try simp only [Bool.not_eq_true', Bool.not_eq_false'] at h) <;> replace hb0 := h) | (refine And.intro ?ob ?_; case ob => ((try simp only [sxO, ne_eq, maxLen] at *); omega)) | fail) <;> (try simp (config := { maxSteps := 1000000 }) only [hb0, cE_ment, hasK_nil, cE_kill, cE_len, u32_one, u32_app1, u32_set, Nat.mul_one, u32V, hu.one, hu.len, hu.sl, d1, d2, hi, w1, ↓hold_pre, awayP, runOps, regK, step1, newK, genR, appR, obl, buildR, Value.cells, closeK, keepH, outV, retK, ret1, retC, RetV, Option.getD, runD, stepD, afterK, undef, simprocAttr, sxB, ↓sxD, sxE, sxTab]))
      exact hK
  · have d1 : decide ((l.length : Int) ≤ 128) = false := by simp; omega
    rw [show chkN l = false by simp [chkN, h1]] at hK
    (replace hb0 := true_and True); refine Go1.mk ?_; repeat' ((first | (with_reducible refine Go1.go ?_) | ((with_reducible first | refine brv_mk ?_ ?_ | refine gsplitD ?_ ?_ | refine gsplitG ?_ ?_) <;> intro h <;> (try simp only [Bool.not_eq_true', Bool.not_eq_false'] at h) <;> replace hb0 := h) | (refine And.intro ?ob ?_; case ob => ((try simp only [sxO, ne_eq, maxLen] at *); omega)) | fail) <;> (try simp (config := { maxSteps := 1000000 }) only [hb0, cE_ment, hasK_nil, cE_kill, cE_len, u32_one, u32_app1, u32_set, Nat.mul_one, hu.one, hu.len, hu.sl, d1, ↓hold_pre, awayP, runOps, regK, step1, newK, genR, appR, obl, buildR, Value.cells, closeK, keepH, outV, retK, ret1, retC, RetV, Option.getD, runD, stepD, afterK, undef, simprocAttr, sxB, ↓sxD, sxE, sxTab]))
    exact hK
def ixSt (M : Mem) (k : Nat) (u v : Value) (i : Nat) : St := { env := [(8, .ext (.int .i64 (i : Int))), (7, .ext (.int .i64 2)), (6, .slo k 0 2 1), (0, .slo k 0 2 1), (1, .fn 67 [])], hp := [(k, 24, [.ext u, .ext v])], M := M, kb := 100, fx := [k] }
def ixI (M : Mem) (k : Nat) (u v : Value) (l1 l2 : List Nat) (d : Nat) (z : St) : Prop := (d = 2 ∧ z = ixSt M k u v 0) ∨ (d = 1 ∧ chkN l1 = true ∧ z = ixSt M k u v 1) ∨ (d = 0 ∧ chkN l1 = true ∧ chkN l2 = true ∧ z = ixSt M k u v 2)
theorem index_ok (k : Nat) (hk : k < 100) (u v : Value) (l1 l2 : List Nat) (hu : IsL M u32V u l1) (hv : IsL M u32V v l2) (hb1 : l1.length < 1000000000) (hb2 : l2.length < 1000000000)
    (hK : K (.ext (.int .i64 (if chkN l1 then (if chkN l2 then -1 else 1) else 0))) [(k, 24, [.ext u, .ext v])] M) :
    CallS Tryd.prog 91 [.slo k 0 2 1, .fn 67 []] [(k, 24, [.ext u, .ext v])] M [] K := by
  refine inlS (cs := []) (f := 91) Tryd.mixed Tryd.func91 rfl (by kernel_rfl) 100 rfl (by simp [ltB, keysH, hk]) ?_
  simp only [Tryd.f91]
  (replace hb0 := true_and True); refine Go1.mk ?_; repeat' ((first | (with_reducible refine Go1.go ?_) | ((with_reducible first | refine brv_mk ?_ ?_ | refine gsplitD ?_ ?_ | refine gsplitG ?_ ?_) <;> intro h <;> (try simp only [Bool.not_eq_true', Bool.not_eq_false'] at h) <;> replace hb0 := h) | (refine And.intro ?ob ?_; case ob => ((try simp only [sxO, ne_eq, maxLen] at *); omega)) | fail) <;> (try simp (config := { maxSteps := 1000000 }) only [hb0, cE_ment, hasK_nil, cE_kill, cE_len, u32_one, u32_app1, u32_set, Nat.mul_one, hu.one, hv.one, ↓hold_pre, awayP, runOps, regK, step1, newK, genR, appR, obl, buildR, Value.cells, closeK, keepH, outV, retK, ret1, retC, RetV, Option.getD, runD, stepD, afterK, undef, simprocAttr, sxB, ↓sxD, sxE, sxTab]))
  refine ⟨ixI M k u v l1 l2,
    ⟨2, ixSt M k u v 0, le_sub ⟨rfl, rfl, rfl, rfl, rfl, trivial⟩ ⟨by simp [lkH], trivial⟩ rfl rfl rfl (by simp [keepLt, ixSt, lkH]), .inl ⟨rfl, rfl⟩⟩, ?_⟩
  have i0 : ((0 : Nat) : Int) = 0 := rfl
  have i1 : ((1 : Nat) : Int) = 1 := rfl
  have i2 : ((2 : Nat) : Int) = 2 := rfl
  rintro d z (⟨rfl, rfl⟩ | ⟨rfl, hc1, rfl⟩ | ⟨rfl, hc1, hc2, rfl⟩)
  · cases hc : chkN l1 with
    | false =>
      rw [hc] at hK
      (replace hb0 := true_and True); refine Go1.mk ?_; repeat' ((first | (with_reducible refine Go1.go ?_) | ((with_reducible first | refine brv_mk ?_ ?_ | refine gsplitD ?_ ?_ | refine gsplitG ?_ ?_) <;> intro h <;> (try simp only [Bool.not_eq_true', Bool.not_eq_false'] at h) <;> replace hb0 := h) | ((first | ((with_reducible refine isCall (f := 67) ?_); refine inlK (cs := []) (f := 67) Tryd.mixed Tryd.func67 rfl (by kernel_rfl) 200 rfl (by kernel_rfl) ?_) | ((with_reducible refine isCall0 (f := 67) ?_); refine inlK0 (cs := []) (f := 67) Tryd.mixed Tryd.func67 rfl (by kernel_rfl) 200 rfl (by kernel_rfl) ?_)); simp only [Tryd.f67]) | ((first | (with_reducible refine isCall (f := 15) ?_; refine callA_nil (by kernel_rfl) ?_) | (with_reducible refine isCall0 (f := 15) ?_; refine callA0_nil (by kernel_rfl) ?_)); refine (check_ok u l1 hu hb1 ?_)) | (refine And.intro ?ob ?_; case ob => ((try simp only [sxO, ne_eq, maxLen] at *); omega)) | fail) <;> (try simp (config := { maxSteps := 1000000 }) only [hb0, cE_ment, hasK_nil, cE_kill, cE_len, u32_one, u32_app1, u32_set, Nat.mul_one, ixSt, i0, hc, hu.one, hv.one, ↓hold_pre, awayP, runOps, regK, step1, newK, genR, appR, obl, buildR, Value.cells, closeK, keepH, outV, retK, ret1, retC, RetV, Option.getD, runD, stepD, afterK, undef, simprocAttr, sxB, ↓sxD, sxE, sxTab]))
      simpa using hK
    | true =>
      (replace hb0 := true_and True); refine Go1.mk ?_; repeat' ((first | (with_reducible refine Go1.go ?_) | ((with_reducible first | refine brv_mk ?_ ?_ | refine gsplitD ?_ ?_ | refine gsplitG ?_ ?_) <;> intro h <;> (try simp only [Bool.not_eq_true', Bool.not_eq_false'] at h) <;> replace hb0 := h) | ((first | ((with_reducible refine isCall (f := 67) ?_); refine inlK (cs := []) (f := 67) Tryd.mixed Tryd.func67 rfl (by kernel_rfl) 200 rfl (by kernel_rfl) ?_) | ((with_reducible refine isCall0 (f := 67) ?_); refine inlK0 (cs := []) (f := 67) Tryd.mixed Tryd.func67 rfl (by kernel_rfl) 200 rfl (by kernel_rfl) ?_)); simp only [Tryd.f67]) | ((first | (with_reducible refine isCall (f := 15) ?_; refine callA_nil (by kernel_rfl) ?_) | (with_reducible refine isCall0 (f := 15) ?_; refine callA0_nil (by kernel_rfl) ?_)); refine (check_ok u l1 hu hb1 ?_)) | (refine And.intro ?ob ?_; case ob => ((try simp only [sxO, ne_eq, maxLen] at *); omega)) | fail) <;> (try simp (config := { maxSteps := 1000000 }) only [hb0, cE_ment, hasK_nil, cE_kill, cE_len, u32_one, u32_app1, u32_set, Nat.mul_one, ixSt, i0, hc, hu.one, hv.one, ↓hold_pre, awayP, runOps, regK, step1, newK, genR, appR, obl, buildR, Value.cells, closeK, keepH, outV, retK, ret1, retC, RetV, Option.getD, runD, stepD, afterK, undef, simprocAttr, sxB, ↓sxD, sxE, sxTab]))
      exact ⟨1, ixSt M k u v 1, by omega, le_sub ⟨rfl, rfl, rfl, rfl, rfl, trivial⟩ ⟨by simp [lkH], trivial⟩ rfl rfl rfl (by simp [keepLt, ixSt, lkH]), .inr (.inl ⟨rfl, hc, rfl⟩)⟩
  · rw [hc1] at hK
    cases hc : chkN l2 with
    | false =>
      rw [hc] at hK
      (replace hb0 := true_and True); refine Go1.mk ?_; repeat' ((first | (with_reducible refine Go1.go ?_) | ((with_reducible first | refine brv_mk ?_ ?_ | refine gsplitD ?_ ?_ | refine gsplitG ?_ ?_) <;> intro h <;> (try simp only [Bool.not_eq_true', Bool.not_eq_false'] at h) <;> replace hb0 := h) | ((first | ((with_reducible refine isCall (f := 67) ?_); refine inlK (cs := []) (f := 67) Tryd.mixed Tryd.func67 rfl (by kernel_rfl) 200 rfl (by kernel_rfl) ?_) | ((with_reducible refine isCall0 (f := 67) ?_); refine inlK0 (cs := []) (f := 67) Tryd.mixed Tryd.func67 rfl (by kernel_rfl) 200 rfl (by kernel_rfl) ?_)); simp only [Tryd.f67]) | ((first | (with_reducible refine isCall (f := 15) ?_; refine callA_nil (by kernel_rfl) ?_) | (with_reducible refine isCall0 (f := 15) ?_; refine callA0_nil (by kernel_rfl) ?_)); refine (check_ok v l2 hv hb2 ?_)) | (refine And.intro ?ob ?_; case ob => ((try simp only [sxO, ne_eq, maxLen] at *); omega)) | fail) <;> (try simp (config := { maxSteps := 1000000 }) only [hb0, cE_ment, hasK_nil, cE_kill, cE_len, u32_one, u32_app1, u32_set, Nat.mul_one, ixSt, i1, hc, hu.one, hv.one, ↓hold_pre, awayP, runOps, regK, step1, newK, genR, appR, obl, buildR, Value.cells, closeK, keepH, outV, retK, ret1, retC, RetV, Option.getD, runD, stepD, afterK, undef, simprocAttr, sxB, ↓sxD, sxE, sxTab]))
      simpa using hK
    | true =>
      (replace hb0 := true_and True); refine Go1.mk ?_; repeat' ((first | (with_reducible refine Go1.go ?_) | ((with_reducible first | refine brv_mk ?_ ?_ | refine gsplitD ?_ ?_ | refine gsplitG ?_ ?_) <;> intro h <;> (try simp only [Bool.not_eq_true', Bool.not_eq_false'] at h) <;> replace hb0 := h) | ((first | ((with_reducible refine isCall (f := 67) ?_); refine inlK (cs := []) (f := 67) Tryd.mixed Tryd.func67 rfl (by kernel_rfl) 200 rfl (by kernel_rfl) ?_) | ((with_reducible refine isCall0 (f := 67) ?_); refine inlK0 (cs := []) (f := 67) Tryd.mixed Tryd.func67 rfl (by kernel_rfl) 200 rfl (by kernel_rfl) ?_)); simp only [Tryd.f67]) | ((first | (with_reducible refine isCall (f := 15) ?_; refine callA_nil (by kernel_rfl) ?_) | (with_reducible refine isCall0 (f := 15) ?_; refine callA0_nil (by kernel_rfl) ?_)); refine (check_ok v l2 hv hb2 ?_)) | (refine And.intro ?ob ?_; case ob => ((try simp only [sxO, ne_eq, maxLen] at *); omega)) | fail) <;> (try simp (config := { maxSteps := 1000000 }) only [hb0, cE_ment, hasK_nil, cE_kill, cE_len, u32_one, u32_app1, u32_set, Nat.mul_one, ixSt, i1, hc, hu.one, hv.one, ↓hold_pre, awayP, runOps, regK, step1, newK, genR, appR, obl, buildR, Value.cells, closeK, keepH, outV, retK, ret1, retC, RetV, Option.getD, runD, stepD, afterK, undef, simprocAttr, sxB, ↓sxD, sxE, sxTab]))
      exact ⟨0, ixSt M k u v 2, by omega, le_sub ⟨rfl, rfl, rfl, rfl, rfl, trivial⟩ ⟨by simp [lkH], trivial⟩ rfl rfl rfl (by simp [keepLt, ixSt, lkH]), .inr (.inr ⟨rfl, hc1, hc, rfl⟩)⟩
  · rw [hc1, hc2] at hK
    (replace hb0 := true_and True); refine Go1.mk ?_; repeat' ((first | (with_reducible refine Go1.go ?_) | ((with_reducible first | refine brv_mk ?_ ?_ | refine gsplitD ?_ ?_ | refine gsplitG ?_ ?_) <;> intro h <;> (try simp only [Bool.not_eq_true', Bool.not_eq_false'] at h) <;> replace hb0 := h) | (refine And.intro ?ob ?_; case ob => ((try simp only [sxO, ne_eq, maxLen] at *); omega)) | fail) <;> (try simp (config := { maxSteps := 1000000 }) only [hb0, cE_ment, hasK_nil, cE_kill, cE_len, u32_one, u32_app1, u32_set, Nat.mul_one, ixSt, i2, hu.one, hv.one, ↓hold_pre, awayP, runOps, regK, step1, newK, genR, appR, obl, buildR, Value.cells, closeK, keepH, outV, retK, ret1, retC, RetV, Option.getD, runD, stepD, afterK, undef, simprocAttr, sxB, ↓sxD, sxE, sxTab]))
    simpa using hK
theorem contains_ok (k : Nat) (hk : k < 70) (u v : Value) (l1 l2 : List Nat) (hu : IsL M u32V u l1) (hv : IsL M u32V v l2) (hb1 : l1.length < 1000000000) (hb2 : l2.length < 1000000000)
    (hK : K (.ext (.bool (!(chkN l1 && chkN l2)))) [(k, 24, [.ext u, .ext v])] M) :
    CallS Tryd.prog 66 [.slo k 0 2 1, .fn 67 []] [(k, 24, [.ext u, .ext v])] M [] K := by
  refine inlS (cs := []) (f := 66) Tryd.mixed Tryd.func66 rfl (by kernel_rfl) 70 rfl (by simp [ltB, keysH, hk]) ?_
  simp only [Tryd.f66]
  have d1 : decide ((0 : Int) ≤ (if chkN l1 then (if chkN l2 then -1 else 1) else 0)) = !(chkN l1 && chkN l2) := by
    cases chkN l1 <;> cases chkN l2 <;> rfl
  (replace hb0 := true_and True); refine Go1.mk ?_; repeat' ((first | (with_reducible refine Go1.go ?_) | ((with_reducible first | refine brv_mk ?_ ?_ | refine gsplitD ?_ ?_ | refine gsplitG ?_ ?_) <;> intro h <;> (try simp only [Bool.not_eq_true', Bool.not_eq_false'] at h) <;> replace hb0 := h) | ((with_reducible refine isCall (f := 91) ?_); refine callA ?_) | ((with_reducible refine isCall0 (f := 91) ?_); refine callA0 ?_) | ((with_reducible refine isCallS (f := 91) ?_); refine (index_ok k (by omega) u v l1 l2 hu hv hb1 hb2 ?_)) | (refine And.intro ?ob ?_; case ob => ((try simp only [sxO, ne_eq, maxLen] at *); omega)) | fail) <;> (try simp (config := { maxSteps := 1000000 }) only [hb0, cE_ment, hasK_nil, cE_kill, cE_len, u32_one, u32_app1, u32_set, Nat.mul_one, d1, hu.one, hv.one, ↓hold_pre, awayP, runOps, regK, step1, newK, genR, appR, obl, buildR, Value.cells, closeK, keepH, outV, retK, ret1, retC, RetV, Option.getD, runD, stepD, afterK, undef, simprocAttr, sxB, ↓sxD, sxE, sxTab]))
  exact hK
theorem all_ok (k : Nat) (hk : k < 50) (u v : Value) (l1 l2 : List Nat) (hu : IsL M u32V u l1) (hv : IsL M u32V v l2) (hb1 : l1.length < 1000000000) (hb2 : l2.length < 1000000000)
    (hK : K (.ext (.bool (chkN l1 && chkN l2))) [(k, 24, [.ext u, .ext v])] M) :
    CallS Tryd.prog 43 [.slo k 0 2 1] [(k, 24, [.ext u, .ext v])] M [] K := by
  refine inlS (cs := []) (f := 43) Tryd.mixed Tryd.func43 rfl (by kernel_rfl) 50 rfl (by simp [ltB, keysH, hk]) ?_
  simp only [Tryd.f43]
  (replace hb0 := true_and True); refine Go1.mk ?_; repeat' ((first | (with_reducible refine Go1.go ?_) | ((with_reducible first | refine brv_mk ?_ ?_ | refine gsplitD ?_ ?_ | refine gsplitG ?_ ?_) <;> intro h <;> (try simp only [Bool.not_eq_true', Bool.not_eq_false'] at h) <;> replace hb0 := h) | ((with_reducible refine isCall (f := 66) ?_); refine callA ?_) | ((with_reducible refine isCall0 (f := 66) ?_); refine callA0 ?_) | ((with_reducible refine isCallS (f := 66) ?_); refine (contains_ok k (by omega) u v l1 l2 hu hv hb1 hb2 ?_)) | (refine And.intro ?ob ?_; case ob => ((try simp only [sxO, ne_eq, maxLen] at *); omega)) | fail) <;> (try simp (config := { maxSteps := 1000000 }) only [hb0, cE_ment, hasK_nil, cE_kill, cE_len, u32_one, u32_app1, u32_set, Nat.mul_one, hu.one, hv.one, Bool.not_not, ↓hold_pre, awayP, runOps, regK, step1, newK, genR, appR, obl, buildR, Value.cells, closeK, keepH, outV, retK, ret1, retC, RetV, Option.getD, runD, stepD, afterK, undef, simprocAttr, sxB, ↓sxD, sxE, sxTab]))
  exact hK
end
end Go.Proofs.YtlndhpljajlneaaDoor.Sx
