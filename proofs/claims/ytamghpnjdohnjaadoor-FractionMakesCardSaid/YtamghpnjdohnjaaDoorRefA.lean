import Derived.Test.YtamghpnjdohnjaaDoorNumB
/- Numbers: the reference's small functions. -/
namespace Go.Proofs.YtamghpnjdohnjaaDoor.Sx
open Go Go.RowKit
set_option linter.unusedVariables false
set_option linter.unusedSimpArgs false
set_option maxRecDepth 100000
set_option maxHeartbeats 8000000
attribute [local congr] fin_congr finG_congr stepG_congr step1_congr runOps_congr brv_congr obl_congr condK_congr LoopK_congr seqK_congr CutK_congr vc_congr DrawK_congr regK_congr CallK_congr AskK_congr newK_congr retC_congr ret1_congr retK_congr outV_congr closeK_congr genR_congr appR_congr finD_congr finGD_congr stepGD_congr stepD_congr CallK0_congr runD_congr okR_congr CallS_congr vcX_congr
attribute [local congr] Stop_congr
theorem wN_two (i : Nat) : wN i = 2 ^ (32 * i) := by unfold wN; rw [Nat.pow_mul]
section
variable {M : Mem} {K : AV → Hp → Mem → Prop}
theorem rcheck_ok (u : Value) (l : List Nat) (hu : IsL M u32V u l) (hb : l.length < 1000000000) (hK : K (.ext (.bool (chkN l))) [] M) : CallS Tryd.prog 52 [.ext u] [] M [] K := by
  refine inlS (cs := []) Tryd.mixed Tryd.func52 rfl (by kernel_rfl) 0 rfl rfl ?_
  simp only [Tryd.f52]
  by_cases h1 : l.length ≤ 128
  · have d1 : decide ((l.length : Int) ≤ 128) = true := by simp; omega
    by_cases h2 : l.length = 0
    · have d2 : decide ((l.length : Int) = 0) = true := by rw [h2]; rfl
      rw [show chkN l = true by simp [chkN, h1, h2]] at hK
      (replace hb0 := true_and True); refine Go1.mk ?_; repeat' ((first | (with_reducible refine Go1.go ?_) | ((with_reducible first | refine brv_mk ?_ ?_ | refine gsplitD ?_ ?_ | refine gsplitG ?_ ?_) <;> intro h <;> (try simp only [Bool.not_eq_true', Bool.not_eq_false'] at h) <;> replace hb0 := h) | (refine And.intro ?ob ?_; case ob => ((try simp only [sxO, ne_eq, maxLen] at *); omega)) | fail) <;> (try simp (config := { maxSteps := 1000000 }) only [hb0, cE_ment, hasK_nil, cE_kill, cE_len, u32_one, u32_app1, u32_set, Nat.mul_one, hu.one, hu.len, hu.sl, d1, d2, ↓hold_pre, awayP, runOps, regK, step1, newK, genR, appR, obl, buildR, Value.cells, closeK, keepH, outV, retK, ret1, retC, RetV, Option.getD, runD, stepD, afterK, undef, simprocAttr, sxB, ↓sxD, sxE, sxTab]))
      exact hK
    · have d2 : decide ((l.length : Int) = 0) = false := by rw [decide_eq_false_iff_not]; omega
      have hi := hu.idx (P := Tryd.prog) (T := 70) tk70 tz70 (by omega) (show l.length - 1 < l.length by omega)
      have w1 : IntKind.i64.wrap ((l.length : Int) - 1) = ((l.length - 1 : Nat) : Int) := pred_i (by omega) (by omega)
      have hc : chkN l = !decide ((l[l.length - 1]'(by omega) : Int) = 0) := by
        have e : decide ((l[l.length - 1]'(by omega) : Int) = 0) = decide (l[l.length - 1]'(by omega) = 0) := by
          rw [decide_eq_decide]; omega
        rw [e]
        simp [chkN, h1, h2, List.getD, show l.length - 1 < l.length by omega]
      rw [hc] at hK
      (replace hb0 := true_and True); refine Go1.mk ?_; repeat' ((first | (with_reducible refine Go1.go ?_) | ((with_reducible first | refine brv_mk ?_ ?_ | refine gsplitD ?_ ?_ | refine gsplitG ?_ ?_) <;> intro h <;> (try simp only [Bool.not_eq_true', Bool.not_eq_false'] at h) <;> replace hb0 := h) | (refine And.intro ?ob ?_; case ob => ((try simp only [sxO, ne_eq, maxLen] at *); omega)) | fail) <;> (try simp (config := { maxSteps := 1000000 }) only [hb0, cE_ment, hasK_nil, cE_kill, cE_len, u32_one, u32_app1, u32_set, Nat.mul_one, u32V, hu.one, hu.len, hu.sl, d1, d2, hi, w1, ↓hold_pre, awayP, runOps, regK, step1, newK, genR, appR, obl, buildR, Value.cells, closeK, keepH, outV, retK, ret1, retC, RetV, Option.getD, runD, stepD, afterK, undef, simprocAttr, sxB, ↓sxD, sxE, sxTab]))
      exact hK
  · have d1 : decide ((l.length : Int) ≤ 128) = false := by simp; omega
    rw [show chkN l = false by simp [chkN, h1]] at hK
    (replace hb0 := true_and True); refine Go1.mk ?_; repeat' ((first | (with_reducible refine Go1.go ?_) | ((with_reducible first | refine brv_mk ?_ ?_ | refine gsplitD ?_ ?_ | refine gsplitG ?_ ?_) <;> intro h <;> (try simp only [Bool.not_eq_true', Bool.not_eq_false'] at h) <;> replace hb0 := h) | (refine And.intro ?ob ?_; case ob => ((try simp only [sxO, ne_eq, maxLen] at *); omega)) | fail) <;> (try simp (config := { maxSteps := 1000000 }) only [hb0, cE_ment, hasK_nil, cE_kill, cE_len, u32_one, u32_app1, u32_set, Nat.mul_one, hu.one, hu.len, hu.sl, d1, ↓hold_pre, awayP, runOps, regK, step1, newK, genR, appR, obl, buildR, Value.cells, closeK, keepH, outV, retK, ret1, retC, RetV, Option.getD, runD, stepD, afterK, undef, simprocAttr, sxB, ↓sxD, sxE, sxTab]))
    exact hK
def rcSt (M : Mem) (u v : Value) (j : Nat) : St := { env := [(5, .ext (.int .i64 ((j : Int) - 1))), (0, .ext u), (1, .ext v)], hp := [], M := M, kb := 0, fx := [] }
theorem rorder_ok (u v : Value) (x y : Nat) (hu : IsL M u32V u (ofN x)) (hv : IsL M u32V v (ofN y)) (hx : (ofN x).length < 100000000) (hy : (ofN y).length < 100000000) (hK : K (.ext (.int .i64 (cmpN x y))) [] M) : CallS Tryd.prog 57 [.ext u, .ext v] [] M [] K := by
  refine inlS (cs := []) Tryd.mixed Tryd.func57 rfl (by kernel_rfl) 0 rfl rfl ?_
  simp only [Tryd.f57]
  generalize hl : (ofN x).length = la at *
  generalize hm : (ofN y).length = lb at *
  by_cases hne : la = lb
  case neg =>
    have d1 : decide ((la : Int) = (lb : Int)) = false := by simp; omega
    by_cases hlt : la < lb
    · have d2 : decide ((la : Int) < (lb : Int)) = true := by simp; omega
      rw [cmpN_lt (len_lt (by omega))] at hK
      (replace hb0 := true_and True); refine Go1.mk ?_; repeat' ((first | (with_reducible refine Go1.go ?_) | ((with_reducible first | refine brv_mk ?_ ?_ | refine gsplitD ?_ ?_ | refine gsplitG ?_ ?_) <;> intro h <;> (try simp only [Bool.not_eq_true', Bool.not_eq_false'] at h) <;> replace hb0 := h) | ((with_reducible refine isDraw [some 23, some 24, some 25, some 26, some 27, some 28, some 29, some 30, some 31] (by decide) ?_); refine draw_rule [(0, []), (1, []), (2, []), (3, []), (4, [3]), (5, [3]), (6, [3]), (7, [3]), (8, [])] [[], [], [0, 1], [0, 1, 2], [], [], [4, 5], [4, 5, 6], [0, 1, 2, 3, 4, 5, 6, 7]] [23, 24, 25, 26, 27, 28, 29, 30] [] (by kernel_rfl) (by kernel_rfl) (by kernel_rfl) (by kernel_rfl) (by exact trivial) ?_) | ((with_reducible refine isDraw [some 32, some 33, some 34, some 35, some 36, some 37, some 38, some 39, some 40] (by decide) ?_); refine draw_rule [(0, []), (1, []), (2, []), (3, []), (4, [3]), (5, [3]), (6, [3]), (7, [3]), (8, [])] [[], [], [0, 1], [0, 1, 2], [], [], [4, 5], [4, 5, 6], [0, 1, 2, 3, 4, 5, 6, 7]] [32, 33, 34, 35, 36, 37, 38, 39] [] (by kernel_rfl) (by kernel_rfl) (by kernel_rfl) (by kernel_rfl) (by exact trivial) ?_) | (refine And.intro ?ob ?_; case ob => ((try simp only [sxO, ne_eq, maxLen] at *); omega)) | fail) <;> (try simp (config := { maxSteps := 1000000 }) only [hb0, cE_ment, hasK_nil, cE_kill, cE_len, u32_one, u32_app1, u32_set, Nat.mul_one, hu.one, hv.one, hu.len, hu.sl, hl, hv.len, hv.sl, hm, d1, d2, ↓hold_pre, awayP, runOps, regK, step1, newK, genR, appR, obl, buildR, Value.cells, closeK, keepH, outV, retK, ret1, retC, RetV, Option.getD, runD, stepD, afterK, undef, simprocAttr, sxB, ↓sxD, sxE, sxTab]))
      exact hK
    · have d2 : decide ((la : Int) < (lb : Int)) = false := by simp; omega
      rw [cmpN_gt (len_lt (by omega))] at hK
      (replace hb0 := true_and True); refine Go1.mk ?_; repeat' ((first | (with_reducible refine Go1.go ?_) | ((with_reducible first | refine brv_mk ?_ ?_ | refine gsplitD ?_ ?_ | refine gsplitG ?_ ?_) <;> intro h <;> (try simp only [Bool.not_eq_true', Bool.not_eq_false'] at h) <;> replace hb0 := h) | ((with_reducible refine isDraw [some 23, some 24, some 25, some 26, some 27, some 28, some 29, some 30, some 31] (by decide) ?_); refine draw_rule [(0, []), (1, []), (2, []), (3, []), (4, [3]), (5, [3]), (6, [3]), (7, [3]), (8, [])] [[], [], [0, 1], [0, 1, 2], [], [], [4, 5], [4, 5, 6], [0, 1, 2, 3, 4, 5, 6, 7]] [23, 24, 25, 26, 27, 28, 29, 30] [] (by kernel_rfl) (by kernel_rfl) (by kernel_rfl) (by kernel_rfl) (by exact trivial) ?_) | ((with_reducible refine isDraw [some 32, some 33, some 34, some 35, some 36, some 37, some 38, some 39, some 40] (by decide) ?_); refine draw_rule [(0, []), (1, []), (2, []), (3, []), (4, [3]), (5, [3]), (6, [3]), (7, [3]), (8, [])] [[], [], [0, 1], [0, 1, 2], [], [], [4, 5], [4, 5, 6], [0, 1, 2, 3, 4, 5, 6, 7]] [32, 33, 34, 35, 36, 37, 38, 39] [] (by kernel_rfl) (by kernel_rfl) (by kernel_rfl) (by kernel_rfl) (by exact trivial) ?_) | (refine And.intro ?ob ?_; case ob => ((try simp only [sxO, ne_eq, maxLen] at *); omega)) | fail) <;> (try simp (config := { maxSteps := 1000000 }) only [hb0, cE_ment, hasK_nil, cE_kill, cE_len, u32_one, u32_app1, u32_set, Nat.mul_one, hu.one, hv.one, hu.len, hu.sl, hl, hv.len, hv.sl, hm, d1, d2, ↓hold_pre, awayP, runOps, regK, step1, newK, genR, appR, obl, buildR, Value.cells, closeK, keepH, outV, retK, ret1, retC, RetV, Option.getD, runD, stepD, afterK, undef, simprocAttr, sxB, ↓sxD, sxE, sxTab]))
      exact hK
  subst hne
  have d1 : decide ((la : Int) = (la : Int)) = true := by simp
  have w1 : IntKind.i64.wrap ((la : Int) - 1) = (la : Int) - 1 := wrap_id (by omega) (by omega)
  (replace hb0 := true_and True); refine Go1.mk ?_; repeat' ((first | (with_reducible refine Go1.go ?_) | ((with_reducible first | refine brv_mk ?_ ?_ | refine gsplitD ?_ ?_ | refine gsplitG ?_ ?_) <;> intro h <;> (try simp only [Bool.not_eq_true', Bool.not_eq_false'] at h) <;> replace hb0 := h) | ((with_reducible refine isDraw [some 23, some 24, some 25, some 26, some 27, some 28, some 29, some 30, some 31] (by decide) ?_); refine draw_rule [(0, []), (1, []), (2, []), (3, []), (4, [3]), (5, [3]), (6, [3]), (7, [3]), (8, [])] [[], [], [0, 1], [0, 1, 2], [], [], [4, 5], [4, 5, 6], [0, 1, 2, 3, 4, 5, 6, 7]] [23, 24, 25, 26, 27, 28, 29, 30] [] (by kernel_rfl) (by kernel_rfl) (by kernel_rfl) (by kernel_rfl) (by exact trivial) ?_) | ((with_reducible refine isDraw [some 32, some 33, some 34, some 35, some 36, some 37, some 38, some 39, some 40] (by decide) ?_); refine draw_rule [(0, []), (1, []), (2, []), (3, []), (4, [3]), (5, [3]), (6, [3]), (7, [3]), (8, [])] [[], [], [0, 1], [0, 1, 2], [], [], [4, 5], [4, 5, 6], [0, 1, 2, 3, 4, 5, 6, 7]] [32, 33, 34, 35, 36, 37, 38, 39] [] (by kernel_rfl) (by kernel_rfl) (by kernel_rfl) (by kernel_rfl) (by exact trivial) ?_) | (refine And.intro ?ob ?_; case ob => ((try simp only [sxO, ne_eq, maxLen] at *); omega)) | fail) <;> (try simp (config := { maxSteps := 1000000 }) only [hb0, cE_ment, hasK_nil, cE_kill, cE_len, u32_one, u32_app1, u32_set, Nat.mul_one, hu.one, hv.one, hu.len, hu.sl, hl, hv.len, hv.sl, hm, d1, w1, ↓hold_pre, awayP, runOps, regK, step1, newK, genR, appR, obl, buildR, Value.cells, closeK, keepH, outV, retK, ret1, retC, RetV, Option.getD, runD, stepD, afterK, undef, simprocAttr, sxB, ↓sxD, sxE, sxTab]))
  refine ⟨fun m z => ∃ j, j = m ∧ j ≤ la ∧ (ofN x).drop j = (ofN y).drop j ∧ z = rcSt M u v j,
    ⟨la, rcSt M u v la, le_sub ⟨rfl, rfl, rfl, trivial⟩ trivial rfl rfl rfl (keepLt0 _), ⟨la, rfl, by omega, by rw [List.drop_of_length_le (by omega), List.drop_of_length_le (by omega)], rfl⟩⟩, ?_⟩
  rintro m z ⟨j, rfl, hj, hd, rfl⟩
  by_cases hlt : 0 < j
  case neg =>
    obtain rfl : j = 0 := by omega
    have d2 : decide ((0 : Int) ≤ ((0 : Nat) : Int) - 1) = false := by simp
    have e1 : x = y := ofN_inj (by simpa using hd)
    rw [show cmpN x y = 0 by unfold cmpN; rw [if_neg (by omega), if_pos e1]] at hK
    (replace hb0 := true_and True); refine Go1.mk ?_; repeat' ((first | (with_reducible refine Go1.go ?_) | ((with_reducible first | refine brv_mk ?_ ?_ | refine gsplitD ?_ ?_ | refine gsplitG ?_ ?_) <;> intro h <;> (try simp only [Bool.not_eq_true', Bool.not_eq_false'] at h) <;> replace hb0 := h) | ((with_reducible refine isDraw [some 23, some 24, some 25, some 26, some 27, some 28, some 29, some 30, some 31] (by decide) ?_); refine draw_rule [(0, []), (1, []), (2, []), (3, []), (4, [3]), (5, [3]), (6, [3]), (7, [3]), (8, [])] [[], [], [0, 1], [0, 1, 2], [], [], [4, 5], [4, 5, 6], [0, 1, 2, 3, 4, 5, 6, 7]] [23, 24, 25, 26, 27, 28, 29, 30] [] (by kernel_rfl) (by kernel_rfl) (by kernel_rfl) (by kernel_rfl) (by exact trivial) ?_) | ((with_reducible refine isDraw [some 32, some 33, some 34, some 35, some 36, some 37, some 38, some 39, some 40] (by decide) ?_); refine draw_rule [(0, []), (1, []), (2, []), (3, []), (4, [3]), (5, [3]), (6, [3]), (7, [3]), (8, [])] [[], [], [0, 1], [0, 1, 2], [], [], [4, 5], [4, 5, 6], [0, 1, 2, 3, 4, 5, 6, 7]] [32, 33, 34, 35, 36, 37, 38, 39] [] (by kernel_rfl) (by kernel_rfl) (by kernel_rfl) (by kernel_rfl) (by exact trivial) ?_) | (refine And.intro ?ob ?_; case ob => ((try simp only [sxO, ne_eq, maxLen] at *); omega)) | fail) <;> (try simp (config := { maxSteps := 1000000 }) only [hb0, cE_ment, hasK_nil, cE_kill, cE_len, u32_one, u32_app1, u32_set, Nat.mul_one, rcSt, hu.one, hv.one, d2, ↓hold_pre, awayP, runOps, regK, step1, newK, genR, appR, obl, buildR, Value.cells, closeK, keepH, outV, retK, ret1, retC, RetV, Option.getD, runD, stepD, afterK, undef, simprocAttr, sxB, ↓sxD, sxE, sxTab]))
    exact hK
  obtain ⟨i, rfl⟩ : ∃ i, j = i + 1 := ⟨j - 1, by omega⟩
  have ej : (((i + 1 : Nat) : Int) - 1) = (i : Int) := by omega
  have hil : i < (ofN x).length := by omega
  have him : i < (ofN y).length := by omega
  have hxi := hu.idx (P := Tryd.prog) (T := 70) tk70 tz70 (by omega) hil
  have hyi := hv.idx (P := Tryd.prog) (T := 70) tk70 tz70 (by omega) him
  rw [hl] at hxi
  rw [hm] at hyi
  have d2 : decide ((0 : Int) ≤ (i : Int)) = true := by simp
  have w10 : IntKind.i64.wrap ((i : Int) - 1) = (i : Int) - 1 := wrap_id (by omega) (by omega)
  have lt1 := lt_at hil him hd
  have lt2 := lt_at him hil hd.symm
  have hdx := List.drop_eq_getElem_cons hil
  have hdy := List.drop_eq_getElem_cons him
  generalize (ofN x)[i] = a at *
  generalize (ofN y)[i] = b at *
  by_cases hab : a = b
  · have d3 : decide ((a : Int) = (b : Int)) = true := by simp; omega
    (replace hb0 := true_and True); refine Go1.mk ?_; repeat' ((first | (with_reducible refine Go1.go ?_) | ((with_reducible first | refine brv_mk ?_ ?_ | refine gsplitD ?_ ?_ | refine gsplitG ?_ ?_) <;> intro h <;> (try simp only [Bool.not_eq_true', Bool.not_eq_false'] at h) <;> replace hb0 := h) | ((with_reducible refine isDraw [some 23, some 24, some 25, some 26, some 27, some 28, some 29, some 30, some 31] (by decide) ?_); refine draw_rule [(0, []), (1, []), (2, []), (3, []), (4, [3]), (5, [3]), (6, [3]), (7, [3]), (8, [])] [[], [], [0, 1], [0, 1, 2], [], [], [4, 5], [4, 5, 6], [0, 1, 2, 3, 4, 5, 6, 7]] [23, 24, 25, 26, 27, 28, 29, 30] [] (by kernel_rfl) (by kernel_rfl) (by kernel_rfl) (by kernel_rfl) (by exact trivial) ?_) | ((with_reducible refine isDraw [some 32, some 33, some 34, some 35, some 36, some 37, some 38, some 39, some 40] (by decide) ?_); refine draw_rule [(0, []), (1, []), (2, []), (3, []), (4, [3]), (5, [3]), (6, [3]), (7, [3]), (8, [])] [[], [], [0, 1], [0, 1, 2], [], [], [4, 5], [4, 5, 6], [0, 1, 2, 3, 4, 5, 6, 7]] [32, 33, 34, 35, 36, 37, 38, 39] [] (by kernel_rfl) (by kernel_rfl) (by kernel_rfl) (by kernel_rfl) (by exact trivial) ?_) | (refine And.intro ?ob ?_; case ob => ((try simp only [sxO, ne_eq, maxLen] at *); omega)) | fail) <;> (try simp (config := { maxSteps := 1000000 }) only [hb0, cE_ment, hasK_nil, cE_kill, cE_len, u32_one, u32_app1, u32_set, Nat.mul_one, rcSt, u32V, ej, hu.one, hv.one, hxi, hyi, d2, d3, w10, ↓hold_pre, awayP, runOps, regK, step1, newK, genR, appR, obl, buildR, Value.cells, closeK, keepH, outV, retK, ret1, retC, RetV, Option.getD, runD, stepD, afterK, undef, simprocAttr, sxB, ↓sxD, sxE, sxTab]))
    exact ⟨i, rcSt M u v i, by omega, le_sub ⟨rfl, rfl, rfl, trivial⟩ trivial rfl rfl rfl (keepLt0 _), i, rfl, by omega, by rw [hdx, hdy, hd, hab], rfl⟩
  · have d3 : decide ((a : Int) = (b : Int)) = false := by simp; omega
    by_cases hlt2 : a < b
    · have d4 : decide ((a : Int) < (b : Int)) = true := by simp; omega
      rw [cmpN_lt (lt1 hlt2)] at hK
      (replace hb0 := true_and True); refine Go1.mk ?_; repeat' ((first | (with_reducible refine Go1.go ?_) | ((with_reducible first | refine brv_mk ?_ ?_ | refine gsplitD ?_ ?_ | refine gsplitG ?_ ?_) <;> intro h <;> (try simp only [Bool.not_eq_true', Bool.not_eq_false'] at h) <;> replace hb0 := h) | ((with_reducible refine isDraw [some 23, some 24, some 25, some 26, some 27, some 28, some 29, some 30, some 31] (by decide) ?_); refine draw_rule [(0, []), (1, []), (2, []), (3, []), (4, [3]), (5, [3]), (6, [3]), (7, [3]), (8, [])] [[], [], [0, 1], [0, 1, 2], [], [], [4, 5], [4, 5, 6], [0, 1, 2, 3, 4, 5, 6, 7]] [23, 24, 25, 26, 27, 28, 29, 30] [] (by kernel_rfl) (by kernel_rfl) (by kernel_rfl) (by kernel_rfl) (by exact trivial) ?_) | ((with_reducible refine isDraw [some 32, some 33, some 34, some 35, some 36, some 37, some 38, some 39, some 40] (by decide) ?_); refine draw_rule [(0, []), (1, []), (2, []), (3, []), (4, [3]), (5, [3]), (6, [3]), (7, [3]), (8, [])] [[], [], [0, 1], [0, 1, 2], [], [], [4, 5], [4, 5, 6], [0, 1, 2, 3, 4, 5, 6, 7]] [32, 33, 34, 35, 36, 37, 38, 39] [] (by kernel_rfl) (by kernel_rfl) (by kernel_rfl) (by kernel_rfl) (by exact trivial) ?_) | (refine And.intro ?ob ?_; case ob => ((try simp only [sxO, ne_eq, maxLen] at *); omega)) | fail) <;> (try simp (config := { maxSteps := 1000000 }) only [hb0, cE_ment, hasK_nil, cE_kill, cE_len, u32_one, u32_app1, u32_set, Nat.mul_one, rcSt, u32V, ej, hu.one, hv.one, hxi, hyi, d2, d3, d4, w10, ↓hold_pre, awayP, runOps, regK, step1, newK, genR, appR, obl, buildR, Value.cells, closeK, keepH, outV, retK, ret1, retC, RetV, Option.getD, runD, stepD, afterK, undef, simprocAttr, sxB, ↓sxD, sxE, sxTab]))
      exact hK
    · have d4 : decide ((a : Int) < (b : Int)) = false := by simp; omega
      rw [cmpN_gt (lt2 (by omega))] at hK
      (replace hb0 := true_and True); refine Go1.mk ?_; repeat' ((first | (with_reducible refine Go1.go ?_) | ((with_reducible first | refine brv_mk ?_ ?_ | refine gsplitD ?_ ?_ | refine gsplitG ?_ ?_) <;> intro h <;> (try simp only [Bool.not_eq_true', Bool.not_eq_false'] at h) <;> replace hb0 := h) | ((with_reducible refine isDraw [some 23, some 24, some 25, some 26, some 27, some 28, some 29, some 30, some 31] (by decide) ?_); refine draw_rule [(0, []), (1, []), (2, []), (3, []), (4, [3]), (5, [3]), (6, [3]), (7, [3]), (8, [])] [[], [], [0, 1], [0, 1, 2], [], [], [4, 5], [4, 5, 6], [0, 1, 2, 3, 4, 5, 6, 7]] [23, 24, 25, 26, 27, 28, 29, 30] [] (by kernel_rfl) (by kernel_rfl) (by kernel_rfl) (by kernel_rfl) (by exact trivial) ?_) | ((with_reducible refine isDraw [some 32, some 33, some 34, some 35, some 36, some 37, some 38, some 39, some 40] (by decide) ?_); refine draw_rule [(0, []), (1, []), (2, []), (3, []), (4, [3]), (5, [3]), (6, [3]), (7, [3]), (8, [])] [[], [], [0, 1], [0, 1, 2], [], [], [4, 5], [4, 5, 6], [0, 1, 2, 3, 4, 5, 6, 7]] [32, 33, 34, 35, 36, 37, 38, 39] [] (by kernel_rfl) (by kernel_rfl) (by kernel_rfl) (by kernel_rfl) (by exact trivial) ?_) | (refine And.intro ?ob ?_; case ob => ((try simp only [sxO, ne_eq, maxLen] at *); omega)) | fail) <;> (try simp (config := { maxSteps := 1000000 }) only [hb0, cE_ment, hasK_nil, cE_kill, cE_len, u32_one, u32_app1, u32_set, Nat.mul_one, rcSt, u32V, ej, hu.one, hv.one, hxi, hyi, d2, d3, d4, w10, ↓hold_pre, awayP, runOps, regK, step1, newK, genR, appR, obl, buildR, Value.cells, closeK, keepH, outV, retK, ret1, retC, RetV, Option.getD, runD, stepD, afterK, undef, simprocAttr, sxB, ↓sxD, sxE, sxTab]))
      exact hK
theorem rlimited_ok (w : Value) (n : Nat) (hw : IsL M u32V w (ofN n)) (hK1 : (ofN n).length ≤ 128 → K (.ext (.tuple #[w, .int .i64 0])) [] M) (hK2 : 128 < (ofN n).length → K (.ext (.tuple #[.slice none 0 0, .int .i64 2])) [] M) : CallS Tryd.prog 114 [.ext w] [] M [] K := by
  refine inlS (cs := []) Tryd.mixed Tryd.func114 rfl (by kernel_rfl) 0 rfl rfl ?_
  simp only [Tryd.f114]
  by_cases h : (ofN n).length ≤ 128
  · have d1 : decide ((128 : Int) < ((ofN n).length : Int)) = false := by simp; omega
    (replace hb0 := true_and True); refine Go1.mk ?_; repeat' ((first | (with_reducible refine Go1.go ?_) | ((with_reducible first | refine brv_mk ?_ ?_ | refine gsplitD ?_ ?_ | refine gsplitG ?_ ?_) <;> intro h <;> (try simp only [Bool.not_eq_true', Bool.not_eq_false'] at h) <;> replace hb0 := h) | (refine And.intro ?ob ?_; case ob => ((try simp only [sxO, ne_eq, maxLen] at *); omega)) | fail) <;> (try simp (config := { maxSteps := 1000000 }) only [hb0, hw.one, hw.len, hw.sl, d1, ↓hold_pre, awayP, runOps, regK, step1, newK, genR, appR, obl, buildR, Value.cells, closeK, keepH, outV, retK, ret1, retC, RetV, Option.getD, runD, stepD, afterK, undef, simprocAttr, sxB, ↓sxD, sxE, sxTab]))
    exact hK1 h
  · have d1 : decide ((128 : Int) < ((ofN n).length : Int)) = true := by simp; omega
    (replace hb0 := true_and True); refine Go1.mk ?_; repeat' ((first | (with_reducible refine Go1.go ?_) | ((with_reducible first | refine brv_mk ?_ ?_ | refine gsplitD ?_ ?_ | refine gsplitG ?_ ?_) <;> intro h <;> (try simp only [Bool.not_eq_true', Bool.not_eq_false'] at h) <;> replace hb0 := h) | (refine And.intro ?ob ?_; case ob => ((try simp only [sxO, ne_eq, maxLen] at *); omega)) | fail) <;> (try simp (config := { maxSteps := 1000000 }) only [hb0, hw.one, hw.len, hw.sl, d1, ↓hold_pre, awayP, runOps, regK, step1, newK, genR, appR, obl, buildR, Value.cells, closeK, keepH, outV, retK, ret1, retC, RetV, Option.getD, runD, stepD, afterK, undef, simprocAttr, sxB, ↓sxD, sxE, sxTab]))
    exact hK2 (by omega)
def rtSt (M : Mem) (u : Value) (j : Nat) : St := { env := [(3, .ext (.int .i64 (j : Int))), (0, .ext u)], hp := [], M := M, kb := 0, fx := [] }
theorem rtrim_ok (u : Value) (l : List Nat) (hu : IsL M u32V u l) (ho : okN l) (hb : l.length < 1000000000) (hK : NatK M K (valN l)) : CallS Tryd.prog 89 [.ext u] [] M [] K := by
  refine CallS.frzF ?_
  refine inlS (cs := []) Tryd.mixed Tryd.func89 rfl (by kernel_rfl) 0 rfl rfl ?_
  simp only [Tryd.f89]
  (replace hb0 := true_and True); refine Go1.mk ?_; repeat' ((first | (with_reducible refine Go1.go ?_) | ((with_reducible first | refine brv_mk ?_ ?_ | refine gsplitD ?_ ?_ | refine gsplitG ?_ ?_) <;> intro h <;> (try simp only [Bool.not_eq_true', Bool.not_eq_false'] at h) <;> replace hb0 := h) | (refine And.intro ?ob ?_; case ob => ((try simp only [sxO, ne_eq, maxLen] at *); omega)) | fail) <;> (try simp (config := { maxSteps := 1000000 }) only [hb0, cE_ment, hasK_nil, cE_kill, cE_len, u32_one, u32_app1, u32_set, Nat.mul_one, hu.one, hu.len, hu.sl, ↓hold_pre, awayP, runOps, regK, step1, newK, genR, appR, obl, buildR, Value.cells, closeK, keepH, outV, retK, ret1, retC, RetV, Option.getD, runD, stepD, afterK, undef, simprocAttr, sxB, ↓sxD, sxE, sxTab]))
  refine ⟨fun d z => ∃ j, j = d ∧ j ≤ l.length ∧ (∀ i (h : i < l.length), j ≤ i → l[i] = 0) ∧ z = rtSt M u j, ⟨l.length, rtSt M u l.length, le_sub ⟨rfl, rfl, trivial⟩ trivial rfl rfl rfl (keepLt0 _), ⟨_, rfl, Nat.le_refl _, fun i h hi => by omega, rfl⟩⟩, ?_⟩
  rintro d z ⟨j, rfl, hj, hz, rfl⟩
  have hsub := hu.sub (Nat.zero_le j) hj
  rw [List.drop_zero, Nat.sub_zero] at hsub
  have hslen := hsub.len
  rw [List.length_take, Nat.min_eq_left hj] at hslen
  have hrow := hsub.row
  have hcap := hu.cap
  have d6 : (j : Int) ≤ (scap u : Int) := by omega
  have d7 : (0 : Int) ≤ (j : Int) := by omega
  have hmp : List.map AV.ext (List.map u32V (l.take j)) = cE u32V (l.take j) := rfl
  have key : (∀ h : 0 < j, l[j - 1] ≠ 0) → FrzF K [] (.slo 21 0 j 1) [(21, 70, cE u32V (l.take j))] M := fun h => by
    have e := take_canon ho hj hz h
    rw [e]
    exact NatK.frz hK (by rw [← e, List.length_take]; omega)
  by_cases hlt : 0 < j
  case neg =>
    obtain rfl : j = 0 := by omega
    have d1 : decide ((0 : Int) < ((0 : Nat) : Int)) = false := by decide
    (replace hb0 := true_and True); refine Go1.mk ?_; repeat' ((first | (with_reducible refine Go1.go ?_) | ((with_reducible first | refine brv_mk ?_ ?_ | refine gsplitD ?_ ?_ | refine gsplitG ?_ ?_) <;> intro h <;> (try simp only [Bool.not_eq_true', Bool.not_eq_false'] at h) <;> replace hb0 := h) | (refine And.intro ?ob ?_; case ob => ((try simp only [sxO, ne_eq, maxLen] at *); omega)) | fail) <;> (try simp (config := { maxSteps := 1000000 }) only [hb0, cE_ment, hasK_nil, cE_kill, cE_len, u32_one, u32_app1, u32_set, Nat.mul_one, rtSt, hu.one, hu.len, hu.sl, d1, d6, d7, hsub.sl, hslen, hrow, hmp, ↓hold_pre, awayP, runOps, regK, step1, newK, genR, appR, obl, buildR, Value.cells, closeK, keepH, outV, retK, ret1, retC, RetV, Option.getD, runD, stepD, afterK, undef, simprocAttr, sxB, ↓sxD, sxE, sxTab]))
    exact key (fun h => by omega)
  have d1 : decide ((0 : Int) < (j : Int)) = true := by simp; omega
  have w1 := pred_i hlt (by omega)
  have hi : j - 1 < l.length := by omega
  have hxi := hu.idx (P := Tryd.prog) (T := 70) tk70 tz70 (by omega) hi
  by_cases h0 : l[j - 1] = 0
  · have d4 : decide ((l[j - 1] : Int) = 0) = true := by simp; omega
    (replace hb0 := true_and True); refine Go1.mk ?_; repeat' ((first | (with_reducible refine Go1.go ?_) | ((with_reducible first | refine brv_mk ?_ ?_ | refine gsplitD ?_ ?_ | refine gsplitG ?_ ?_) <;> intro h <;> (try simp only [Bool.not_eq_true', Bool.not_eq_false'] at h) <;> replace hb0 := h) | (refine And.intro ?ob ?_; case ob => ((try simp only [sxO, ne_eq, maxLen] at *); omega)) | fail) <;> (try simp (config := { maxSteps := 1000000 }) only [hb0, cE_ment, hasK_nil, cE_kill, cE_len, u32_one, u32_app1, u32_set, Nat.mul_one, u32V, rtSt, hu.one, hu.len, hu.sl, d1, w1, hxi, d4, ↓hold_pre, awayP, runOps, regK, step1, newK, genR, appR, obl, buildR, Value.cells, closeK, keepH, outV, retK, ret1, retC, RetV, Option.getD, runD, stepD, afterK, undef, simprocAttr, sxB, ↓sxD, sxE, sxTab]))
    exact ⟨j - 1, _, by omega, le_sub (z := rtSt M u (j - 1)) ⟨rfl, rfl, trivial⟩ trivial rfl rfl rfl (keepLt0 _), j - 1, rfl, by omega, fun i h hi => by
      rcases Nat.lt_or_ge i j with h1 | h1
      · obtain rfl : i = j - 1 := by omega
        exact h0
      · exact hz i h h1, rfl⟩
  · have d4 : decide ((l[j - 1] : Int) = 0) = false := by simp; omega
    (replace hb0 := true_and True); refine Go1.mk ?_; repeat' ((first | (with_reducible refine Go1.go ?_) | ((with_reducible first | refine brv_mk ?_ ?_ | refine gsplitD ?_ ?_ | refine gsplitG ?_ ?_) <;> intro h <;> (try simp only [Bool.not_eq_true', Bool.not_eq_false'] at h) <;> replace hb0 := h) | (refine And.intro ?ob ?_; case ob => ((try simp only [sxO, ne_eq, maxLen] at *); omega)) | fail) <;> (try simp (config := { maxSteps := 1000000 }) only [hb0, cE_ment, hasK_nil, cE_kill, cE_len, u32_one, u32_app1, u32_set, Nat.mul_one, u32V, rtSt, hu.one, hu.len, hu.sl, d1, w1, hxi, d4, d6, d7, hsub.sl, hslen, hrow, hmp, ↓hold_pre, awayP, runOps, regK, step1, newK, genR, appR, obl, buildR, Value.cells, closeK, keepH, outV, retK, ret1, retC, RetV, Option.getD, runD, stepD, afterK, undef, simprocAttr, sxB, ↓sxD, sxE, sxTab]))
    exact key (fun h => h0)
/-- a list of one's own is trimmed into a new one -/
theorem rtrim_bor (k n : Nat) (T : TypeId) (l : List Nat) (hn : n = l.length) (ho : okN l) (hb : l.length < 1000000000) (hK : ∀ w M', Mem.le M M' → IsL M' u32V w (ofN (valN l)) → FreshS M w → K (.ext w) [(k, T, cE u32V l)] M') :
    CallS Tryd.prog 89 [.slo k 0 n 1] [(k, T, cE u32V l)] M [] K := by
  refine CallS.bor ⟨⟨_, rfl⟩, trivial⟩ fun us M' hM hb' => ?_
  obtain ⟨v1, _, rfl, h1, rfl⟩ := hb'
  have g1 := h1.isL (g := u32V) (L := l) (T := T) (by simp [lkH]) hn
  refine rtrim_ok v1 l g1 ho hb fun w M2 h2 h3 h4 => ?_
  exact ⟨fun j hj => rfl, fun M3 h5 h6 _ => hK w M3 h5 (h3.move h4 h6) (h4.le hM)⟩
theorem rof_ok (n : Nat) (hn : n < 18446744073709551616) (hK : NatK M K n) : CallS Tryd.prog 55 [.ext (.int .u64 (n : Int))] [] M [] K := by
  refine inlS (cs := []) Tryd.mixed Tryd.func55 rfl (by kernel_rfl) 0 rfl rfl ?_
  simp only [Tryd.f55]
  have w1 := wrap32 n
  have w2 := shr32 n
  have w3 : IntKind.u32.wrap ((n / 4294967296 : Nat) : Int) = ((n / 4294967296 : Nat) : Int) := wrap32_id (by omega)
  have c1 : [AV.ext (.int .u32 ((n % 4294967296 : Nat) : Int)), AV.ext (.int .u32 ((n / 4294967296 : Nat) : Int))] = cE u32V [n % 4294967296, n / 4294967296] := rfl
  have ho : okN [n % 4294967296, n / 4294967296] := okN_cons.2 ⟨by omega, okN_one (by omega)⟩
  have hv := val2 n
  (replace hb0 := true_and True); refine Go1.mk ?_; repeat' ((first | (with_reducible refine Go1.go ?_) | ((with_reducible first | refine brv_mk ?_ ?_ | refine gsplitD ?_ ?_ | refine gsplitG ?_ ?_) <;> intro h <;> (try simp only [Bool.not_eq_true', Bool.not_eq_false'] at h) <;> replace hb0 := h) | ((with_reducible refine isCall (f := 89) ?_); refine callA ?_) | ((with_reducible refine isCall0 (f := 89) ?_); refine callA0 ?_) | ((with_reducible refine isCallS (f := 89) ?_); refine (rtrim_bor 8 2 _ [n % 4294967296, n / 4294967296] rfl ho (by simp) (fun w M' h1 h2 h3 => Stop.mk ?_))) | (refine And.intro ?ob ?_; case ob => ((try simp only [sxO, ne_eq, maxLen] at *); omega)) | fail) <;> (try simp (config := { maxSteps := 1000000 }) only [hb0, cE_ment, hasK_nil, cE_kill, cE_len, u32_one, u32_app1, u32_set, Nat.mul_one, w1, w2, w3, c1, ↓hold_pre, awayP, runOps, regK, step1, newK, genR, appR, obl, buildR, Value.cells, closeK, keepH, outV, retK, ret1, retC, RetV, Option.getD, runD, stepD, afterK, undef, simprocAttr, sxB, ↓sxD, sxE, sxTab]))
  rw [hv] at h2
  refine Stop.go ?_
  (replace hb0 := true_and True); refine Go1.mk ?_; repeat' ((first | (with_reducible refine Go1.go ?_) | ((with_reducible first | refine brv_mk ?_ ?_ | refine gsplitD ?_ ?_ | refine gsplitG ?_ ?_) <;> intro h <;> (try simp only [Bool.not_eq_true', Bool.not_eq_false'] at h) <;> replace hb0 := h) | (refine And.intro ?ob ?_; case ob => ((try simp only [sxO, ne_eq, maxLen] at *); omega)) | fail) <;> (try simp (config := { maxSteps := 1000000 }) only [hb0, cE_ment, hasK_nil, cE_kill, cE_len, u32_one, u32_app1, u32_set, Nat.mul_one, h2.one, ↓hold_pre, awayP, runOps, regK, step1, newK, genR, appR, obl, buildR, Value.cells, closeK, keepH, outV, retK, ret1, retC, RetV, Option.getD, runD, stepD, afterK, undef, simprocAttr, sxB, ↓sxD, sxE, sxTab]))
  exact hK _ _ h1 h2 h3
variable {u v : Value} {l1 l2 : List Nat}
end
end Go.Proofs.YtamghpnjdohnjaaDoor.Sx
