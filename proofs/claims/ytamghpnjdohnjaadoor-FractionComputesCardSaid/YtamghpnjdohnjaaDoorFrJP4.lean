/- Part 4 of the texts of this claim: a symbolic executor and contracts of functions. -/
import Derived.Test.YtamghpnjdohnjaaDoorFrJP3
import Derived.Shelf.Strings.Builder1
import Derived.Shelf.Strings.BuilderF
import Derived.WalkKit
import Derived.ProofKit
import Derived.OpenShut
import Derived.Below
import Derived.ChangeSame
import Derived.Carry
import Derived.Deep.Slices
namespace Go.Proofs.YtamghpnjdohnjaaDoor.Sx
open Go Go.RowKit
set_option linter.unusedVariables false
set_option linter.unusedSimpArgs false
set_option maxRecDepth 100000
set_option maxHeartbeats 8000000
attribute [local congr] fin_congr finG_congr stepG_congr step1_congr runOps_congr brv_congr obl_congr condK_congr LoopK_congr seqK_congr CutK_congr vc_congr DrawK_congr regK_congr CallK_congr AskK_congr newK_congr retC_congr ret1_congr retK_congr outV_congr closeK_congr genR_congr appR_congr finD_congr finGD_congr stepGD_congr stepD_congr CallK0_congr runD_congr okR_congr CallS_congr vcX_congr
attribute [local congr] Stop_congr
theorem wN_two (i : Nat) : wN i = 2 ^ (32 * i) := by unfold wN; rw [Nat.pow_mul]
section
variable {M : Mem} {K : AV → Hp → Mem → Prop}
theorem rcheck_ok (u : Value) (l : List Nat) (hu : IsL M u32V u l) (hb : l.length < 1000000000) (hK : K (.ext (.bool (chkN l))) [] M) : CallS Tryd.prog 52 [.ext u] [] M [] K := by
  refine inlS (cs := []) Tryd.mixed Tryd.func52 rfl (by kernel_rfl) 0 rfl rfl ?_
  simp only [Tryd.f52]
  by_cases h1 : l.length ≤ 128
  · have d1 : decide ((l.length : Int) ≤ 128) = true := by simp; omega
    by_cases h2 : l.length = 0
    · have d2 : decide ((l.length : Int) = 0) = true := by rw [h2]; rfl
      rw [show chkN l = true by simp [chkN, h1, h2]] at hK
      (replace hb0 := true_and True); refine Go1.mk ?_; repeat' ((first | (with_reducible refine Go1.go ?_) | ((with_reducible first | refine brv_mk ?_ ?_ | refine gsplitD ?_ ?_ | refine gsplitG ?_ ?_) <;> intro h <;> (try simp only [Bool.not_eq_true', Bool.not_eq_false'] at h) <;> replace hb0 := h) | (refine And.intro ?ob ?_; case ob => ((try simp only [sxO, ne_eq, maxLen] at *); omega)) | fail) <;> (try simp (config := { maxSteps := 1000000 }) only [hb0, cE_ment, hasK_nil, cE_kill, cE_len, u32_one, u32_app1, u32_set, Nat.mul_one, hu.one, hu.len, hu.sl, d1, d2, ↓hold_pre, awayP, runOps, regK, step1, newK, genR, appR, obl, buildR, Value.cells, closeK, keepH, outV, retK, ret1, retC, RetV, Option.getD, runD, stepD, afterK, undef, simprocAttr, sxB, ↓sxD, sxE, sxTab]))
      exact hK
    · have d2 : decide ((l.length : Int) = 0) = false := by rw [decide_eq_false_iff_not]; omega
      have hi := hu.idx (P := Tryd.prog) (T := 70) tk70 tz70 (by omega) (show l.length - 1 < l.length by omega)
      have w1 : IntKind.i64.wrap ((l.length : Int) - 1) = ((l.length - 1 : Nat) : Int) := pred_i (by omega) (by omega)
      have hc : chkN l = !decide ((l[l.length - 1]'(by omega) : Int) = 0) := by
        have e : decide ((l[l.length - 1]'(by omega) : Int) = 0) = decide (l[l.length - 1]'(by omega) = 0) := by
          rw [decide_eq_decide]; omega
        rw [e]
        simp [chkN, h1, h2, List.getD, show l.length - 1 < l.length by omega]
      rw [hc] at hK
      (replace hb0 := true_and True); refine Go1.mk ?_; repeat' ((first | (with_reducible refine Go1.go ?_) | ((with_reducible first | refine brv_mk ?_ ?_ | refine gsplitD ?_ ?_ | refine gsplitG ?_ ?_) <;> intro h <;> (try simp only [Bool.not_eq_true', Bool.not_eq_false'] at h) <;> replace hb0 := h) | (refine And.intro ?ob ?_; case ob => ((try simp only [sxO, ne_eq, maxLen] at *); omega)) | fail) <;> (try simp (config := { maxSteps := 1000000 }) only [hb0, cE_ment, hasK_nil, cE_kill, cE_len, u32_one, u32_app1, u32_set, Nat.mul_one, u32V, hu.one, hu.len, hu.sl, d1, d2, hi, w1, ↓hold_pre, awayP, runOps, regK, step1, newK, genR, appR, obl, buildR, Value.cells, closeK, keepH, outV, retK, ret1, retC, RetV, Option.getD, runD, stepD, afterK, undef, simprocAttr, sxB, ↓sxD, sxE, sxTab]))
      exact hK
  · have d1 : decide ((l.length : Int) ≤ 128) = false := by simp; omega
    rw [show chkN l = false by simp [chkN, h1]] at hK
    (replace hb0 := true_and True); refine Go1.mk ?_; repeat' ((first | (with_reducible refine Go1.go ?_) | ((with_reducible first | refine brv_mk ?_ ?_ | refine gsplitD ?_ ?_ | refine gsplitG ?_ ?_) <;> intro h <;> (try simp only [Bool.not_eq_true', Bool.not_eq_false'] at h) <;> replace hb0 := h) | (refine And.intro ?ob ?_; case ob => ((try simp only [sxO, ne_eq, maxLen] at *); omega)) | fail) <;> (try simp (config := { maxSteps := 1000000 }) only [hb0, cE_ment, hasK_nil, cE_kill, cE_len, u32_one, u32_app1, u32_set, Nat.mul_one, hu.one, hu.len, hu.sl, d1, ↓hold_pre, awayP, runOps, regK, step1, newK, genR, appR, obl, buildR, Value.cells, closeK, keepH, outV, retK, ret1, retC, RetV, Option.getD, runD, stepD, afterK, undef, simprocAttr, sxB, ↓sxD, sxE, sxTab]))
    exact hK
def rcSt (M : Mem) (u v : Value) (j : Nat) : St := { env := [(5, .ext (.int .i64 ((j : Int) - 1))), (0, .ext u), (1, .ext v)], hp := [], M := M, kb := 0, fx := [] }
theorem rorder_ok (u v : Value) (x y : Nat) (hu : IsL M u32V u (ofN x)) (hv : IsL M u32V v (ofN y)) (hx : (ofN x).length < 100000000) (hy : (ofN y).length < 100000000) (hK : K (.ext (.int .i64 (cmpN x y))) [] M) : CallS Tryd.prog 57 [.ext u, .ext v] [] M [] K := by
  refine inlS (cs := []) Tryd.mixed Tryd.func57 rfl (by kernel_rfl) 0 rfl rfl ?_
  simp only [Tryd.f57]
  generalize hl : (ofN x).length = la at *
  generalize hm : (ofN y).length = lb at *
  by_cases hne : la = lb
  case neg =>
    have d1 : decide ((la : Int) = (lb : Int)) = false := by simp; omega
    by_cases hlt : la < lb
    · have d2 : decide ((la : Int) < (lb : Int)) = true := by simp; omega
      rw [cmpN_lt (len_lt (by omega))] at hK
      (replace hb0 := true_and True); refine Go1.mk ?_; repeat' ((first | (with_reducible refine Go1.go ?_) | ((with_reducible first | refine brv_mk ?_ ?_ | refine gsplitD ?_ ?_ | refine gsplitG ?_ ?_) <;> intro h <;> (try simp only [Bool.not_eq_true', Bool.not_eq_false'] at h) <;> replace hb0 := h) | ((with_reducible refine isDraw [some 23, some 24, some 25, some 26, some 27, some 28, some 29, some 30, some 31] (by decide) ?_); refine draw_rule [(0, []), (1, []), (2, []), (3, []), (4, [3]), (5, [3]), (6, [3]), (7, [3]), (8, [])] [[], [], [0, 1], [0, 1, 2], [], [], [4, 5], [4, 5, 6], [0, 1, 2, 3, 4, 5, 6, 7]] [23, 24, 25, 26, 27, 28, 29, 30] [] (by kernel_rfl) (by kernel_rfl) (by kernel_rfl) (by kernel_rfl) (by exact trivial) ?_) | ((with_reducible refine isDraw [some 32, some 33, some 34, some 35, some 36, some 37, some 38, some 39, some 40] (by decide) ?_); refine draw_rule [(0, []), (1, []), (2, []), (3, []), (4, [3]), (5, [3]), (6, [3]), (7, [3]), (8, [])] [[], [], [0, 1], [0, 1, 2], [], [], [4, 5], [4, 5, 6], [0, 1, 2, 3, 4, 5, 6, 7]] [32, 33, 34, 35, 36, 37, 38, 39] [] (by kernel_rfl) (by kernel_rfl) (by kernel_rfl) (by kernel_rfl) (by exact trivial) ?_) | (refine And.intro ?ob ?_; case ob => ((try simp only [sxO, ne_eq, maxLen] at *); omega)) | fail) <;> (try simp (config := { maxSteps := 1000000 }) only [hb0, cE_ment, hasK_nil, cE_kill, cE_len, u32_one, u32_app1, u32_set, Nat.mul_one, hu.one, hv.one, hu.len, hu.sl, hl, hv.len, hv.sl, hm, d1, d2, ↓hold_pre, awayP, runOps, regK, step1, newK, genR, appR, obl, buildR, Value.cells, closeK, keepH, outV, retK, ret1, retC, RetV, Option.getD, runD, stepD, afterK, undef, simprocAttr, sxB, ↓sxD, sxE, sxTab]))
      exact hK
    · have d2 : decide ((la : Int) < (lb : Int)) = false := by simp; omega
      rw [cmpN_gt (len_lt (by omega))] at hK
      (replace hb0 := true_and True); refine Go1.mk ?_; repeat' ((first | (with_reducible refine Go1.go ?_) | ((with_reducible first | refine brv_mk ?_ ?_ | refine gsplitD ?_ ?_ | refine gsplitG ?_ ?_) <;> intro h <;> (try simp only [Bool.not_eq_true', Bool.not_eq_false'] at h) <;> replace hb0 := h) | ((with_reducible refine isDraw [some 23, some 24, some 25, some 26, some 27, some 28, some 29, some 30, some 31] (by decide) ?_); refine draw_rule [(0, []), (1, []), (2, []), (3, []), (4, [3]), (5, [3]), (6, [3]), (7, [3]), (8, [])] [[], [], [0, 1], [0, 1, 2], [], [], [4, 5], [4, 5, 6], [0, 1, 2, 3, 4, 5, 6, 7]] [23, 24, 25, 26, 27, 28, 29, 30] [] (by kernel_rfl) (by kernel_rfl) (by kernel_rfl) (by kernel_rfl) (by exact trivial) ?_) | ((with_reducible refine isDraw [some 32, some 33, some 34, some 35, some 36, some 37, some 38, some 39, some 40] (by decide) ?_); refine draw_rule [(0, []), (1, []), (2, []), (3, []), (4, [3]), (5, [3]), (6, [3]), (7, [3]), (8, [])] [[], [], [0, 1], [0, 1, 2], [], [], [4, 5], [4, 5, 6], [0, 1, 2, 3, 4, 5, 6, 7]] [32, 33, 34, 35, 36, 37, 38, 39] [] (by kernel_rfl) (by kernel_rfl) (by kernel_rfl) (by kernel_rfl) (by exact trivial) ?_) | (refine And.intro ?ob ?_; case ob => ((try simp only [sxO, ne_eq, maxLen] at *); omega)) | fail) <;> (try simp (config := { maxSteps := 1000000 }) only [hb0, cE_ment, hasK_nil, cE_kill, cE_len, u32_one, u32_app1, u32_set, Nat.mul_one, hu.one, hv.one, hu.len, hu.sl, hl, hv.len, hv.sl, hm, d1, d2, ↓hold_pre, awayP, runOps, regK, step1, newK, genR, appR, obl, buildR, Value.cells, closeK, keepH, outV, retK, ret1, retC, RetV, Option.getD, runD, stepD, afterK, undef, simprocAttr, sxB, ↓sxD, sxE, sxTab]))
      exact hK
  subst hne
  have d1 : decide ((la : Int) = (la : Int)) = true := by simp
  have w1 : IntKind.i64.wrap ((la : Int) - 1) = (la : Int) - 1 := wrap_id (by omega) (by omega)
  (replace hb0 := true_and True); refine Go1.mk ?_; repeat' ((first | (with_reducible refine Go1.go ?_) | ((with_reducible first | refine brv_mk ?_ ?_ | refine gsplitD ?_ ?_ | refine gsplitG ?_ ?_) <;> intro h <;> (try simp only [Bool.not_eq_true', Bool.not_eq_false'] at h) <;> replace hb0 := h) | ((with_reducible refine isDraw [some 23, some 24, some 25, some 26, some 27, some 28, some 29, some 30, some 31] (by decide) ?_); refine draw_rule [(0, []), (1, []), (2, []), (3, []), (4, [3]), (5, [3]), (6, [3]), (7, [3]), (8, [])] [[], [], [0, 1], [0, 1, 2], [], [], [4, 5], [4, 5, 6], [0, 1, 2, 3, 4, 5, 6, 7]] [23, 24, 25, 26, 27, 28, 29, 30] [] (by kernel_rfl) (by kernel_rfl) (by kernel_rfl) (by kernel_rfl) (by exact trivial) ?_) | ((with_reducible refine isDraw [some 32, some 33, some 34, some 35, some 36, some 37, some 38, some 39, some 40] (by decide) ?_); refine draw_rule [(0, []), (1, []), (2, []), (3, []), (4, [3]), (5, [3]), (6, [3]), (7, [3]), (8, [])] [[], [], [0, 1], [0, 1, 2], [], [], [4, 5], [4, 5, 6], [0, 1, 2, 3, 4, 5, 6, 7]] [32, 33, 34, 35, 36, 37, 38, 39] [] (by kernel_rfl) (by kernel_rfl) (by kernel_rfl) (by kernel_rfl) (by exact trivial) ?_) | (refine And.intro ?ob ?_; case ob => ((try simp only [sxO, ne_eq, maxLen] at *); omega)) | fail) <;> (try simp (config := { maxSteps := 1000000 }) only [hb0, cE_ment, hasK_nil, cE_kill, cE_len, u32_one, u32_app1, u32_set, Nat.mul_one, hu.one, hv.one, hu.len, hu.sl, hl, hv.len, hv.sl, hm, d1, w1, ↓hold_pre, awayP, runOps, regK, step1, newK, genR, appR, obl, buildR, Value.cells, closeK, keepH, outV, retK, ret1, retC, RetV, Option.getD, runD, stepD, afterK, undef, simprocAttr, sxB, ↓sxD, sxE, sxTab]))
  refine ⟨fun m z => ∃ j, j = m ∧ j ≤ la ∧ (ofN x).drop j = (ofN y).drop j ∧ z = rcSt M u v j,
    ⟨la, rcSt M u v la, le_sub ⟨rfl, rfl, rfl, trivial⟩ trivial rfl rfl rfl (keepLt0 _), ⟨la, rfl, by omega, by rw [List.drop_of_length_le (by omega), List.drop_of_length_le (by omega)], rfl⟩⟩, ?_⟩
  rintro m z ⟨j, rfl, hj, hd, rfl⟩
  by_cases hlt : 0 < j
  case neg =>
    obtain rfl : j = 0 := by omega
    have d2 : decide ((0 : Int) ≤ ((0 : Nat) : Int) - 1) = false := by simp
    have e1 : x = y := ofN_inj (by simpa using hd)
    rw [show cmpN x y = 0 by unfold cmpN; rw [if_neg (by omega), if_pos e1]] at hK
    (replace hb0 := true_and True); refine Go1.mk ?_; repeat' ((first | (with_reducible refine Go1.go ?_) | ((with_reducible first | refine brv_mk ?_ ?_ | refine gsplitD ?_ ?_ | refine gsplitG ?_ ?_) <;> intro h <;> (try simp only [Bool.not_eq_true', Bool.not_eq_false'] at h) <;> replace hb0 := h) | ((with_reducible refine isDraw [some 23, some 24, some 25, some 26, some 27, some 28, some 29, some 30, some 31] (by decide) ?_); refine draw_rule [(0, []), (1, []), (2, []), (3, []), (4, [3]), (5, [3]), (6, [3]), (7, [3]), (8, [])] [[], [], [0, 1], [0, 1, 2], [], [], [4, 5], [4, 5, 6], [0, 1, 2, 3, 4, 5, 6, 7]] [23, 24, 25, 26, 27, 28, 29, 30] [] (by kernel_rfl) (by kernel_rfl) (by kernel_rfl) (by kernel_rfl) (by exact trivial) ?_) | ((with_reducible refine isDraw [some 32, some 33, some 34, some 35, some 36, some 37, some 38, some 39, some 40] (by decide) ?_); refine draw_rule [(0, []), (1, []), (2, []), (3, []), (4, [3]), (5, [3]), (6, [3]), (7, [3]), (8, [])] [[], [], [0, 1], [0, 1, 2], [], [], [4, 5], [4, 5, 6], [0, 1, 2, 3, 4, 5, 6, 7]] [32, 33, 34, 35, 36, 37, 38, 39] [] (by kernel_rfl) (by kernel_rfl) (by kernel_rfl) (by kernel_rfl) (by exact trivial) ?_) | (refine And.intro ?ob ?_; case ob => ((try simp only [sxO, ne_eq, maxLen] at *); omega)) | fail) <;> (try simp (config := { maxSteps := 1000000 }) only [hb0, cE_ment, hasK_nil, cE_kill, cE_len, u32_one, u32_app1, u32_set, Nat.mul_one, rcSt, hu.one, hv.one, d2, ↓hold_pre, awayP, runOps, regK, step1, newK, genR, appR, obl, buildR, Value.cells, closeK, keepH, outV, retK, ret1, retC, RetV, Option.getD, runD, stepD, afterK, undef, simprocAttr, sxB, ↓sxD, sxE, sxTab]))
    exact hK
  obtain ⟨i, rfl⟩ : ∃ i, j = i + 1 := ⟨j - 1, by omega⟩
  have ej : (((i + 1 : Nat) : Int) - 1) = (i : Int) := by omega
  have hil : i < (ofN x).length := by omega
  have him : i < (ofN y).length := by omega
  have hxi := hu.idx (P := Tryd.prog) (T := 70) tk70 tz70 (by omega) hil
  have hyi := hv.idx (P := Tryd.prog) (T := 70) tk70 tz70 (by omega) him
  rw [hl] at hxi
  rw [hm] at hyi
  have d2 : decide ((0 : Int) ≤ (i : Int)) = true := by simp
  have w10 : IntKind.i64.wrap ((i : Int) - 1) = (i : Int) - 1 := wrap_id (by omega) (by omega)
  have lt1 := lt_at hil him hd
  have lt2 := lt_at him hil hd.symm
  have hdx := List.drop_eq_getElem_cons hil
  have hdy := List.drop_eq_getElem_cons him
  generalize (ofN x)[i] = a at *
  generalize (ofN y)[i] = b at *
  by_cases hab : a = b
  · have d3 : decide ((a : Int) = (b : Int)) = true := by simp; omega
    (replace hb0 := true_and True); refine Go1.mk ?_; repeat' ((first | (with_reducible refine Go1.go ?_) | ((with_reducible first | refine brv_mk ?_ ?_ | refine gsplitD ?_ ?_ | refine gsplitG ?_ ?_) <;> intro h <;> (try simp only [Bool.not_eq_true', Bool.not_eq_false'] at h) <;> replace hb0 := h) | ((with_reducible refine isDraw [some 23, some 24, some 25, some 26, some 27, some 28, some 29, some 30, some 31] (by decide) ?_); refine draw_rule [(0, []), (1, []), (2, []), (3, []), (4, [3]), (5, [3]), (6, [3]), (7, [3]), (8, [])] [[], [], [0, 1], [0, 1, 2], [], [], [4, 5], [4, 5, 6], [0, 1, 2, 3, 4, 5, 6, 7]] [23, 24, 25, 26, 27, 28, 29, 30] [] (by kernel_rfl) (by kernel_rfl) (by kernel_rfl) (by kernel_rfl) (by exact trivial) ?_) | ((with_reducible refine isDraw [some 32, some 33, some 34, some 35, some 36, some 37, some 38, some 39, some 40] (by decide) ?_); refine draw_rule [(0, []), (1, []), (2, []), (3, []), (4, [3]), (5, [3]), (6, [3]), (7, [3]), (8, [])] [[], [], [0, 1], [0, 1, 2], [], [], [4, 5], [4, 5, 6], [0, 1, 2, 3, 4, 5, 6, 7]] [32, 33, 34, 35, 36, 37, 38, 39] [] (by kernel_rfl) (by kernel_rfl) (by kernel_rfl) (by kernel_rfl) (by exact trivial) ?_) | (refine And.intro ?ob ?_; case ob => ((try simp only [sxO, ne_eq, maxLen] at *); omega)) | fail) <;> (try simp (config := { maxSteps := 1000000 }) only [hb0, cE_ment, hasK_nil, cE_kill, cE_len, u32_one, u32_app1, u32_set, Nat.mul_one, rcSt, u32V, ej, hu.one, hv.one, hxi, hyi, d2, d3, w10, ↓hold_pre, awayP, runOps, regK, step1, newK, genR, appR, obl, buildR, Value.cells, closeK, keepH, outV, retK, ret1, retC, RetV, Option.getD, runD, stepD, afterK, undef, simprocAttr, sxB, ↓sxD, sxE, sxTab]))
    exact ⟨i, rcSt M u v i, by omega, le_sub ⟨rfl, rfl, rfl, trivial⟩ trivial rfl rfl rfl (keepLt0 _), i, rfl, by omega, by rw [hdx, hdy, hd, hab], rfl⟩
  · have d3 : decide ((a : Int) = (b : Int)) = false := by simp; omega
    by_cases hlt2 : a < b
    · have d4 : decide ((a : Int) < (b : Int)) = true := by simp; omega
      rw [cmpN_lt (lt1 hlt2)] at hK
      (replace hb0 := true_and True); refine Go1.mk ?_; repeat' ((first | (with_reducible refine Go1.go ?_) | ((with_reducible first | refine brv_mk ?_ ?_ | refine gsplitD ?_ ?_ | refine gsplitG ?_ ?_) <;> intro h <;> (try simp only [Bool.not_eq_true', Bool.not_eq_false'] at h) <;> replace hb0 := h) | ((with_reducible refine isDraw [some 23, some 24, some 25, some 26, some 27, some 28, some 29, some 30, some 31] (by decide) ?_); refine draw_rule [(0, []), (1, []), (2, []), (3, []), (4, [3]), (5, [3]), (6, [3]), (7, [3]), (8, [])] [[], [], [0, 1], [0, 1, 2], [], [], [4, 5], [4, 5, 6], [0, 1, 2, 3, 4, 5, 6, 7]] [23, 24, 25, 26, 27, 28, 29, 30] [] (by kernel_rfl) (by kernel_rfl) (by kernel_rfl) (by kernel_rfl) (by exact trivial) ?_) | ((with_reducible refine isDraw [some 32, some 33, some 34, some 35, some 36, some 37, some 38, some 39, some 40] (by decide) ?_); refine draw_rule [(0, []), (1, []), (2, []), (3, []), (4, [3]), (5, [3]), (6, [3]), (7, [3]), (8, [])] [[], [], [0, 1], [0, 1, 2], [], [], [4, 5], [4, 5, 6], [0, 1, 2, 3, 4, 5, 6, 7]] [32, 33, 34, 35, 36, 37, 38, 39] [] (by kernel_rfl) (by kernel_rfl) (by kernel_rfl) (by kernel_rfl) (by exact trivial) ?_) | (refine And.intro ?ob ?_; case ob => ((try simp only [sxO, ne_eq, maxLen] at *); omega)) | fail) <;> (try simp (config := { maxSteps := 1000000 }) only [hb0, cE_ment, hasK_nil, cE_kill, cE_len, u32_one, u32_app1, u32_set, Nat.mul_one, rcSt, u32V, ej, hu.one, hv.one, hxi, hyi, d2, d3, d4, w10, ↓hold_pre, awayP, runOps, regK, step1, newK, genR, appR, obl, buildR, Value.cells, closeK, keepH, outV, retK, ret1, retC, RetV, Option.getD, runD, stepD, afterK, undef, simprocAttr, sxB, ↓sxD, sxE, sxTab]))
      exact hK
    · have d4 : decide ((a : Int) < (b : Int)) = false := by simp; omega
      rw [cmpN_gt (lt2 (by omega))] at hK
      (replace hb0 := true_and True); refine Go1.mk ?_; repeat' ((first | (with_reducible refine Go1.go ?_) | ((with_reducible first | refine brv_mk ?_ ?_ | refine gsplitD ?_ ?_ | refine gsplitG ?_ ?_) <;> intro h <;> (try simp only [Bool.not_eq_true', Bool.not_eq_false'] at h) <;> replace hb0 := h) | ((with_reducible refine isDraw [some 23, some 24, some 25, some 26, some 27, some 28, some 29, some 30, some 31] (by decide) ?_); refine draw_rule [(0, []), (1, []), (2, []), (3, []), (4, [3]), (5, [3]), (6, [3]), (7, [3]), (8, [])] [[], [], [0, 1], [0, 1, 2], [], [], [4, 5], [4, 5, 6], [0, 1, 2, 3, 4, 5, 6, 7]] [23, 24, 25, 26, 27, 28, 29, 30] [] (by kernel_rfl) (by kernel_rfl) (by kernel_rfl) (by kernel_rfl) (by exact trivial) ?_) | ((with_reducible refine isDraw [some 32, some 33, some 34, some 35, some 36, some 37, some 38, some 39, some 40] (by decide) ?_); refine draw_rule [(0, []), (1, []), (2, []), (3, []), (4, [3]), (5, [3]), (6, [3]), (7, [3]), (8, [])] [[], [], [0, 1], [0, 1, 2], [], [], [4, 5], [4, 5, 6], [0, 1, 2, 3, 4, 5, 6, 7]] [32, 33, 34, 35, 36, 37, 38, 39] [] (by kernel_rfl) (by kernel_rfl) (by kernel_rfl) (by kernel_rfl) (by exact trivial) ?_) | (refine And.intro ?ob ?_; case ob => ((try simp only [sxO, ne_eq, maxLen] at *); omega)) | fail) <;> (try simp (config := { maxSteps := 1000000 }) only [hb0, cE_ment, hasK_nil, cE_kill, cE_len, u32_one, u32_app1, u32_set, Nat.mul_one, rcSt, u32V, ej, hu.one, hv.one, hxi, hyi, d2, d3, d4, w10, ↓hold_pre, awayP, runOps, regK, step1, newK, genR, appR, obl, buildR, Value.cells, closeK, keepH, outV, retK, ret1, retC, RetV, Option.getD, runD, stepD, afterK, undef, simprocAttr, sxB, ↓sxD, sxE, sxTab]))
      exact hK
def rtSt (M : Mem) (u : Value) (j : Nat) : St := { env := [(3, .ext (.int .i64 (j : Int))), (0, .ext u)], hp := [], M := M, kb := 0, fx := [] }
theorem rtrim_ok (u : Value) (l : List Nat) (hu : IsL M u32V u l) (ho : okN l) (hb : l.length < 1000000000) (hK : NatK M K (valN l)) : CallS Tryd.prog 89 [.ext u] [] M [] K := by
  refine CallS.frzF ?_
  refine inlS (cs := []) Tryd.mixed Tryd.func89 rfl (by kernel_rfl) 0 rfl rfl ?_
  simp only [Tryd.f89]
  (replace hb0 := true_and True); refine Go1.mk ?_; repeat' ((first | (with_reducible refine Go1.go ?_) | ((with_reducible first | refine brv_mk ?_ ?_ | refine gsplitD ?_ ?_ | refine gsplitG ?_ ?_) <;> intro h <;> (try simp only [Bool.not_eq_true', Bool.not_eq_false'] at h) <;> replace hb0 := h) | (refine And.intro ?ob ?_; case ob => ((try simp only [sxO, ne_eq, maxLen] at *); omega)) | fail) <;> (try simp (config := { maxSteps := 1000000 }) only [hb0, cE_ment, hasK_nil, cE_kill, cE_len, u32_one, u32_app1, u32_set, Nat.mul_one, hu.one, hu.len, hu.sl, ↓hold_pre, awayP, runOps, regK, step1, newK, genR, appR, obl, buildR, Value.cells, closeK, keepH, outV, retK, ret1, retC, RetV, Option.getD, runD, stepD, afterK, undef, simprocAttr, sxB, ↓sxD, sxE, sxTab]))
  refine ⟨fun d z => ∃ j, j = d ∧ j ≤ l.length ∧ (∀ i (h : i < l.length), j ≤ i → l[i] = 0) ∧ z = rtSt M u j, ⟨l.length, rtSt M u l.length, le_sub ⟨rfl, rfl, trivial⟩ trivial rfl rfl rfl (keepLt0 _), ⟨_, rfl, Nat.le_refl _, fun i h hi => by omega, rfl⟩⟩, ?_⟩
  rintro d z ⟨j, rfl, hj, hz, rfl⟩
  have hsub := hu.sub (Nat.zero_le j) hj
  rw [List.drop_zero, Nat.sub_zero] at hsub
  have hslen := hsub.len
  rw [List.length_take, Nat.min_eq_left hj] at hslen
  have hrow := hsub.row
  have hcap := hu.cap
  have d6 : (j : Int) ≤ (scap u : Int) := by omega
  have d7 : (0 : Int) ≤ (j : Int) := by omega
  have hmp : List.map AV.ext (List.map u32V (l.take j)) = cE u32V (l.take j) := rfl
  have key : (∀ h : 0 < j, l[j - 1] ≠ 0) → FrzF K [] (.slo 21 0 j 1) [(21, 70, cE u32V (l.take j))] M := fun h => by
    have e := take_canon ho hj hz h
    rw [e]
    exact NatK.frz hK (by rw [← e, List.length_take]; omega)
  by_cases hlt : 0 < j
  case neg =>
    obtain rfl : j = 0 := by omega
    have d1 : decide ((0 : Int) < ((0 : Nat) : Int)) = false := by decide
    (replace hb0 := true_and True); refine Go1.mk ?_; repeat' ((first | (with_reducible refine Go1.go ?_) | ((with_reducible first | refine brv_mk ?_ ?_ | refine gsplitD ?_ ?_ | refine gsplitG ?_ ?_) <;> intro h <;> (try simp only [Bool.not_eq_true', Bool.not_eq_false'] at h) <;> replace hb0 := h) | (refine And.intro ?ob ?_; case ob => ((try simp only [sxO, ne_eq, maxLen] at *); omega)) | fail) <;> (try simp (config := { maxSteps := 1000000 }) only [hb0, cE_ment, hasK_nil, cE_kill, cE_len, u32_one, u32_app1, u32_set, Nat.mul_one, rtSt, hu.one, hu.len, hu.sl, d1, d6, d7, hsub.sl, hslen, hrow, hmp, ↓hold_pre, awayP, runOps, regK, step1, newK, genR, appR, obl, buildR, Value.cells, closeK, keepH, outV, retK, ret1, retC, RetV, Option.getD, runD, stepD, afterK, undef, simprocAttr, sxB, ↓sxD, sxE, sxTab]))
    exact key (fun h => by omega)
  have d1 : decide ((0 : Int) < (j : Int)) = true := by simp; omega
  have w1 := pred_i hlt (by omega)
  have hi : j - 1 < l.length := by omega
  have hxi := hu.idx (P := Tryd.prog) (T := 70) tk70 tz70 (by omega) hi
  by_cases h0 : l[j - 1] = 0
  · have d4 : decide ((l[j - 1] : Int) = 0) = true := by simp; omega
    (replace hb0 := true_and True); refine Go1.mk ?_; repeat' ((first | (with_reducible refine Go1.go ?_) | ((with_reducible first | refine brv_mk ?_ ?_ | refine gsplitD ?_ ?_ | refine gsplitG ?_ ?_) <;> intro h <;> (try simp only [Bool.not_eq_true', Bool.not_eq_false'] at h) <;> replace hb0 := h) | (refine And.intro ?ob ?_; case ob => ((try simp only [sxO, ne_eq, maxLen] at *); omega)) | fail) <;> (try simp (config := { maxSteps := 1000000 }) only [hb0, cE_ment, hasK_nil, cE_kill, cE_len, u32_one, u32_app1, u32_set, Nat.mul_one, u32V, rtSt, hu.one, hu.len, hu.sl, d1, w1, hxi, d4, ↓hold_pre, awayP, runOps, regK, step1, newK, genR, appR, obl, buildR, Value.cells, closeK, keepH, outV, retK, ret1, retC, RetV, Option.getD, runD, stepD, afterK, undef, simprocAttr, sxB, ↓sxD, sxE, sxTab]))
    exact ⟨j - 1, _, by omega, le_sub (z := rtSt M u (j - 1)) ⟨rfl, rfl, trivial⟩ trivial rfl rfl rfl (keepLt0 _), j - 1, rfl, by omega, fun i h hi => by
      rcases Nat.lt_or_ge i j with h1 | h1
      · obtain rfl : i = j - 1 := by omega
        exact h0
      · exact hz i h h1, rfl⟩
  · have d4 : decide ((l[j - 1] : Int) = 0) = false := by simp; omega
    (replace hb0 := true_and True); refine Go1.mk ?_; repeat' ((first | (with_reducible refine Go1.go ?_) | ((with_reducible first | refine brv_mk ?_ ?_ | refine gsplitD ?_ ?_ | refine gsplitG ?_ ?_) <;> intro h <;> (try simp only [Bool.not_eq_true', Bool.not_eq_false'] at h) <;> replace hb0 := h) | (refine And.intro ?ob ?_; case ob => ((try simp only [sxO, ne_eq, maxLen] at *); omega)) | fail) <;> (try simp (config := { maxSteps := 1000000 }) only [hb0, cE_ment, hasK_nil, cE_kill, cE_len, u32_one, u32_app1, u32_set, Nat.mul_one, u32V, rtSt, hu.one, hu.len, hu.sl, d1, w1, hxi, d4, d6, d7, hsub.sl, hslen, hrow, hmp, ↓hold_pre, awayP, runOps, regK, step1, newK, genR, appR, obl, buildR, Value.cells, closeK, keepH, outV, retK, ret1, retC, RetV, Option.getD, runD, stepD, afterK, undef, simprocAttr, sxB, ↓sxD, sxE, sxTab]))
    exact key (fun h => h0)
theorem rtrim_bor (k n : Nat) (T : TypeId) (l : List Nat) (hn : n = l.length) (ho : okN l) (hb : l.length < 1000000000) (hK : ∀ w M', Mem.le M M' → IsL M' u32V w (ofN (valN l)) → FreshS M w → K (.ext w) [(k, T, cE u32V l)] M') :
    CallS Tryd.prog 89 [.slo k 0 n 1] [(k, T, cE u32V l)] M [] K := by
  refine CallS.bor ⟨⟨_, rfl⟩, trivial⟩ fun us M' hM hb' => ?_
  obtain ⟨v1, _, rfl, h1, rfl⟩ := hb'
  have g1 := h1.isL (g := u32V) (L := l) (T := T) (by simp [lkH]) hn
  refine rtrim_ok v1 l g1 ho hb fun w M2 h2 h3 h4 => ?_
  exact ⟨fun j hj => rfl, fun M3 h5 h6 _ => hK w M3 h5 (h3.move h4 h6) (h4.le hM)⟩
theorem rof_ok (n : Nat) (hn : n < 18446744073709551616) (hK : NatK M K n) : CallS Tryd.prog 55 [.ext (.int .u64 (n : Int))] [] M [] K := by
  refine inlS (cs := []) Tryd.mixed Tryd.func55 rfl (by kernel_rfl) 0 rfl rfl ?_
  simp only [Tryd.f55]
  have w1 := wrap32 n
  have w2 := shr32 n
  have w3 : IntKind.u32.wrap ((n / 4294967296 : Nat) : Int) = ((n / 4294967296 : Nat) : Int) := wrap32_id (by omega)
  have c1 : [AV.ext (.int .u32 ((n % 4294967296 : Nat) : Int)), AV.ext (.int .u32 ((n / 4294967296 : Nat) : Int))] = cE u32V [n % 4294967296, n / 4294967296] := rfl
  have ho : okN [n % 4294967296, n / 4294967296] := okN_cons.2 ⟨by omega, okN_one (by omega)⟩
  have hv := val2 n
  (replace hb0 := true_and True); refine Go1.mk ?_; repeat' ((first | (with_reducible refine Go1.go ?_) | ((with_reducible first | refine brv_mk ?_ ?_ | refine gsplitD ?_ ?_ | refine gsplitG ?_ ?_) <;> intro h <;> (try simp only [Bool.not_eq_true', Bool.not_eq_false'] at h) <;> replace hb0 := h) | ((with_reducible refine isCall (f := 89) ?_); refine callA ?_) | ((with_reducible refine isCall0 (f := 89) ?_); refine callA0 ?_) | ((with_reducible refine isCallS (f := 89) ?_); refine (rtrim_bor 8 2 _ [n % 4294967296, n / 4294967296] rfl ho (by simp) (fun w M' h1 h2 h3 => Stop.mk ?_))) | (refine And.intro ?ob ?_; case ob => ((try simp only [sxO, ne_eq, maxLen] at *); omega)) | fail) <;> (try simp (config := { maxSteps := 1000000 }) only [hb0, cE_ment, hasK_nil, cE_kill, cE_len, u32_one, u32_app1, u32_set, Nat.mul_one, w1, w2, w3, c1, ↓hold_pre, awayP, runOps, regK, step1, newK, genR, appR, obl, buildR, Value.cells, closeK, keepH, outV, retK, ret1, retC, RetV, Option.getD, runD, stepD, afterK, undef, simprocAttr, sxB, ↓sxD, sxE, sxTab]))
  rw [hv] at h2
  refine Stop.go ?_
  (replace hb0 := true_and True); refine Go1.mk ?_; repeat' ((first | (with_reducible refine Go1.go ?_) | ((with_reducible first | refine brv_mk ?_ ?_ | refine gsplitD ?_ ?_ | refine gsplitG ?_ ?_) <;> intro h <;> (try simp only [Bool.not_eq_true', Bool.not_eq_false'] at h) <;> replace hb0 := h) | (refine And.intro ?ob ?_; case ob => ((try simp only [sxO, ne_eq, maxLen] at *); omega)) | fail) <;> (try simp (config := { maxSteps := 1000000 }) only [hb0, cE_ment, hasK_nil, cE_kill, cE_len, u32_one, u32_app1, u32_set, Nat.mul_one, h2.one, ↓hold_pre, awayP, runOps, regK, step1, newK, genR, appR, obl, buildR, Value.cells, closeK, keepH, outV, retK, ret1, retC, RetV, Option.getD, runD, stepD, afterK, undef, simprocAttr, sxB, ↓sxD, sxE, sxTab]))
  exact hK _ _ h1 h2 h3
variable {u v : Value} {l1 l2 : List Nat}
end
end Go.Proofs.YtamghpnjdohnjaaDoor.Sx
set_option linter.unusedVariables false
namespace Go.Proofs.YtamghpnjdohnjaaDoor.Sx
def dgV (b : UInt8) : Nat := b.toNat - 48
def isDg (b : UInt8) : Prop := 48 ≤ b.toNat ∧ b.toNat ≤ 57
def dgB (n : Nat) : UInt8 := UInt8.ofNat (48 + n)
theorem dgB_nat {n : Nat} (h : n < 10) : (dgB n).toNat = 48 + n := by
  unfold dgB
  simp; omega
theorem dgB_is {n : Nat} (h : n < 10) : isDg (dgB n) := by
  unfold isDg
  rw [dgB_nat h]; omega
theorem dgV_dgB {n : Nat} (h : n < 10) : dgV (dgB n) = n := by unfold dgV; rw [dgB_nat h]; omega
theorem dgB_dgV {b : UInt8} (h : isDg b) : dgB (dgV b) = b := by
  apply UInt8.toNat_inj.1
  have h1 := h.1
  have h2 := h.2
  rw [dgB_nat (by unfold dgV; omega)]
  unfold dgV; omega
def numB (l : List UInt8) : Nat := l.foldl (fun a b => 10 * a + dgV b) 0
theorem numB_snoc (l : List UInt8) (b : UInt8) : numB (l ++ [b]) = 10 * numB l + dgV b := by simp [numB]
theorem numB_fold (l : List UInt8) : ∀ a, l.foldl (fun a b => 10 * a + dgV b) a = a * 10 ^ l.length + numB l := by
  induction l with
  | nil => intro a; simp [numB]
  | cons b r ih =>
    intro a
    unfold numB
    rw [List.foldl_cons, List.foldl_cons, ih, ih, List.length_cons, Nat.pow_succ]
    grind
theorem numB_app (a b : List UInt8) : numB (a ++ b) = numB a * 10 ^ b.length + numB b := by
  conv => lhs; unfold numB
  rw [List.foldl_append, numB_fold]; rfl
def dec (n : Nat) : List UInt8 := if h : n = 0 then [] else dec (n / 10) ++ [dgB (n % 10)]
termination_by n
decreasing_by exact Nat.div_lt_self (by omega) (by decide)
theorem dec_zero : dec 0 = [] := by rw [dec]; simp
theorem dec_pos {n : Nat} (h : n ≠ 0) : dec n = dec (n / 10) ++ [dgB (n % 10)] := by rw [dec]; simp [h]
def decB (n : Nat) : List UInt8 := if n = 0 then [48] else dec n
theorem numB_dec (n : Nat) : numB (dec n) = n := by
  induction n using Nat.strongRecOn with
  | _ n ih =>
    by_cases h : n = 0
    · subst h; rw [dec_zero]; rfl
    · rw [dec_pos h, numB_snoc, ih _ (Nat.div_lt_self (by omega) (by decide)), dgV_dgB (by omega)]; omega
theorem list_snoc {α : Type} (l : List α) : l = [] ∨ ∃ r x, l = r ++ [x] := by
  rcases List.eq_nil_or_concat l with h | ⟨r, x, h⟩
  · exact .inl h
  · exact .inr ⟨r, x, by simpa using h⟩
theorem dec_of : ∀ (n : Nat) (l : List UInt8), l.length = n → (∀ b ∈ l, isDg b) → (∀ b, l.head? = some b → b ≠ 48) → l = dec (numB l)
  | 0, l, hl, _, _ => by
    have : l = [] := List.length_eq_zero_iff.1 hl
    subst this
    rw [show numB [] = 0 from rfl, dec_zero]
  | n + 1, l, hl, hd, hh => by
    rcases list_snoc l with rfl | ⟨r, x, rfl⟩
    · simp at hl
    · have hr : r.length = n := by simpa using hl
      have hx : isDg x := hd x (by simp)
      have ih := dec_of n r hr (fun b hb => hd b (by simp [hb])) (fun b hb => by
        refine hh b ?_
        cases r with
        | nil => cases hb
        | cons c r => simpa using hb)
      have hv : dgV x < 10 := by have := hx.2; unfold dgV; omega
      have hne : numB (r ++ [x]) ≠ 0 := by
        rw [numB_snoc]
        intro e
        have e1 : numB r = 0 := by omega
        have e2 : dgV x = 0 := by omega
        rw [e1, dec_zero] at ih
        subst ih
        refine hh x rfl ?_
        rw [← dgB_dgV hx, e2]; rfl
      rw [dec_pos hne, numB_snoc]
      have e1 : (10 * numB r + dgV x) / 10 = numB r := by omega
      have e2 : (10 * numB r + dgV x) % 10 = dgV x := by omega
      rw [e1, e2, ← ih, dgB_dgV hx]
theorem drop_zeros (l : List UInt8) : numB (l.dropWhile (· == 48)) = numB l := by
  induction l with
  | nil => rfl
  | cons b r ih =>
    by_cases h : b = 48
    · subst h
      rw [show List.dropWhile (· == 48) ((48 : UInt8) :: r) = r.dropWhile (· == 48) by simp, ih]
      have := numB_app [48] r
      rw [show [(48 : UInt8)] ++ r = 48 :: r from rfl] at this
      rw [this, show numB [48] = 0 from rfl]; omega
    · rw [show List.dropWhile (· == 48) (b :: r) = b :: r by simp [h]]
theorem drop_head (l : List UInt8) : ∀ b, (l.dropWhile (· == 48)).head? = some b → b ≠ 48 := fun b hb => by
  have := List.head?_dropWhile_not (· == (48 : UInt8)) l
  rw [hb] at this
  simpa using this
theorem drop_dec {l : List UInt8} (h : ∀ b ∈ l, isDg b) : l.dropWhile (· == 48) = dec (numB l) := by
  have := dec_of _ (l.dropWhile (· == 48)) rfl (fun b hb => h b ((List.dropWhile_suffix _).mem hb)) (drop_head l)
  rw [drop_zeros] at this
  exact this
def pad : Nat → Nat → List UInt8
  | 0, _ => []
  | k + 1, x => dgB (x / 10 ^ k % 10) :: pad k x
theorem pad_is : ∀ (k x : Nat), ∀ b ∈ pad k x, isDg b
  | 0, x, b, hb => by cases hb
  | k + 1, x, b, hb => by
    rcases List.mem_cons.1 hb with rfl | h
    · exact dgB_is (Nat.mod_lt _ (by decide))
    · exact pad_is k x b h
theorem pad_len : ∀ (k x : Nat), (pad k x).length = k
  | 0, x => rfl
  | k + 1, x => by rw [pad, List.length_cons, pad_len k x]
theorem pad_val : ∀ (k x : Nat), numB (pad k x) = x % 10 ^ k
  | 0, x => by simp [pad, numB, Nat.mod_one]
  | k + 1, x => by
    have h := numB_app [dgB (x / 10 ^ k % 10)] (pad k x)
    rw [show [dgB (x / 10 ^ k % 10)] ++ pad k x = pad (k + 1) x from rfl] at h
    rw [h, pad_val k x, pad_len]
    have h5 : numB [dgB (x / 10 ^ k % 10)] = x / 10 ^ k % 10 := by
      have := numB_snoc [] (dgB (x / 10 ^ k % 10))
      rw [List.nil_append, dgV_dgB (Nat.mod_lt _ (by decide))] at this
      simpa [numB] using this
    rw [h5, Nat.pow_succ, Nat.mod_mul, Nat.mul_comm]; omega
def valG : List Nat → Nat
  | [] => 0
  | x :: r => x + 1000000000 * valG r
def joinG : List Nat → List UInt8
  | [] => []
  | x :: r => joinG r ++ pad 9 x
theorem joinG_is : ∀ (l : List Nat), ∀ b ∈ joinG l, isDg b
  | [], b, hb => by cases hb
  | x :: r, b, hb => by
    rcases List.mem_append.1 hb with h | h
    · exact joinG_is r b h
    · exact pad_is 9 x b h
theorem joinG_val : ∀ (l : List Nat), (∀ x ∈ l, x < 1000000000) → numB (joinG l) = valG l
  | [], _ => rfl
  | x :: r, h => by
    have hx := h x List.mem_cons_self
    rw [joinG, numB_app, joinG_val r fun y hy => h y (List.mem_cons_of_mem _ hy), pad_val, pad_len, valG, Nat.mod_eq_of_lt (by exact hx)]
    omega
theorem joinG_len : ∀ (l : List Nat), (joinG l).length = 9 * l.length
  | [] => rfl
  | x :: r => by rw [joinG, List.length_append, joinG_len r, pad_len, List.length_cons]; omega
theorem valG_app (a b : List Nat) : valG (a ++ b) = valG a + 1000000000 ^ a.length * valG b := by
  induction a with
  | nil => simp [valG]
  | cons x r ih => rw [List.cons_append, valG, valG, ih, List.length_cons, Nat.pow_succ]; grind
theorem joinG_drop {l : List Nat} {i : Nat} (h : i < l.length) : joinG (l.drop i) = joinG (l.drop (i + 1)) ++ pad 9 l[i] := by
  rw [List.drop_eq_getElem_cons h, joinG]
end Go.Proofs.YtamghpnjdohnjaaDoor.Sx
namespace Go.Proofs.YtamghpnjdohnjaaDoor.Sx
open Go Go.RowKit
set_option linter.unusedVariables false
set_option maxRecDepth 1000000
set_option maxHeartbeats 4000000
theorem bldSize : (Tryd.prog.info? 91).map (·.size) = some 2 := by kernel_rfl
theorem bldCells : Tryd.prog.cellsOf 91 = 2 := by kernel_rfl
theorem bldDepth : ∃ d, Tryd.prog.depth = d + 1 := ⟨Tryd.prog.depth - 1, by have : 0 < Tryd.prog.depth := of_decide_eq_true (by kernel_rfl); omega⟩
theorem bldLies {m : Nat} (h : 2 ≤ m) : Go.liesAt Tryd.prog Tryd.prog.depth 91 (m / Tryd.prog.cellsOf 91) 0 91 1 = true := by
  obtain ⟨d, hd⟩ := bldDepth
  rw [bldCells, hd]
  have h1 : decide (1 ≤ m / 2) = true := by simp; omega
  simp [liesAt, rowAt, hd, bldCells, sameLayout, h1]
theorem byteCellsOf : Tryd.prog.cellsOf 5 = 1 := by kernel_rfl
theorem cc_used (b : Nat) (w : World) (h0 : w.cell? ⟨b, 0, none⟩ = some (.pointer (some ⟨b, 0, none⟩))) :
    Calls Tryd.prog 109 #[.pointer (some ⟨b, 0, none⟩)] w fun e w' => e = .returned (.tuple #[]) ∧ w' = w := by
  obtain ⟨j, hj, _⟩ := Option.map_eq_some_iff.1 bldSize
  go_enter Tryd.func109, Tryd.ntmps109
  go_wp2
  rw [Lib.run_neq_ptr_same w _ Tryd.underlying88 hj]
  go_wp2
  go_end0
  exact ⟨rfl, rfl⟩
theorem cc_fresh (b : Nat) (w : World) (h0 : w.cell? ⟨b, 0, none⟩ = some (.pointer none)) {m : Nat} (hm : 2 ≤ m) (hsh : w.shape? b = some (91, m)) (hfz : w.frozen? ⟨b, 0, none⟩ = false) :
    Calls Tryd.prog 109 #[.pointer (some ⟨b, 0, none⟩)] w fun e w' => e = .returned (.tuple #[]) ∧ w' = w.setCell ⟨b, 0, none⟩ (.pointer (some ⟨b, 0, none⟩)) := by
  obtain ⟨j, hj, hjs⟩ := Option.map_eq_some_iff.1 bldSize
  go_enter Tryd.func109, Tryd.ntmps109
  go_wp2
  rw [Lib.run_to_unsafe w ⟨b, 0, none⟩ Tryd.underlying88 Tryd.underlying134 hj (by rw [hjs]; decide) hsh (Nat.lt_of_lt_of_le Nat.zero_lt_two hm)]
  simp only [Result.andThen]
  rw [Oper.upon_value]
  go_wp2
  rw [run_callFunc_extern Tryd.func122 (by kernel_rfl) (by kernel_rfl) (by kernel_rfl) (e := Extern.AbiNoEscape.same) (by kernel_rfl)]
  rw [Lib.run_noEscape]
  simp only [Result.andThen]
  rw [Oper.upon_value]
  go_wp2
  rw [Lib.run_from_unsafe w ⟨b, 0, none⟩ Tryd.underlying134 Tryd.underlying88 hj hsh (bldLies hm)]
  simp only [Result.andThen]
  rw [Oper.upon_value]
  go_wp2
  go_end0
  exact ⟨rfl, rfl⟩
theorem str_row (b g cap : Nat) (cur : Array Value) (l : List UInt8) (w : World) (h0 : l ≠ []) {bk : Array Value} (hbk : w.heap[b]? = some (.cells bk 91 (0, 0))) (hb1 : bk[1]? = some (.slice (some ⟨g, 0, none⟩) l.length cap))
    (hg : w.heap[g]? = some (.cells cur 5 (0, 0))) (hcap : l.length ≤ cap) (hcur : l.length ≤ cur.size) (hlen : l.length < 4611686018427387904) (hrow : ∀ (j : Nat) x, l[j]? = some x → cur[j]? = some (.int .u8 x.toNat)) :
    Calls Tryd.prog 83 #[.pointer (some ⟨b, 0, none⟩)] w fun e w' => e = .returned (.string ⟨l.toArray⟩) ∧ w' = w.drew.freeze ⟨g, 0, none⟩ l.length := by
  have hl0 : l.length ≠ 0 := by simpa using h0
  have c1 : w.drew.cell? ⟨b, 1, none⟩ = some (.slice (some ⟨g, 0, none⟩) l.length cap) := by
    have : w.drew.heap[b]? = some (.cells bk 91 (0, 0)) := hbk
    rw [Lib.cell_of_heap this]; exact hb1
  have hSD : (Builtin.unsafeSliceData_ #[89] 122 #[.slice (some ⟨g, 0, none⟩) l.length cap]).run Tryd.prog w.drew = .ok (.pointer (some ⟨g, 0, none⟩)) w.drew :=
    Lib.run_unsafeSliceData_row _ _ _ _ _ _ (by omega)
  have hUS : (Builtin.unsafeString_ #[122, 3] 9 #[.pointer (some ⟨g, 0, none⟩), .int .i64 l.length]).run Tryd.prog w.drew = .ok (.string ⟨l.toArray⟩) (w.drew.freeze ⟨g, 0, none⟩ l.length) := by
    refine Lib.run_unsafeString_row w.drew 122 3 9 5 Tryd.underlying122 byteCellsOf g cur.size (by have hg' : w.drew.heap[g]? = some (.cells cur 5 (0, 0)) := hg; simp [World.shape?, hg']) l h0 (by omega) (by omega) ?_
    intro j x hx
    have hg' : w.drew.heap[g]? = some (.cells cur 5 (0, 0)) := hg
    have e : w.drew.cell? ⟨g, j, none⟩ = some (.int .u8 x.toNat) := by rw [Lib.cell_of_heap hg']; exact hrow j x hx
    have ea : (⟨g, 0, none⟩ : Addr).add j = ⟨g, j, none⟩ := by
      simp only [Addr.add]
      split
      · rename_i h; rw [h]
      · simp
    rw [ea]; exact e
  have mixed := Tryd.mixed
  go_enter Tryd.func83, Tryd.ntmps83
  go_wp2
  go_region_o
  all_goals (go_wp2; go_ret; exact ⟨rfl, rfl⟩)
theorem str_none (b : Nat) (w : World) {bk : Array Value} (hbk : w.heap[b]? = some (.cells bk 91 (0, 0))) (hb1 : bk[1]? = some (.slice none 0 0)) :
    Calls Tryd.prog 83 #[.pointer (some ⟨b, 0, none⟩)] w fun e w' => e = .returned (.string ⟨#[]⟩) ∧ w' = w.drew := by
  have hUS : (Builtin.unsafeString_ #[122, 3] 9 #[.pointer none, .int .i64 0]).run Tryd.prog w.drew = .ok (.string .empty) w.drew := Lib.run_unsafeString_none w.drew _ _ _ none
  have c1 : w.drew.cell? ⟨b, 1, none⟩ = some (.slice none 0 0) := by
    have : w.drew.heap[b]? = some (.cells bk 91 (0, 0)) := hbk
    rw [Lib.cell_of_heap this]; exact hb1
  have hSD : (Builtin.unsafeSliceData_ #[89] 122 #[.slice none 0 0]).run Tryd.prog w.drew = .ok (.pointer none) w.drew := rfl
  have mixed := Tryd.mixed
  go_enter Tryd.func83, Tryd.ntmps83
  go_wp2
  go_region_o
  all_goals (go_wp2; go_ret; exact ⟨rfl, rfl⟩)
set_option linter.unusedVariables false
set_option linter.unusedSimpArgs false
set_option maxRecDepth 100000
set_option maxHeartbeats 8000000
attribute [local congr] fin_congr finG_congr stepG_congr step1_congr runOps_congr brv_congr obl_congr condK_congr LoopK_congr seqK_congr CutK_congr vc_congr DrawK_congr regK_congr CallK_congr AskK_congr newK_congr retC_congr ret1_congr retK_congr outV_congr closeK_congr genR_congr appR_congr finD_congr finGD_congr stepGD_congr stepD_congr CallK0_congr runD_congr okR_congr CallS_congr vcX_congr
theorem isL_one {ρ : Rho} {v : AV} {us : List Value} (h : isL ρ [v] us) : ∃ u, us = [u] ∧ v.is ρ u := by
  obtain ⟨u, r, rfl, h1, rfl⟩ := h
  exact ⟨u, rfl, h1⟩
theorem HeapIs.cell {ρ : Rho} {k : Nat} {T : TypeId} {cs : List AV} {H : Hp} {M : Mem} {w : World} {b : Blk} {off : Nat} {v : AV} {u : Value} (h : HeapIs ρ ((k, T, cs) :: H) M w) (hk : lkH H k = none) (hb : ρ k = some b) (ho : off < cs.length) (hv : v.is ρ u) :
    HeapIs ρ ((k, T, cs.set off v) :: H) M (w.setCell ⟨b.b, off, none⟩ u) ∧ Same b.b w (w.setCell ⟨b.b, off, none⟩ u) := by
  have hs := same_setCell b.b off w u
  refine ⟨⟨?_, ?_, ?_, ?_⟩, hs⟩
  · intro k' T' cs' b' hk' hb'
    by_cases e : k = k'
    · subst e
      simp only [lkH, if_true, Option.some.injEq, Prod.mk.injEq] at hk'
      obtain ⟨rfl, rfl⟩ := hk'
      rw [hb] at hb'
      obtain rfl := Option.some.inj hb'
      obtain ⟨⟨arr, r⟩, h2⟩ := h.hp k T cs b (by simp [lkH]) hb
      have ht := heap_setCell (b := b.b) (o := off) w u r.there
      refine ⟨⟨arr.setIfInBounds off u, ht, by simp [r.size], by simp; exact r.le, fun i x hi => ?_⟩, h2⟩
      have hlt : off < arr.size := by have := r.le; rw [r.size]; omega
      rw [List.getElem?_set] at hi
      split at hi
      · rename_i e
        subst e
        obtain rfl := Option.some.inj hi
        have : (arr.setIfInBounds off u).getD off undef = u := by simp [Array.getD_eq_getD_getElem?, hlt]
        rw [this]; exact hv
      · rename_i e
        have : (arr.setIfInBounds off u).getD i undef = arr.getD i undef := by simp [Array.getD_eq_getD_getElem?, Array.getElem?_setIfInBounds, e]
        rw [this]; exact r.is i x hi
    · have hk2 : lkH ((k, T, cs) :: H) k' = some (T', cs') := by
        simp only [lkH, if_neg e] at hk' ⊢; exact hk'
      obtain ⟨⟨arr, r⟩, h2⟩ := h.hp k' T' cs' b' hk2 hb'
      have hne : b'.b ≠ b.b := fun e2 => e (h.inj k k' b b' (by simp [lkH]) (by rw [hk2]; rfl) hb hb' e2.symm)
      exact ⟨⟨arr, r.same hs hne⟩, h2⟩
  · intro k' T' cs' hk' hn
    by_cases e : k = k'
    · subst e; rw [hb] at hn; cases hn
    · exact h.no k' T' cs' (by simp only [lkH, if_neg e] at hk' ⊢; exact hk') hn
  · intro k1 k2 b1 b2 h1 h2 h3 h4 h5
    have key : ∀ j, (lkH ((k, T, cs.set off v) :: H) j).isSome = true → (lkH ((k, T, cs) :: H) j).isSome = true := fun j hj => by
      by_cases e : k = j
      · simp [lkH, e]
      · simp only [lkH, if_neg e] at hj ⊢; exact hj
    exact h.inj k1 k2 b1 b2 (key _ h1) (key _ h2) h3 h4 h5
  · intro x o hx
    have h2 := (h.hp k T cs b (by simp [lkH]) hb).2
    rw [hs.block x (fun e => by rw [e, h2] at hx; cases hx)]
    exact h.sub x o hx
section
variable {M : Mem} {K : AV → Hp → Mem → Prop}
theorem copyCheck_ok (k : Nat) (p c : AV) (H : Hp) (hH : lkH H k = none) (hin : inB (keysH ((k, 91, [p, c]) :: H)) (c.ment ++ mentH H) = true) (hp : p = .ext (.pointer none) ∨ p = .own k 0) (hK : K (.ext (.tuple #[])) ((k, 91, [.own k 0, c]) :: H) M) :
    CallS Tryd.prog 109 [.own k 0] ((k, 91, [p, c]) :: H) M [] K := fun ρ w us hw hus => by
  obtain ⟨u, rfl, b, hb, rfl⟩ := isL_one hus
  obtain ⟨⟨arr, r⟩, hM⟩ := hw.hp k 91 [p, c] b (by simp [lkH]) hb
  have hsz : 2 ≤ arr.size := by have := r.le; rw [r.size]; exact this
  have hn2 : 2 ≤ b.n := r.le
  have hc0 : w.cell? ⟨b.b, 0, none⟩ = some (arr.getD 0 undef) := r.cell (by omega)
  have hi := r.is 0 p rfl
  have keys : ∀ j, (lkH ((k, 91, [p, c]) :: H) j).isSome = (lkH ((k, 91, [.own k 0, c]) :: H) j).isSome := fun j => by
    by_cases e : k = j
    · simp [lkH, e]
    · simp [lkH, e]
  have fin : ∀ w', HeapIs ρ ((k, 91, [.own k 0, c]) :: H) M w' → Same b.b w w' → ∃ u v H' M' ρ', Ending.returned (.tuple #[]) = Ending.returned u ∧ K v H' M' ∧ Left [] ((k, 91, [p, c]) :: H) M ρ ρ' w u v H' M' w' := fun w' h1 hs =>
    ⟨_, _, _, _, ρ, rfl, hK, ⟨rfl, h1, fun j hj => by rw [← keys]; exact hj, fun _ _ _ => rfl, fun j hj => ⟨by simp [AV.ment], fun i T cs hi hm => by
      have hall : ∀ x ∈ c.ment ++ mentH H, (lkH ((k, 91, [p, c]) :: H) x).isSome = true := fun x hx => (keysH_some _ _).1 (inB_mem hin x hx)
      have hjn : ¬ (lkH ((k, 91, [p, c]) :: H) j).isSome = true := fun e => by rw [keys, hj] at e; cases e
      have hkj : k ≠ j := fun e => hjn (by simp [lkH, e])
      by_cases e : k = i
      · subst e
        simp only [lkH, if_true, Option.some.injEq, Prod.mk.injEq] at hi
        obtain ⟨_, rfl⟩ := hi
        simp only [mentL, AV.ment, List.mem_append, List.mem_cons, List.not_mem_nil, or_false, List.append_nil] at hm
        rcases hm with hm | hm
        · exact hkj hm.symm
        · exact hjn (hall j (by simp [hm]))
      · simp only [lkH, if_neg e] at hi
        exact hjn (hall j (List.mem_append.2 (.inr (mentH_lk hi (.inr hm)))))⟩, fun j x hj hx => .inr ⟨j, x, by rw [keys]; exact hj, hx, rfl⟩, hs.os, hs.tape, hs.output, by rw [hs.size]; exact Nat.le_refl _, fun x hx hne => hs.block x (fun e => hne k b (by simp [lkH]) hb e.symm), Mem.le.refl _, fun x hx => .inl hx⟩⟩
  rcases hp with rfl | rfl
  · have hi : arr.getD 0 undef = .pointer none := hi
    rw [hi] at hc0
    refine (cc_fresh b.b w hc0 (m := arr.size) hsz (by simp [World.shape?, r.there]) (by simp [World.frozen?, r.there])).mono fun e w' ⟨h1, h2⟩ => ?_
    subst h1 h2
    obtain ⟨g1, g2⟩ := hw.cell (off := 0) (v := .own k 0) (u := ptr b.b 0) hH hb (by simp) ⟨b, hb, rfl⟩
    exact fin _ g1 g2
  · obtain ⟨b2, hb2, hi⟩ := hi
    rw [hb] at hb2
    obtain rfl := Option.some.inj hb2
    rw [hi] at hc0
    refine (cc_used b.b w hc0).mono fun e w' ⟨h1, h2⟩ => ?_
    subst h1 h2
    exact fin _ hw (Same.refl _ _)
theorem CallS.order {P : Program} {f : FuncId} {args : List AV} {H H2 : Hp} {mv : List Nat} (e : ∀ k, lkH H k = lkH H2 k) (h : CallS P f args H M mv fun v H' M' => ∃ H3, (∀ k, lkH H' k = lkH H3 k) ∧ K v H3 M') : CallS P f args H2 M mv K := fun ρ w us hw hus =>
  (h ρ w us (hw.eqv fun k => (e k).symm) hus).mono fun r w' ⟨u, v, H', M', ρ', h1, ⟨H3, e3, h2⟩, h3⟩ => ⟨u, v, H3, M', ρ', h1, h2,
    ⟨h3.is, h3.heap.eqv e3, fun k hk => by rw [← e3]; exact h3.keep k (by rw [e]; exact hk), fun k hk => h3.same k (by rw [e, e3]; exact hk), fun k hk => ⟨(h3.ment k (by rw [e3]; exact hk)).1, fun j T cs hj => (h3.ment k (by rw [e3]; exact hk)).2 j T cs ((e3 j).trans hj)⟩,
      fun k b hk hb => by
        rcases h3.fresh k b (by rw [e3]; exact hk) hb with h | ⟨j, x, hj, h⟩
        · exact .inl h
        · exact .inr ⟨j, x, by rw [← e]; exact hj, h⟩, h3.os, h3.tape, h3.output, h3.size, fun b hb hne => h3.block b hb fun k x hk => hne k x (by rw [← e]; exact hk), h3.le, h3.mem⟩⟩
def u8V (b : UInt8) : Value := .int .u8 (b.toNat : Int)
def bldH (k kb : Nat) (p : AV) (l : List UInt8) : Hp := [(kb, 5, cE u8V l), (k, 91, [p, .slo kb 0 l.length 1])]
theorem copyCheck_b (k kb : Nat) (p : AV) (l : List UInt8) (hne : k ≠ kb) (hp : p = .ext (.pointer none) ∨ p = .own k 0) (hK : K (.ext (.tuple #[])) (bldH k kb (.own k 0) l) M) :
    CallS Tryd.prog 109 [.own k 0] (bldH k kb p l) M [] K := by
  have sw : ∀ (a b : TypeId × List AV) (j : Nat), lkH [(k, a), (kb, b)] j = lkH [(kb, b), (k, a)] j := fun a b j => by
    simp only [lkH]
    by_cases h1 : k = j
    · have h2 : ¬ kb = j := fun e => hne (h1.trans e.symm)
      simp [h1, h2]
    · by_cases h2 : kb = j <;> simp [h1, h2]
  refine CallS.order (sw (91, [p, .slo kb 0 l.length 1]) (5, cE u8V l)) (copyCheck_ok k p _ _ (by simp [lkH, hne.symm]) ?_ hp ⟨_, sw _ _, hK⟩)
  have e4 : (kb == k) = false := by simp [hne.symm]
  simp [inB, keysH, hasK, AV.ment, mentH, mentL, cE_ment, e4]
theorem u8_snoc (l : List UInt8) (c : UInt8) : cE u8V l ++ [.ext (.int .u8 (c.toNat : Int))] = cE u8V (l ++ [c]) := cE_snoc u8V l c
theorem neB {a b : Nat} (h : a ≠ b) : (a == b) = false := by simp [h]
theorem neP {a b : Nat} (h : a ≠ b) : (a = b) = False := by simp [h]
theorem wbyte_ok (k kb : Nat) (p : AV) (l : List UInt8) (c : UInt8) (x : Int) (hx : x = (c.toNat : Int)) (hne : k ≠ kb) (hl : l.length < 1000000000) (hp : p = .ext (.pointer none) ∨ p = .own k 0) (hK : K (.ext .nilIface) (bldH k kb (.own k 0) (l ++ [c])) M) :
    CallS Tryd.prog 81 [.own k 0, .ext (.int .u8 x)] (bldH k kb p l) M [kb] K := by
  subst hx
  obtain ⟨N, h1, h2⟩ : ∃ N, k < N ∧ kb < N := ⟨k + kb + 1, by omega, by omega⟩
  refine callS_ok Tryd.mixed Tryd.func81 rfl (by kernel_rfl) N [kb] [k] [] rfl (by intro j hj; simp [bldH, keysH] at hj ⊢; exact hj) (by intro j hj; simp [bldH, keysH] at hj; omega) ?_
  have e1 := neP hne
  have e2 := neP (Ne.symm hne)
  have e3 := neB hne
  have e4 := neB (Ne.symm hne)
  have g1 := neP (show k ≠ N + 13 by omega)
  have g2 := neP (show N + 13 ≠ k by omega)
  have g3 := neB (show k ≠ N + 13 by omega)
  have g4 := neB (show N + 13 ≠ k by omega)
  have g5 := neP (show kb ≠ N + 13 by omega)
  have g6 := neP (show N + 13 ≠ kb by omega)
  have g7 := neB (show kb ≠ N + 13 by omega)
  have g8 := neB (show N + 13 ≠ kb by omega)
  simp only [Tryd.f81]
  rcases hp with rfl | rfl
  all_goals (
    (replace hb0 := true_and True); refine Go1.mk ?_; repeat' ((first | (with_reducible refine Go1.go ?_) | ((with_reducible first | refine brv_mk ?_ ?_ | refine gsplitD ?_ ?_ | refine gsplitG ?_ ?_) <;> intro h <;> (try simp only [Bool.not_eq_true', Bool.not_eq_false'] at h) <;> replace hb0 := h) | ((with_reducible refine isCall (f := 109) ?_); refine callA ?_) | ((with_reducible refine isCall0 (f := 109) ?_); refine callA0 ?_) | ((with_reducible refine isCallS (f := 109) ?_); refine (copyCheck_b k kb _ l hne (by simp) ?_)) | (refine And.intro ?ob ?_; case ob => ((try simp only [sxO, ne_eq, maxLen] at *); omega)) | fail) <;> (try simp (config := { maxSteps := 1000000 }) only [hb0, bldH, e1, e2, e3, e4, g1, g2, g3, g4, g5, g6, g7, g8, cE_ment, hasK_nil, if_false, if_true, cE_len, maxLen, Nat.mul_one, ↓hold_pre, awayP, runOps, regK, step1, newK, genR, appR, obl, buildR, Value.cells, closeK, keepH, outV, retK, ret1, retC, RetV, Option.getD, runD, stepD, afterK, undef, simprocAttr, sxB, ↓sxD, sxE, sxTab]))
    rw [u8_snoc]
    simp only [bldH, List.length_append, List.length_cons, List.length_nil, Nat.zero_add] at hK
    exact hK)
theorem freeze_heap (w : World) (g n i : Nat) (h : i ≠ g) : (w.freeze ⟨g, 0, none⟩ n).heap[i]? = w.heap[i]? := by
  unfold World.freeze
  split
  · rfl
  · simp [Array.getElem?_modify, Ne.symm h]
theorem freeze_rest (w : World) (g n : Nat) : (w.freeze ⟨g, 0, none⟩ n).os = w.os ∧ (w.freeze ⟨g, 0, none⟩ n).tape = w.tape ∧ (w.freeze ⟨g, 0, none⟩ n).output = w.output ∧ (w.freeze ⟨g, 0, none⟩ n).heap.size = w.heap.size := by
  unfold World.freeze
  split
  · exact ⟨rfl, rfl, rfl, rfl⟩
  · exact ⟨rfl, rfl, rfl, by simp⟩
theorem string_ok (k kb : Nat) (p : AV) (l : List UInt8) (hne : k ≠ kb) (hp : p = .ext (.pointer none) ∨ p = .own k 0) (h0 : l ≠ []) (hl : l.length < 1000000000) (hK : K (.ext (.string (bs l))) [(kb, 5, []), (k, 91, [p, .unk])] M) :
    CallS Tryd.prog 83 [.own k 0] (bldH k kb p l) M [kb] K := fun ρ w us hw hus => by
  obtain ⟨u, rfl, b, hb, rfl⟩ := isL_one hus
  have hkk : lkH (bldH k kb p l) k = some (91, [p, .slo kb 0 l.length 1]) := by simp [bldH, lkH, hne.symm]
  have hkb : lkH (bldH k kb p l) kb = some (5, cE u8V l) := by simp [bldH, lkH]
  obtain ⟨⟨arr, r⟩, hM⟩ := hw.hp k _ _ b hkk hb
  have h1 := r.is 1 _ rfl
  rcases h1 with ⟨bb, cap, hbb, hu, hle, hcap⟩ | ⟨hz, _⟩
  · obtain ⟨⟨cur, r2⟩, hM2⟩ := hw.hp kb _ _ bb hkb hbb
    have hnb : b.b ≠ bb.b := fun e => hne (hw.inj k kb b bb (by rw [hkk]; rfl) (by rw [hkb]; rfl) hb hbb e)
    have hlen : l.length ≤ cur.size := by rw [r2.size]; have := r2.le; rw [cE_len] at this; exact this
    have hb1 : arr[1]? = some (.slice (some ⟨bb.b, 0, none⟩) l.length cap) := by
      have h2 : 1 < arr.size := by have := r.le; rw [r.size]; exact this
      have : arr.getD 1 undef = arr[1] := by simp [Array.getD_eq_getD_getElem?, h2]
      rw [this] at hu
      simp [h2, hu]
    refine (str_row b.b bb.b cap cur l w h0 r.there hb1 r2.there hle hlen (by omega) (fun j x hj => ?_)).mono fun e w' ⟨h1, h2⟩ => ?_
    · have := r2.is j (.ext (u8V x)) (by simp [cE, hj])
      have hj2 : j < cur.size := by have := (List.getElem?_eq_some_iff.1 hj).1; omega
      have e : cur.getD j undef = cur[j] := by simp [Array.getD_eq_getD_getElem?, hj2]
      rw [e] at this
      simp only [Array.getElem?_eq_getElem hj2]
      exact congrArg some this
    · subst h1 h2
      obtain ⟨f1, f2, f3, f4⟩ := freeze_rest w.drew bb.b l.length
      have f5 : ∀ i, i ≠ bb.b → (w.drew.freeze ⟨bb.b, 0, none⟩ l.length).heap[i]? = w.heap[i]? := fun i hi => freeze_heap w.drew bb.b l.length i hi
      have hpu : ∀ x, p.is ρ x → p.is (upd ρ kb none) x := fun x hx => by
        rcases hp with rfl | rfl
        · exact hx
        · obtain ⟨b2, h3, h4⟩ := hx
          exact ⟨b2, by rw [upd_ne _ _ hne]; exact h3, h4⟩
      have keys : ∀ j, (lkH (bldH k kb p l) j).isSome = (lkH [(kb, 5, []), (k, 91, [p, .unk])] j).isSome := fun j => by
        by_cases e : kb = j
        · simp [lkH, e, bldH]
        · by_cases e2 : k = j <;> simp [lkH, e, e2, bldH]
      have hk2 : ∀ {j : Nat} {T : TypeId} {cs : List AV}, lkH [(kb, 5, []), (k, 91, [p, .unk])] j = some (T, cs) → (j = kb ∧ cs = []) ∨ (j = k ∧ T = 91 ∧ cs = [p, .unk]) := fun {j T cs} h => by
        simp only [lkH] at h
        by_cases e : kb = j
        · rw [if_pos e] at h
          simp only [Option.some.injEq, Prod.mk.injEq] at h
          exact .inl ⟨e.symm, h.2.symm⟩
        · rw [if_neg e] at h
          by_cases e2 : k = j
          · rw [if_pos e2] at h
            simp only [Option.some.injEq, Prod.mk.injEq] at h
            exact .inr ⟨e2.symm, h.1.symm, h.2.symm⟩
          · rw [if_neg e2] at h; cases h
      refine ⟨_, _, _, _, upd ρ kb none, rfl, hK, ⟨rfl, ⟨?_, ?_, ?_, ?_⟩, fun j hj => by rw [← keys]; exact hj, fun j _ hj => upd_ne _ _ (by simpa using hj), fun j hj => ⟨by simp [AV.ment], fun i T cs hi hm => ?_⟩, fun j x hj hx => ?_, f1, f2, f3, by rw [f4]; exact Nat.le_refl _, fun i hi hne' => f5 i fun e => hne' kb bb (by rw [hkb]; rfl) hbb e.symm, Mem.le.refl _, fun x hx => .inl hx⟩⟩
      · intro j T cs x hj hx
        rcases hk2 hj with ⟨rfl, rfl⟩ | ⟨rfl, rfl, rfl⟩
        · rw [upd_self] at hx; cases hx
        · rw [upd_ne _ _ hne, hb] at hx
          obtain rfl := Option.some.inj hx
          refine ⟨⟨arr, ?_, r.size, r.le, fun i v hi => ?_⟩, hM⟩
          · rw [f5 _ hnb]; exact r.there
          · match i, hi with
            | 0, hi => simp at hi; subst hi; exact hpu _ (r.is 0 p rfl)
            | 1, hi => simp at hi; subst hi; trivial
      · intro j T cs hj hx
        rcases hk2 hj with ⟨rfl, rfl⟩ | ⟨rfl, rfl, rfl⟩
        · rfl
        · rw [upd_ne _ _ hne, hb] at hx; cases hx
      · intro j1 j2 b1 b2 h1 h2 h3 h4 _
        have hh : ∀ {j x}, (lkH [(kb, 5, []), (k, 91, [p, .unk])] j).isSome = true → upd ρ kb none j = some x → j = k := fun {j x} h1 h3 => by
          obtain ⟨⟨T, cs⟩, h⟩ := Option.isSome_iff_exists.1 h1
          rcases hk2 h with ⟨rfl, _⟩ | ⟨rfl, _⟩
          · rw [upd_self] at h3; cases h3
          · rfl
        rw [hh h1 h3, hh h2 h4]
      · intro x o hx
        rw [f5 x fun e => by rw [e, hM2] at hx; cases hx]
        exact hw.sub x o hx
      · rcases hk2 hi with ⟨rfl, rfl⟩ | ⟨rfl, rfl, rfl⟩
        · simp [mentL] at hm
        · rcases hp with rfl | rfl
          · simp [mentL, AV.ment] at hm
          · simp [mentL, AV.ment] at hm
            subst hm
            rw [lkH, if_neg hne.symm, lkH, if_pos rfl] at hj; cases hj
      · obtain ⟨⟨T, cs⟩, h⟩ := Option.isSome_iff_exists.1 hj
        rcases hk2 h with ⟨rfl, _⟩ | ⟨rfl, _⟩
        · rw [upd_self] at hx; cases hx
        · rw [upd_ne _ _ hne] at hx
          exact .inr ⟨_, x, by rw [hkk]; rfl, hx, rfl⟩
  · exact absurd (List.length_eq_zero_iff.1 hz) h0
theorem string_nil (k : Nat) (p : AV) (hp : p = .ext (.pointer none) ∨ p = .own k 0) (hK : K (.ext (.string (bs []))) [(k, 91, [p, .ext (.slice none 0 0)])] M) :
    CallS Tryd.prog 83 [.own k 0] [(k, 91, [p, .ext (.slice none 0 0)])] M [] K := fun ρ w us hw hus => by
  obtain ⟨u, rfl, b, hb, rfl⟩ := isL_one hus
  obtain ⟨⟨arr, r⟩, hM⟩ := hw.hp k 91 [p, .ext (.slice none 0 0)] b (by simp [lkH]) hb
  have h1 := r.is 1 _ rfl
  have h1 : arr.getD 1 undef = .slice none 0 0 := h1
  have hb1 : arr[1]? = some (.slice none 0 0) := by
    have h2 : 1 < arr.size := by have := r.le; rw [r.size]; exact this
    have : arr.getD 1 undef = arr[1] := by simp [Array.getD_eq_getD_getElem?, h2]
    rw [this] at h1
    simp [h2, h1]
  refine (str_none b.b w r.there hb1).mono fun e w' ⟨h1, h2⟩ => ?_
  subst h1 h2
  refine ⟨_, _, _, _, ρ, rfl, hK, ⟨rfl, ⟨fun k T cs b h1 h2 => ?_, hw.no, hw.inj, fun x o hx => hw.sub x o hx⟩, fun j hj => hj, fun _ _ _ => rfl, fun j hj => ⟨by simp [AV.ment], fun i T cs hi hm => ?_⟩, fun j x hj hx => .inr ⟨j, x, hj, hx, rfl⟩, rfl, rfl, rfl, Nat.le_refl _, fun _ _ _ => rfl, Mem.le.refl _, fun x hx => .inl hx⟩⟩
  · obtain ⟨⟨arr, r⟩, g⟩ := hw.hp k T cs b h1 h2
    exact ⟨⟨arr, ⟨r.there, r.size, r.le, r.is⟩⟩, g⟩
  · simp only [lkH] at hi hj
    split at hi
    · simp only [Option.some.injEq, Prod.mk.injEq] at hi
      obtain ⟨_, rfl⟩ := hi
      rcases hp with rfl | rfl
      · simp [mentL, AV.ment] at hm
      · simp [mentL, AV.ment] at hm
        subst hm
        simp at hj
    · cases hi
theorem le_nilH {s : St} (k i K : Nat) (T TT : TypeId) (cs : List AV) (zz : Nat) (h0 : lkH s.hp k = some (TT, cs)) (h1 : cs[i]? = some (.ext (.slice none 0 0))) (h2 : awayP K s) : Le s { env := s.env, hp := (K, T, []) :: upH s.hp k (cs.set i (.slo K 0 0 zz)), M := s.M, kb := s.kb, fx := s.fx, fr := s.fr } := fun c n ρ av w g => by
  have hkK : k ≠ K := (awayP_hp h2 k TT cs h0).1
  have hlk : ∀ j x, lkH ((K, T, []) :: upH s.hp k (cs.set i (.slo K 0 0 zz))) j = some x → (j = K ∧ x = (T, [])) ∨ (j ≠ K ∧ j ≠ k ∧ lkH s.hp j = some x) ∨ (j = k ∧ x = (TT, cs.set i (.slo K 0 0 zz))) := fun j x hj => by
    simp only [lkH] at hj
    by_cases e : K = j
    · rw [if_pos e] at hj; exact .inl ⟨e.symm, (Option.some.inj hj).symm⟩
    · rw [if_neg e, lkH_upH] at hj
      by_cases e2 : k = j
      · rw [if_pos e2, h0] at hj
        exact .inr (.inr ⟨e2.symm, (Option.some.inj hj).symm⟩)
      · rw [if_neg e2] at hj
        exact .inr (.inl ⟨fun h => e h.symm, fun h => e2 h.symm, hj⟩)
  have hsome : ∀ j, j ≠ K → (lkH ((K, T, []) :: upH s.hp k (cs.set i (.slo K 0 0 zz))) j).isSome = true → (lkH s.hp j).isSome = true := fun j hj h => by
    obtain ⟨x, hx⟩ := Option.isSome_iff_exists.1 h
    rcases hlk j x hx with ⟨h, _⟩ | ⟨_, _, h⟩ | ⟨h, _⟩
    · exact absurd h hj
    · rw [h]; rfl
    · rw [h, h0]; rfl
  refine ⟨upd ρ K none, { df := g.df, sz := g.sz, env := fun t' => is_upd (awayP_env h2 t') (g.env t'), hp := fun j T' cs' b hj hb => ?_, no := fun j T' cs' hj hb => ?_, inj := fun j j' b b' hj hj' hb hb' e => ?_, os := g.os, tape := g.tape, output := g.output, size := g.size, block := g.block, sub := g.sub, le := g.le, mf := g.mf, fix := fun j hj => ?_, fx := fun j hj => ?_, kl := g.kl, fr := g.fr }⟩
  · rcases hlk j _ hj with ⟨rfl, hx⟩ | ⟨hne, hne2, hx⟩ | ⟨rfl, hx⟩
    · rw [upd_self] at hb; cases hb
    · rw [upd_ne _ _ hne] at hb
      obtain ⟨⟨arr, f1⟩, f2⟩ := g.hp j T' cs' b hx hb
      exact ⟨⟨arr, f1.there, f1.size, f1.le, fun i v hv => is_upd (fun hm => (awayP_hp h2 j T' cs' hx).2 (mentL_get hv hm)) (f1.is i v hv)⟩, f2⟩
    · rw [upd_ne _ _ hkK] at hb
      cases hx
      obtain ⟨⟨arr, f1⟩, f2⟩ := g.hp j TT cs b h0 hb
      refine ⟨⟨arr, f1.there, f1.size, by rw [List.length_set]; exact f1.le, fun i' v hv => ?_⟩, f2⟩
      rw [List.getElem?_set] at hv
      split at hv
      · rename_i e
        subst e
        split at hv
        · obtain rfl := Option.some.inj hv
          have := f1.is i _ h1
          exact .inr ⟨rfl, none, (fun x e => by cases e), this⟩
        · cases hv
      · exact is_upd (fun hm => (awayP_hp h2 j TT cs h0).2 (mentL_get hv hm)) (f1.is i' v hv)
  · rcases hlk j _ hj with ⟨rfl, hx⟩ | ⟨hne, hne2, hx⟩ | ⟨rfl, hx⟩
    · cases hx; rfl
    · rw [upd_ne _ _ hne] at hb; exact g.no j T' cs' hx hb
    · rw [upd_ne _ _ hkK] at hb
      have := g.no j TT cs h0 hb
      subst this
      cases h1
  · by_cases e1 : j = K
    · rw [e1, upd_self] at hb; cases hb
    · by_cases e2 : j' = K
      · rw [e2, upd_self] at hb'; cases hb'
      · rw [upd_ne _ _ e1] at hb
        rw [upd_ne _ _ e2] at hb'
        exact g.inj j j' b b' (hsome j e1 hj) (hsome j' e2 hj') hb hb' e
  · have := g.fix j hj
    simp only [lkH]
    split
    · rfl
    · rw [lkH_upH]
      split
      · simpa using by rename_i e; rw [← e] at this; exact this
      · exact this
  · rw [upd_ne _ _ fun e => awayP_fx h2 (by rw [← e]; exact hj)]; exact g.fx j hj
end
end Go.Proofs.YtamghpnjdohnjaaDoor.Sx
namespace Go.Proofs.YtamghpnjdohnjaaDoor.Sx
open Go Go.RowKit
set_option linter.unusedVariables false
set_option linter.unusedSimpArgs false
set_option maxRecDepth 100000
set_option maxHeartbeats 8000000
attribute [local congr] fin_congr finG_congr stepG_congr step1_congr runOps_congr brv_congr obl_congr condK_congr LoopK_congr seqK_congr CutK_congr vc_congr DrawK_congr regK_congr CallK_congr AskK_congr newK_congr retC_congr ret1_congr retK_congr outV_congr closeK_congr genR_congr appR_congr finD_congr finGD_congr stepGD_congr stepD_congr CallK0_congr runD_congr okR_congr CallS_congr vcX_congr
attribute [local congr] Stop_congr
section
variable {M : Mem} {K : AV → Hp → Mem → Prop}
def tlbSt (M : Mem) (c : UInt8) (r : List UInt8) : St := { env := [(0, .ext (.string (bs r))), (1, .ext (.int .u8 (c.toNat : Int)))], hp := [], M := M, kb := 0, fx := [] }
theorem trimLB_ok (c : UInt8) (l : List UInt8) (hb : l.length < 1000000000) (hK : K (.ext (.string (bs (l.dropWhile (· == c))))) [] M) : CallS Tryd.prog 118 [.ext (.string (bs l)), .ext (.int .u8 (c.toNat : Int))] [] M [] K := by
  refine inlS (cs := []) Tryd.mixed Tryd.func118 rfl (by kernel_rfl) 0 rfl rfl ?_
  simp only [Tryd.f118]
  (replace hb0 := true_and True); refine Go1.mk ?_; repeat' ((first | (with_reducible refine Go1.go ?_) | ((with_reducible first | refine brv_mk ?_ ?_ | refine gsplitD ?_ ?_ | refine gsplitG ?_ ?_) <;> intro h <;> (try simp only [Bool.not_eq_true', Bool.not_eq_false'] at h) <;> replace hb0 := h) | (refine And.intro ?ob ?_; case ob => ((try simp only [sxO, ne_eq, maxLen] at *); omega)) | fail) <;> (try simp (config := { maxSteps := 1000000 }) only [hb0, bs_mk, bs_app, bs_ext, bs_size, bs_toList, bs_at, bs_cells, List.take_length, imp_ga, guard_pk, guard_pk2, ↓hold_pre, awayP, runOps, regK, step1, newK, genR, appR, obl, buildR, Value.cells, closeK, keepH, outV, retK, ret1, retC, RetV, Option.getD, runD, stepD, afterK, undef, simprocAttr, sxB, ↓sxD, sxE, sxTab]))
  refine ⟨fun d z => ∃ r, r.length = d ∧ r.length ≤ l.length ∧ r.dropWhile (· == c) = l.dropWhile (· == c) ∧ z = tlbSt M c r, ⟨l.length, tlbSt M c l, le_sub ⟨rfl, rfl, trivial⟩ trivial rfl rfl rfl (keepLt0 _), ⟨l, rfl, Nat.le_refl _, rfl, rfl⟩⟩, ?_⟩
  rintro d z ⟨r, rfl, hr, hd, rfl⟩
  cases r with
  | nil =>
    have d1 : decide ((0 : Int) < ((0 : Nat) : Int)) = false := by decide
    rw [← hd] at hK
    (replace hb0 := true_and True); refine Go1.mk ?_; repeat' ((first | (with_reducible refine Go1.go ?_) | ((with_reducible first | refine brv_mk ?_ ?_ | refine gsplitD ?_ ?_ | refine gsplitG ?_ ?_) <;> intro h <;> (try simp only [Bool.not_eq_true', Bool.not_eq_false'] at h) <;> replace hb0 := h) | (refine And.intro ?ob ?_; case ob => ((try simp only [sxO, ne_eq, maxLen] at *); omega)) | fail) <;> (try simp (config := { maxSteps := 1000000 }) only [hb0, tlbSt, d1, bs_mk, bs_app, bs_ext, bs_size, bs_toList, bs_at, bs_cells, List.take_length, imp_ga, guard_pk, guard_pk2, ↓hold_pre, awayP, runOps, regK, step1, newK, genR, appR, obl, buildR, Value.cells, closeK, keepH, outV, retK, ret1, retC, RetV, Option.getD, runD, stepD, afterK, undef, simprocAttr, sxB, ↓sxD, sxE, sxTab]))
    exact hK
  | cons b t =>
    have hlt : (b :: t).length = t.length + 1 := rfl
    have d1 : decide ((0 : Int) < ((t.length + 1 : Nat) : Int)) = true := by rw [decide_eq_true_eq]; omega
    have d0 : (0 : Int) < ((t.length + 1 : Nat) : Int) := by omega
    have g0 : (b :: t).getD 0 0 = b := rfl
    have i1 : (1 : Int).toNat = 1 := rfl
    by_cases hbc : b = c
    · subst hbc
      have d2 : decide ((b.toNat : Int) = (b.toNat : Int)) = true := by simp
      have d3 : (1 : Int) ≤ ((t.length + 1 : Nat) : Int) := by omega
      (replace hb0 := true_and True); refine Go1.mk ?_; repeat' ((first | (with_reducible refine Go1.go ?_) | ((with_reducible first | refine brv_mk ?_ ?_ | refine gsplitD ?_ ?_ | refine gsplitG ?_ ?_) <;> intro h <;> (try simp only [Bool.not_eq_true', Bool.not_eq_false'] at h) <;> replace hb0 := h) | (refine And.intro ?ob ?_; case ob => ((try simp only [sxO, ne_eq, maxLen] at *); omega)) | fail) <;> (try simp (config := { maxSteps := 1000000 }) only [hb0, tlbSt, hlt, d0, d1, d2, d3, g0, i1, bs_mk, bs_app, bs_ext, bs_size, bs_toList, bs_at, bs_cells, List.take_length, imp_ga, guard_pk, guard_pk2, ↓hold_pre, awayP, runOps, regK, step1, newK, genR, appR, obl, buildR, Value.cells, closeK, keepH, outV, retK, ret1, retC, RetV, Option.getD, runD, stepD, afterK, undef, simprocAttr, sxB, ↓sxD, sxE, sxTab]))
      exact ⟨t.length, tlbSt M b t, by omega, le_sub ⟨rfl, rfl, trivial⟩ trivial rfl rfl rfl (keepLt0 _), t, rfl, by rw [hlt] at hr; omega, by rw [← hd]; simp, rfl⟩
    · have hne : b.toNat ≠ c.toNat := fun e => hbc (UInt8.toNat_inj.1 e)
      have d2 : decide ((b.toNat : Int) = (c.toNat : Int)) = false := by rw [decide_eq_false_iff_not]; omega
      rw [← hd, show List.dropWhile (· == c) (b :: t) = b :: t by simp [hbc]] at hK
      (replace hb0 := true_and True); refine Go1.mk ?_; repeat' ((first | (with_reducible refine Go1.go ?_) | ((with_reducible first | refine brv_mk ?_ ?_ | refine gsplitD ?_ ?_ | refine gsplitG ?_ ?_) <;> intro h <;> (try simp only [Bool.not_eq_true', Bool.not_eq_false'] at h) <;> replace hb0 := h) | (refine And.intro ?ob ?_; case ob => ((try simp only [sxO, ne_eq, maxLen] at *); omega)) | fail) <;> (try simp (config := { maxSteps := 1000000 }) only [hb0, tlbSt, hlt, d0, d1, d2, g0, i1, bs_mk, bs_app, bs_ext, bs_size, bs_toList, bs_at, bs_cells, List.take_length, imp_ga, guard_pk, guard_pk2, ↓hold_pre, awayP, runOps, regK, step1, newK, genR, appR, obl, buildR, Value.cells, closeK, keepH, outV, retK, ret1, retC, RetV, Option.getD, runD, stepD, afterK, undef, simprocAttr, sxB, ↓sxD, sxE, sxTab]))
      exact hK
theorem trimL0_ok (l : List UInt8) (hb : l.length < 1000000000) (hK : K (.ext (.string (bs (l.dropWhile (· == 48))))) [] M) : CallS Tryd.prog 107 [.ext (.string (bs l)), .ext (.string (bs [48]))] [] M [] K := by
  refine inlS (cs := []) Tryd.mixed Tryd.func107 rfl (by kernel_rfl) 0 rfl rfl ?_
  simp only [Tryd.f107]
  have c1 : ([(48 : UInt8)] == []) = false := rfl
  have g0 : [(48 : UInt8)].getD 0 0 = 48 := rfl
  have g1 : decide (((48 : UInt8).toNat : Int) < 128) = true := by decide
  have i1 : ((1 : Nat) : Int) = 1 := rfl
  cases l with
  | nil =>
    have c2 : (([] : List UInt8) == []) = true := rfl
    (replace hb0 := true_and True); refine Go1.mk ?_; repeat' ((first | (with_reducible refine Go1.go ?_) | ((with_reducible first | refine brv_mk ?_ ?_ | refine gsplitD ?_ ?_ | refine gsplitG ?_ ?_) <;> intro h <;> (try simp only [Bool.not_eq_true', Bool.not_eq_false'] at h) <;> replace hb0 := h) | (refine And.intro ?ob ?_; case ob => ((try simp only [sxO, ne_eq, maxLen] at *); omega)) | fail) <;> (try simp (config := { maxSteps := 1000000 }) only [hb0, c2, bs_mk, bs_app, bs_ext, bs_size, bs_toList, bs_at, bs_cells, List.take_length, imp_ga, guard_pk, guard_pk2, ↓hold_pre, awayP, runOps, regK, step1, newK, genR, appR, obl, buildR, Value.cells, closeK, keepH, outV, retK, ret1, retC, RetV, Option.getD, runD, stepD, afterK, undef, simprocAttr, sxB, ↓sxD, sxE, sxTab]))
    exact hK
  | cons b t =>
    have c2 : ((b :: t) == []) = false := rfl
    (replace hb0 := true_and True); refine Go1.mk ?_; repeat' ((first | (with_reducible refine Go1.go ?_) | ((with_reducible first | refine brv_mk ?_ ?_ | refine gsplitD ?_ ?_ | refine gsplitG ?_ ?_) <;> intro h <;> (try simp only [Bool.not_eq_true', Bool.not_eq_false'] at h) <;> replace hb0 := h) | ((first | (with_reducible refine isCall (f := 118) ?_; refine callA_nil (by kernel_rfl) ?_) | (with_reducible refine isCall0 (f := 118) ?_; refine callA0_nil (by kernel_rfl) ?_)); refine (trimLB_ok 48 (b :: t) hb ?_)) | (refine And.intro ?ob ?_; case ob => ((try simp only [sxO, ne_eq, maxLen] at *); omega)) | fail) <;> (try simp (config := { maxSteps := 1000000 }) only [hb0, c1, c2, g0, g1, i1, bs_mk, bs_app, bs_ext, bs_size, bs_toList, bs_at, bs_cells, List.take_length, imp_ga, guard_pk, guard_pk2, ↓hold_pre, awayP, runOps, regK, step1, newK, genR, appR, obl, buildR, Value.cells, closeK, keepH, outV, retK, ret1, retC, RetV, Option.getD, runD, stepD, afterK, undef, simprocAttr, sxB, ↓sxD, sxE, sxTab]))
    exact hK
def atN (k : Nat) : Nat := if k = 0 then 0 else 10 ^ (k - 1)
def joSt (M : Mem) (p : AV) (u : Value) (j : Nat) (o : List UInt8) : St := { env := [(4, .ext (.int .i64 ((j : Int) - 1))), (3, .own 3 0), (0, .ext u)], hp := bldH 3 90 p o, M := M, kb := 0, fx := [] }
def jiSt (M : Mem) (p : AV) (u : Value) (i k : Nat) (o : List UInt8) : St := { env := [(5, .ext (.int .u32 (atN k : Int))), (4, .ext (.int .i64 (i : Int))), (3, .own 3 0), (0, .ext u)], hp := bldH 3 90 p o, M := M, kb := 0, fx := [] }
def jnSt (M : Mem) (u : Value) : St := { env := [(4, .ext (.int .i64 (((0 : Nat) : Int) - 1))), (3, .own 3 0), (0, .ext u)], hp := [(3, 91, [.ext (.pointer none), .ext (.slice none 0 0)])], M := M, kb := 0, fx := [] }
theorem join_ok (u : Value) (L : List Nat) (hu : IsL M u32V u L) (ho : okN L) (hb : L.length < 10000) (hK : K (.ext (.string (bs (joinG L)))) [] M) : CallS Tryd.prog 108 [.ext u] [] M [] K := by
  refine inlS (cs := []) Tryd.mixed Tryd.func108 rfl (by kernel_rfl) 0 rfl rfl ?_
  simp only [Tryd.f108]
  by_cases hL : L = []
  · subst hL
    have w1 : IntKind.i64.wrap (((([] : List Nat).length : Nat) : Int) - 1) = ((0 : Nat) : Int) - 1 := by decide
    (replace hb0 := true_and True); refine Go1.mk ?_; repeat' ((first | (with_reducible refine Go1.go ?_) | ((with_reducible first | refine brv_mk ?_ ?_ | refine gsplitD ?_ ?_ | refine gsplitG ?_ ?_) <;> intro h <;> (try simp only [Bool.not_eq_true', Bool.not_eq_false'] at h) <;> replace hb0 := h) | (refine And.intro ?ob ?_; case ob => ((try simp only [sxO, ne_eq, maxLen] at *); omega)) | fail) <;> (try simp (config := { maxSteps := 1000000 }) only [hb0, hu.one, hu.len, hu.sl, w1, bs_mk, bs_app, bs_ext, bs_size, bs_toList, bs_at, bs_cells, List.take_length, imp_ga, guard_pk, guard_pk2, ↓hold_pre, awayP, runOps, regK, step1, newK, genR, appR, obl, buildR, Value.cells, closeK, keepH, outV, retK, ret1, retC, RetV, Option.getD, runD, stepD, afterK, undef, simprocAttr, sxB, ↓sxD, sxE, sxTab]))
    refine ⟨fun _ z => z = jnSt M u, ⟨0, jnSt M u, le_sub ⟨rfl, rfl, rfl, trivial⟩ ⟨rfl, trivial⟩ rfl rfl rfl (keepLt0 _), rfl⟩, ?_⟩
    rintro _ z rfl
    have d1 : decide ((0 : Int) ≤ ((0 : Nat) : Int) - 1) = false := by decide
    (replace hb0 := true_and True); refine Go1.mk ?_; repeat' ((first | (with_reducible refine Go1.go ?_) | ((with_reducible first | refine brv_mk ?_ ?_ | refine gsplitD ?_ ?_ | refine gsplitG ?_ ?_) <;> intro h <;> (try simp only [Bool.not_eq_true', Bool.not_eq_false'] at h) <;> replace hb0 := h) | ((with_reducible refine isCall (f := 83) ?_); refine callA ?_) | ((with_reducible refine isCall0 (f := 83) ?_); refine callA0 ?_) | ((with_reducible refine isCallS (f := 83) ?_); refine (string_nil 3 _ (by simp) ?_)) | (refine And.intro ?ob ?_; case ob => ((try simp only [sxO, ne_eq, maxLen] at *); omega)) | fail) <;> (try simp (config := { maxSteps := 1000000 }) only [hb0, jnSt, d1, bs_mk, bs_app, bs_ext, bs_size, bs_toList, bs_at, bs_cells, List.take_length, imp_ga, guard_pk, guard_pk2, ↓hold_pre, awayP, runOps, regK, step1, newK, genR, appR, obl, buildR, Value.cells, closeK, keepH, outV, retK, ret1, retC, RetV, Option.getD, runD, stepD, afterK, undef, simprocAttr, sxB, ↓sxD, sxE, sxTab]))
    exact hK
  have hl0 : 0 < L.length := List.length_pos_iff.2 hL
  have w1 : IntKind.i64.wrap ((L.length : Int) - 1) = (L.length : Int) - 1 := wrap_id (by omega) (by omega)
  (replace hb0 := true_and True); refine Go1.mk ?_; repeat' ((first | (with_reducible refine Go1.go ?_) | ((with_reducible first | refine brv_mk ?_ ?_ | refine gsplitD ?_ ?_ | refine gsplitG ?_ ?_) <;> intro h <;> (try simp only [Bool.not_eq_true', Bool.not_eq_false'] at h) <;> replace hb0 := h) | (refine And.intro ?ob ?_; case ob => ((try simp only [sxO, ne_eq, maxLen] at *); omega)) | fail) <;> (try simp (config := { maxSteps := 1000000 }) only [hb0, hu.one, hu.len, hu.sl, w1, bs_mk, bs_app, bs_ext, bs_size, bs_toList, bs_at, bs_cells, List.take_length, imp_ga, guard_pk, guard_pk2, ↓hold_pre, awayP, runOps, regK, step1, newK, genR, appR, obl, buildR, Value.cells, closeK, keepH, outV, retK, ret1, retC, RetV, Option.getD, runD, stepD, afterK, undef, simprocAttr, sxB, ↓sxD, sxE, sxTab]))
  refine ⟨fun d z => ∃ j p, (p = .ext (.pointer none) ∨ p = .own 3 0) ∧ j = d ∧ j ≤ L.length ∧ z = joSt M p u j (joinG (L.drop j)), ⟨L.length, joSt M (.ext (.pointer none)) u L.length [], (le_nilH 3 1 90 5 91 [.ext (.pointer none), .ext (.slice none 0 0)] 1 rfl rfl (.inl rfl)).trans (le_sub ⟨rfl, rfl, rfl, trivial⟩ ⟨rfl, rfl, trivial⟩ rfl rfl rfl (keepLt0 _)), ⟨L.length, _, .inl rfl, rfl, Nat.le_refl _, by rw [List.drop_of_length_le (Nat.le_refl _)]; rfl⟩⟩, ?_⟩
  rintro d z ⟨j, p, hp, rfl, hj, rfl⟩
  by_cases hlt : 0 < j
  case neg =>
    obtain rfl : j = 0 := by omega
    have d1 : decide ((0 : Int) ≤ ((0 : Nat) : Int) - 1) = false := by decide
    have hne : joinG (L.drop 0) ≠ [] := fun e => by
      have := joinG_len L
      rw [show L.drop 0 = L from rfl] at e
      rw [e] at this
      simp at this; omega
    have hlen : (joinG (L.drop 0)).length < 1000000000 := by rw [joinG_len, List.length_drop]; omega
    rw [show joinG L = joinG (L.drop 0) from rfl] at hK
    rcases hp with rfl | rfl
    all_goals (
      (replace hb0 := true_and True); refine Go1.mk ?_; repeat' ((first | (with_reducible refine Go1.go ?_) | ((with_reducible first | refine brv_mk ?_ ?_ | refine gsplitD ?_ ?_ | refine gsplitG ?_ ?_) <;> intro h <;> (try simp only [Bool.not_eq_true', Bool.not_eq_false'] at h) <;> replace hb0 := h) | ((with_reducible refine isCall (f := 83) ?_); refine callKm [90] rfl (by rfl) (by simp [hasK]) ?_) | ((with_reducible refine isCallS (f := 83) ?_); refine (string_ok 3 90 _ (joinG (L.drop 0)) (by decide) (by simp) hne hlen ?_)) | (refine And.intro ?ob ?_; case ob => ((try simp only [sxO, ne_eq, maxLen] at *); omega)) | fail) <;> (try simp (config := { maxSteps := 1000000 }) only [hb0, joSt, bldH, d1, cE_ment, cE_kill, hasK_nil, bs_mk, bs_app, bs_ext, bs_size, bs_toList, bs_at, bs_cells, List.take_length, imp_ga, guard_pk, guard_pk2, ↓hold_pre, awayP, runOps, regK, step1, newK, genR, appR, obl, buildR, Value.cells, closeK, keepH, outV, retK, ret1, retC, RetV, Option.getD, runD, stepD, afterK, undef, simprocAttr, sxB, ↓sxD, sxE, sxTab]))
      exact hK)
  obtain ⟨i, rfl⟩ : ∃ i, j = i + 1 := ⟨j - 1, by omega⟩
  have ej : (((i + 1 : Nat) : Int) - 1) = (i : Int) := by omega
  have d1 : decide ((0 : Int) ≤ (i : Int)) = true := by simp
  have hil : i < L.length := by omega
  have hxi := hu.idx (P := Tryd.prog) (T := 70) tk70 tz70 (by omega) hil
  have hx := okN_at ho hil
  have hjd := joinG_drop hil
  have hjl : (joinG (L.drop i)).length < 100000 := by rw [joinG_len, List.length_drop]; omega
  generalize L[i] = x at *
  have a9 : ((atN 9 : Nat) : Int) = 100000000 := by decide
  have inner : ∀ p, (p = .ext (.pointer none) ∨ p = .own 3 0) → ∀ (s : St), lk s.env 5 = .ext (.int .u32 100000000) → lk s.env 4 = .ext (.int .i64 (i : Int)) → lk s.env 3 = .own 3 0 → lk s.env 0 = .ext u → subHp (bldH 3 90 p (joinG (L.drop (i + 1)))) s.hp → s.M = M → s.kb = 0 → s.fx = [] → ∃ m z, Le s z ∧ ∃ k p o, (p = .ext (.pointer none) ∨ p = .own 3 0) ∧ k = m ∧ k ≤ 9 ∧ o ++ pad k x = joinG (L.drop i) ∧ z = jiSt M p u i k o := fun p hp s e5 e4 e3 e0 eh eM ek ef =>
    ⟨9, jiSt M p u i 9 (joinG (L.drop (i + 1))), le_sub ⟨by rw [e5, a9], e4, e3, e0, trivial⟩ eh eM.symm ek.symm ef.symm (by rw [ek]; exact keepLt0 _), 9, p, _, hp, rfl, Nat.le_refl _, hjd.symm, rfl⟩
  have w10 : IntKind.i64.wrap ((i : Int) - 1) = (i : Int) - 1 := wrap_id (by omega) (by omega)
  have step : ∀ (J : St → Prop) (p : AV), True := fun _ _ => trivial
  rcases hp with rfl | rfl
  all_goals (
    (replace hb0 := true_and True); refine Go1.mk ?_; repeat' ((first | (with_reducible refine Go1.go ?_) | ((with_reducible first | refine brv_mk ?_ ?_ | refine gsplitD ?_ ?_ | refine gsplitG ?_ ?_) <;> intro h <;> (try simp only [Bool.not_eq_true', Bool.not_eq_false'] at h) <;> replace hb0 := h) | (refine And.intro ?ob ?_; case ob => ((try simp only [sxO, ne_eq, maxLen] at *); omega)) | fail) <;> (try simp (config := { maxSteps := 1000000 }) only [hb0, joSt, bldH, ej, d1, cE_ment, cE_kill, hasK_nil, bs_mk, bs_app, bs_ext, bs_size, bs_toList, bs_at, bs_cells, List.take_length, imp_ga, guard_pk, guard_pk2, ↓hold_pre, awayP, runOps, regK, step1, newK, genR, appR, obl, buildR, Value.cells, closeK, keepH, outV, retK, ret1, retC, RetV, Option.getD, runD, stepD, afterK, undef, simprocAttr, sxB, ↓sxD, sxE, sxTab]))
    refine ⟨fun m z => ∃ k p o, (p = .ext (.pointer none) ∨ p = .own 3 0) ∧ k = m ∧ k ≤ 9 ∧ o ++ pad k x = joinG (L.drop i) ∧ z = jiSt M p u i k o, inner _ (by simp) _ rfl rfl rfl rfl ⟨rfl, rfl, trivial⟩ rfl rfl rfl, ?_⟩
    rintro m z ⟨k, p, o, hp, rfl, hk, hrel, rfl⟩
    have hol : o.length < 100000 := by
      have := congrArg List.length hrel
      rw [List.length_append] at this
      omega
    cases k with
    | zero =>
      have d2 : decide ((0 : Int) < ((atN 0 : Nat) : Int)) = false := by decide
      rw [pad, List.append_nil] at hrel
      subst hrel
      (replace hb0 := true_and True); refine Go1.mk ?_; repeat' ((first | (with_reducible refine Go1.go ?_) | ((with_reducible first | refine brv_mk ?_ ?_ | refine gsplitD ?_ ?_ | refine gsplitG ?_ ?_) <;> intro h <;> (try simp only [Bool.not_eq_true', Bool.not_eq_false'] at h) <;> replace hb0 := h) | (refine And.intro ?ob ?_; case ob => ((try simp only [sxO, ne_eq, maxLen] at *); omega)) | fail) <;> (try simp (config := { maxSteps := 1000000 }) only [hb0, jiSt, bldH, d2, w10, cE_ment, cE_kill, hasK_nil, bs_mk, bs_app, bs_ext, bs_size, bs_toList, bs_at, bs_cells, List.take_length, imp_ga, guard_pk, guard_pk2, ↓hold_pre, awayP, runOps, regK, step1, newK, genR, appR, obl, buildR, Value.cells, closeK, keepH, outV, retK, ret1, retC, RetV, Option.getD, runD, stepD, afterK, undef, simprocAttr, sxB, ↓sxD, sxE, sxTab]))
      exact ⟨i, joSt M p u i _, by omega, le_sub ⟨rfl, rfl, rfl, trivial⟩ ⟨rfl, rfl, trivial⟩ rfl rfl rfl (keepLt0 _), i, p, hp, rfl, by omega, rfl⟩
    | succ k =>
      have ha : atN (k + 1) = 10 ^ k := rfl
      have hp10 : 0 < 10 ^ k := Nat.pow_pos (by decide)
      have hp9 : 10 ^ k ≤ 10 ^ 8 := Nat.pow_le_pow_right (by decide) (by omega)
      have hnext : 10 ^ k / 10 = atN k := by
        unfold atN
        cases k with
        | zero => rfl
        | succ k => rw [if_neg (by omega), Nat.pow_succ, Nat.mul_div_cancel _ (by decide), Nat.add_sub_cancel]
      have hx1 : x / 10 ^ k ≤ x := Nat.div_le_self _ _
      have d2 : decide ((0 : Int) < ((10 ^ k : Nat) : Int)) = true := by rw [decide_eq_true_eq]; omega
      have w2 : IntKind.u32.wrap ((x : Int).tdiv ((10 ^ k : Nat) : Int)) = ((x / 10 ^ k : Nat) : Int) := by rw [← Int.ofNat_tdiv, wrap32_id (by omega)]
      have w3 : ((x / 10 ^ k : Nat) : Int).tmod 10 = ((x / 10 ^ k % 10 : Nat) : Int) := by rw [show (10 : Int) = ((10 : Nat) : Int) from rfl, ← Int.ofNat_tmod]
      have w4 : IntKind.u8.wrap ((x / 10 ^ k % 10 : Nat) : Int) = ((x / 10 ^ k % 10 : Nat) : Int) := by rw [wrap8, Nat.mod_eq_of_lt (a := x / 10 ^ k % 10) (by omega)]
      have w5 : IntKind.u8.wrap (48 + ((x / 10 ^ k % 10 : Nat) : Int)) = ((48 + x / 10 ^ k % 10 : Nat) : Int) := by
        rw [show (48 : Int) + ((x / 10 ^ k % 10 : Nat) : Int) = ((48 + x / 10 ^ k % 10 : Nat) : Int) by omega, wrap8, Nat.mod_eq_of_lt (by omega)]
      have w6 : IntKind.u32.wrap (((10 ^ k : Nat) : Int).tdiv 10) = ((atN k : Nat) : Int) := by
        rw [show (10 : Int) = ((10 : Nat) : Int) from rfl, ← Int.ofNat_tdiv, hnext, wrap32_id (by rw [← hnext]; omega)]
      have n1 : (((10 ^ k : Nat) : Int) = 0) = False := eq_false (fun h => by omega)
      rw [pad] at hrel
      have hrel2 : (o ++ [dgB (x / 10 ^ k % 10)]) ++ pad k x = joinG (L.drop i) := by rw [← hrel]; simp
      have hc := dgB_nat (show x / 10 ^ k % 10 < 10 by omega)
      generalize x / 10 ^ k % 10 = dg at *
      rcases hp with rfl | rfl
      all_goals (
        (replace hb0 := true_and True); refine Go1.mk ?_; repeat' ((first | (with_reducible refine Go1.go ?_) | ((with_reducible first | refine brv_mk ?_ ?_ | refine gsplitD ?_ ?_ | refine gsplitG ?_ ?_) <;> intro h <;> (try simp only [Bool.not_eq_true', Bool.not_eq_false'] at h) <;> replace hb0 := h) | ((with_reducible refine isCall (f := 81) ?_); refine callKm [90] rfl (by rfl) (by simp [hasK]) ?_) | ((with_reducible refine isCallS (f := 81) ?_); refine (wbyte_ok 3 90 _ o (dgB dg) _ (by rw [hc]) (by decide) (by omega) (by simp) ?_)) | (refine And.intro ?ob ?_; case ob => ((try simp only [sxO, ne_eq, maxLen] at *); omega)) | fail) <;> (try simp (config := { maxSteps := 1000000 }) only [hb0, jiSt, bldH, u32V, ha, d2, hxi, hu.one, hu.len, hu.sl, w2, w3, w4, w5, w6, n1, cE_ment, cE_kill, hasK_nil, bs_mk, bs_app, bs_ext, bs_size, bs_toList, bs_at, bs_cells, List.take_length, imp_ga, guard_pk, guard_pk2, ↓hold_pre, awayP, runOps, regK, step1, newK, genR, appR, obl, buildR, Value.cells, closeK, keepH, outV, retK, ret1, retC, RetV, Option.getD, runD, stepD, afterK, undef, simprocAttr, sxB, ↓sxD, sxE, sxTab]))
        exact ⟨k, jiSt M (.own 3 0) u i k (o ++ [dgB dg]), by omega, le_sub ⟨rfl, rfl, rfl, rfl, trivial⟩ ⟨rfl, rfl, trivial⟩ rfl rfl rfl (keepLt0 _), k, _, _, .inr rfl, rfl, by omega, hrel2, rfl⟩))
end
end Go.Proofs.YtamghpnjdohnjaaDoor.Sx
namespace Go.Proofs.YtamghpnjdohnjaaDoor.Sx
open Go Go.RowKit
set_option linter.unusedVariables false
set_option linter.unusedSimpArgs false
set_option maxRecDepth 100000
set_option maxHeartbeats 8000000
attribute [local congr] fin_congr finG_congr stepG_congr step1_congr runOps_congr brv_congr obl_congr condK_congr LoopK_congr seqK_congr CutK_congr vc_congr DrawK_congr regK_congr CallK_congr AskK_congr newK_congr retC_congr ret1_congr retK_congr outV_congr closeK_congr genR_congr appR_congr finD_congr finGD_congr stepGD_congr stepD_congr CallK0_congr runD_congr okR_congr CallS_congr vcX_congr
attribute [local congr] Stop_congr
def fmtR (l : List Nat) : Int × List UInt8 := if chkN l then (0, decB (valN l)) else (1, [])
section
variable {M : Mem} {K : AV → Hp → Mem → Prop}
theorem join_bor (k n : Nat) (T : TypeId) (L : List Nat) (hn : n = L.length) (ho : okN L) (hb : L.length < 10000) (hK : K (.ext (.string (bs (joinG L)))) [(k, T, cE u32V L)] M) :
    CallS Tryd.prog 108 [.slo k 0 n 1] [(k, T, cE u32V L)] M [] K := by
  refine CallS.bor ⟨⟨_, rfl⟩, trivial⟩ fun us M' hM hb' => ?_
  obtain ⟨v1, _, rfl, h1, rfl⟩ := hb'
  have g1 := h1.isL (g := u32V) (L := L) (T := T) (by simp [lkH]) hn
  exact join_ok v1 L g1 ho hb (BorK.same hK)
def fmSt (M : Mem) (w : Value) (n : Nat) (L : List Nat) : St := { env := [(5, .ext w), (4, .slo 90 0 n 1)], hp := [(90, 70, cE u32V L)], M := M, kb := 0, fx := [] }
theorem fmt_ok (u : Value) (l : List Nat) (hu : IsL M u32V u l) (ho : okN l) (hb : l.length < 1000000) (hK : ∀ M', Mem.le M M' → K (.ext (.tuple #[.string (bs (fmtR l).2), .int .i64 (fmtR l).1])) [] M') : CallS Tryd.prog 79 [.ext u] [] M [] K := by
  refine inlS (cs := []) Tryd.mixed Tryd.func79 rfl (by kernel_rfl) 0 rfl rfl ?_
  simp only [Tryd.f79]
  unfold fmtR at hK
  cases hc : chkN l with
  | false =>
    rw [hc] at hK
    (replace hb0 := true_and True); refine Go1.mk ?_; repeat' ((first | (with_reducible refine Go1.go ?_) | ((with_reducible first | refine brv_mk ?_ ?_ | refine gsplitD ?_ ?_ | refine gsplitG ?_ ?_) <;> intro h <;> (try simp only [Bool.not_eq_true', Bool.not_eq_false'] at h) <;> replace hb0 := h) | ((first | (with_reducible refine isCall (f := 50) ?_; refine callA_nil (by kernel_rfl) ?_) | (with_reducible refine isCall0 (f := 50) ?_; refine callA0_nil (by kernel_rfl) ?_)); refine (check_ok u l hu (by omega) ?_)) | (refine And.intro ?ob ?_; case ob => ((try simp only [sxO, ne_eq, maxLen] at *); omega)) | fail) <;> (try simp (config := { maxSteps := 1000000 }) only [hb0, hu.one, hc, bs_mk, bs_app, bs_ext, bs_size, bs_toList, bs_at, bs_cells, List.take_length, imp_ga, guard_pk, guard_pk2, ↓hold_pre, awayP, runOps, regK, step1, newK, genR, appR, obl, buildR, Value.cells, closeK, keepH, outV, retK, ret1, retC, RetV, Option.getD, runD, stepD, afterK, undef, simprocAttr, sxB, ↓sxD, sxE, sxTab]))
    exact hK _ (Mem.le.refl _)
  | true =>
    rw [hc, if_pos rfl] at hK
    obtain ⟨e1, b1⟩ := chkN_ok ho hc
    have hu' := hu
    rw [e1] at hu'
    obtain ⟨E, hE, hbd⟩ : ∃ E, E = 4096 ∧ valN l < 2 ^ E := by
      obtain ⟨i, hi⟩ : ∃ i, i = 128 := ⟨_, rfl⟩
      rw [← hi] at b1
      exact ⟨32 * i, by omega, by rw [← wN_two]; exact Nat.lt_of_lt_of_le (valN_lt ho) (wN_mono b1)⟩
    generalize valN l = N at *
    (replace hb0 := true_and True); refine Go1.mk ?_; repeat' ((first | (with_reducible refine Go1.go ?_) | ((with_reducible first | refine brv_mk ?_ ?_ | refine gsplitD ?_ ?_ | refine gsplitG ?_ ?_) <;> intro h <;> (try simp only [Bool.not_eq_true', Bool.not_eq_false'] at h) <;> replace hb0 := h) | ((first | (with_reducible refine isCall (f := 50) ?_; refine callA_nil (by kernel_rfl) ?_) | (with_reducible refine isCall0 (f := 50) ?_; refine callA0_nil (by kernel_rfl) ?_)); refine (check_ok u l hu (by omega) ?_)) | (refine And.intro ?ob ?_; case ob => ((try simp only [sxO, ne_eq, maxLen] at *); omega)) | fail) <;> (try simp (config := { maxSteps := 1000000 }) only [hb0, hu.one, hc, bs_mk, bs_app, bs_ext, bs_size, bs_toList, bs_at, bs_cells, List.take_length, imp_ga, guard_pk, guard_pk2, ↓hold_pre, awayP, runOps, regK, step1, newK, genR, appR, obl, buildR, Value.cells, closeK, keepH, outV, retK, ret1, retC, RetV, Option.getD, runD, stepD, afterK, undef, simprocAttr, sxB, ↓sxD, sxE, sxTab]))
    have hlen : (ofN N).length ≤ 128 := by rw [← e1]; exact b1
    refine ⟨fun d z => ∃ M' w n L, n = d ∧ Mem.le M M' ∧ IsL M' u32V w (ofN n) ∧ (ofN n).length ≤ 128 ∧ valG L + 1000000000 ^ L.length * n = N ∧ (∀ x ∈ L, x < 1000000000) ∧ 2 ^ L.length * n ≤ N ∧ L.length ≤ 5000 ∧ z = fmSt M' w L.length L,
      ⟨N, fmSt M u 0 [], (le_nil 4 90 70 1 rfl (.inl rfl)).trans (le_sub ⟨rfl, rfl, trivial⟩ ⟨rfl, trivial⟩ rfl rfl rfl (keepLt0 _)), ⟨M, u, N, [], rfl, Mem.le.refl _, hu', hlen, by simp [valG], by simp, by simp, by simp, rfl⟩⟩, ?_⟩
    clear hu hu' e1 hlen
    rintro d z ⟨M1, w, n, L, rfl, hM1, hw, hwl, hval, hL, h2, hLl, rfl⟩
    by_cases hn : n = 0
    · subst hn
      have d1 : decide ((0 : Int) < (((ofN 0).length : Nat) : Int)) = false := by rw [ofN_zero]; rfl
      have hoL : okN L := fun x hx => by have := hL x hx; omega
      rw [Nat.mul_zero, Nat.add_zero] at hval
      have hJ := joinG_val L hL
      rw [hval] at hJ
      have hD := drop_dec (joinG_is L)
      rw [hJ] at hD
      have hjl : (joinG L).length < 1000000000 := by rw [joinG_len]; omega
      (replace hb0 := true_and True); refine Go1.mk ?_; repeat' ((first | (with_reducible refine Go1.go ?_) | ((with_reducible first | refine brv_mk ?_ ?_ | refine gsplitD ?_ ?_ | refine gsplitG ?_ ?_) <;> intro h <;> (try simp only [Bool.not_eq_true', Bool.not_eq_false'] at h) <;> replace hb0 := h) | ((with_reducible refine isCall (f := 108) ?_); refine callA ?_) | ((with_reducible refine isCall0 (f := 108) ?_); refine callA0 ?_) | ((with_reducible refine isCallS (f := 108) ?_); refine (join_bor 90 L.length _ L rfl hoL (by omega) (Stop.mk ?_))) | (refine And.intro ?ob ?_; case ob => ((try simp only [sxO, ne_eq, maxLen] at *); omega)) | fail) <;> (try simp (config := { maxSteps := 1000000 }) only [hb0, cE_ment, hasK_nil, cE_kill, cE_len, u32_one, u32_app1, u32_set, Nat.mul_one, fmSt, d1, hw.one, hw.len, hw.sl, bs_mk, bs_app, bs_ext, bs_size, bs_toList, bs_at, bs_cells, List.take_length, imp_ga, guard_pk, guard_pk2, ↓hold_pre, awayP, runOps, regK, step1, newK, genR, appR, obl, buildR, Value.cells, closeK, keepH, outV, retK, ret1, retC, RetV, Option.getD, runD, stepD, afterK, undef, simprocAttr, sxB, ↓sxD, sxE, sxTab]))
      refine Stop.go ?_
      (replace hb0 := true_and True); refine Go1.mk ?_; repeat' ((first | (with_reducible refine Go1.go ?_) | ((with_reducible first | refine brv_mk ?_ ?_ | refine gsplitD ?_ ?_ | refine gsplitG ?_ ?_) <;> intro h <;> (try simp only [Bool.not_eq_true', Bool.not_eq_false'] at h) <;> replace hb0 := h) | ((first | (with_reducible refine isCall (f := 107) ?_; refine callA_nil (by kernel_rfl) ?_) | (with_reducible refine isCall0 (f := 107) ?_; refine callA0_nil (by kernel_rfl) ?_)); refine (trimL0_ok (joinG L) hjl (Stop.mk ?_))) | (refine And.intro ?ob ?_; case ob => ((try simp only [sxO, ne_eq, maxLen] at *); omega)) | fail) <;> (try simp (config := { maxSteps := 1000000 }) only [hb0, cE_ment, hasK_nil, cE_kill, cE_len, u32_one, u32_app1, u32_set, Nat.mul_one, bs_mk, bs_app, bs_ext, bs_size, bs_toList, bs_at, bs_cells, List.take_length, imp_ga, guard_pk, guard_pk2, ↓hold_pre, awayP, runOps, regK, step1, newK, genR, appR, obl, buildR, Value.cells, closeK, keepH, outV, retK, ret1, retC, RetV, Option.getD, runD, stepD, afterK, undef, simprocAttr, sxB, ↓sxD, sxE, sxTab]))
      rw [hD]
      refine Stop.go ?_
      unfold decB at hK
      by_cases h0 : N = 0
      · rw [if_pos h0] at hK
        have d2 : (dec N == []) = true := by rw [h0, dec_zero]; rfl
        (replace hb0 := true_and True); refine Go1.mk ?_; repeat' ((first | (with_reducible refine Go1.go ?_) | ((with_reducible first | refine brv_mk ?_ ?_ | refine gsplitD ?_ ?_ | refine gsplitG ?_ ?_) <;> intro h <;> (try simp only [Bool.not_eq_true', Bool.not_eq_false'] at h) <;> replace hb0 := h) | (refine And.intro ?ob ?_; case ob => ((try simp only [sxO, ne_eq, maxLen] at *); omega)) | fail) <;> (try simp (config := { maxSteps := 1000000 }) only [hb0, d2, bs_mk, bs_app, bs_ext, bs_size, bs_toList, bs_at, bs_cells, List.take_length, imp_ga, guard_pk, guard_pk2, ↓hold_pre, awayP, runOps, regK, step1, newK, genR, appR, obl, buildR, Value.cells, closeK, keepH, outV, retK, ret1, retC, RetV, Option.getD, runD, stepD, afterK, undef, simprocAttr, sxB, ↓sxD, sxE, sxTab]))
        exact hK _ hM1
      · rw [if_neg h0] at hK
        have d2 : (dec N == []) = false := by
          have hne : dec N ≠ [] := fun e => by
            have := numB_dec N
            rw [e] at this
            exact h0 this.symm
          simpa using hne
        (replace hb0 := true_and True); refine Go1.mk ?_; repeat' ((first | (with_reducible refine Go1.go ?_) | ((with_reducible first | refine brv_mk ?_ ?_ | refine gsplitD ?_ ?_ | refine gsplitG ?_ ?_) <;> intro h <;> (try simp only [Bool.not_eq_true', Bool.not_eq_false'] at h) <;> replace hb0 := h) | (refine And.intro ?ob ?_; case ob => ((try simp only [sxO, ne_eq, maxLen] at *); omega)) | fail) <;> (try simp (config := { maxSteps := 1000000 }) only [hb0, d2, bs_mk, bs_app, bs_ext, bs_size, bs_toList, bs_at, bs_cells, List.take_length, imp_ga, guard_pk, guard_pk2, ↓hold_pre, awayP, runOps, regK, step1, newK, genR, appR, obl, buildR, Value.cells, closeK, keepH, outV, retK, ret1, retC, RetV, Option.getD, runD, stepD, afterK, undef, simprocAttr, sxB, ↓sxD, sxE, sxTab]))
        exact hK _ hM1
    have hl0 : 0 < (ofN n).length := by
      rcases Nat.eq_zero_or_pos (ofN n).length with h | h
      · exact absurd (ofN_nil.1 (List.length_eq_zero_iff.1 h)) hn
      · exact h
    have d1 : decide ((0 : Int) < (((ofN n).length : Nat) : Int)) = true := by rw [decide_eq_true_eq]; omega
    have hLb : L.length < 4096 := by
      have h3 : 2 ^ L.length ≤ 2 ^ L.length * n := Nat.le_mul_of_pos_right _ (by omega)
      rcases Nat.lt_or_ge L.length E with h | h
      · omega
      · have := Nat.pow_le_pow_right (n := 2) (by decide) h
        omega
    have hq := Nat.div_add_mod n 1000000000
    have hr : n % 1000000000 < 1000000000 := Nat.mod_lt _ (by decide)
    have hql := len_mono (Nat.div_le_self n 1000000000)
    have i9 : ((1000000000 : Nat) : Int) = 1000000000 := rfl
    (replace hb0 := true_and True); refine Go1.mk ?_; repeat' ((first | (with_reducible refine Go1.go ?_) | ((with_reducible first | refine brv_mk ?_ ?_ | refine gsplitD ?_ ?_ | refine gsplitG ?_ ?_) <;> intro h <;> (try simp only [Bool.not_eq_true', Bool.not_eq_false'] at h) <;> replace hb0 := h) | (refine And.intro ?ob ?_; case ob => ((try simp only [sxO, ne_eq, maxLen] at *); omega)) | fail) <;> (try simp (config := { maxSteps := 1000000 }) only [hb0, cE_ment, hasK_nil, cE_kill, cE_len, u32_one, u32_app1, u32_set, Nat.mul_one, fmSt, d1, hw.one, hw.len, hw.sl, bs_mk, bs_app, bs_ext, bs_size, bs_toList, bs_at, bs_cells, List.take_length, imp_ga, guard_pk, guard_pk2, ↓hold_pre, awayP, runOps, regK, step1, newK, genR, appR, obl, buildR, Value.cells, closeK, keepH, outV, retK, ret1, retC, RetV, Option.getD, runD, stepD, afterK, undef, simprocAttr, sxB, ↓sxD, sxE, sxTab]))
    refine callA_nil (f := 98) (by kernel_rfl) (small_ok w n 1000000000 hw (by omega) (by decide) (by decide) (fun w2 M2 g1 g2 g3 => ?_))
    have g1 : Mem.le M1 M2 := g1
    (replace hb0 := true_and True); refine Go1.mk ?_; repeat' ((first | (with_reducible refine Go1.go ?_) | ((with_reducible first | refine brv_mk ?_ ?_ | refine gsplitD ?_ ?_ | refine gsplitG ?_ ?_) <;> intro h <;> (try simp only [Bool.not_eq_true', Bool.not_eq_false'] at h) <;> replace hb0 := h) | (refine And.intro ?ob ?_; case ob => ((try simp only [sxO, ne_eq, maxLen] at *); omega)) | fail) <;> (try simp (config := { maxSteps := 1000000 }) only [hb0, cE_ment, hasK_nil, cE_kill, cE_len, u32_one, u32_app1, u32_set, Nat.mul_one, fmSt, g2.one, bs_mk, bs_app, bs_ext, bs_size, bs_toList, bs_at, bs_cells, List.take_length, imp_ga, guard_pk, guard_pk2, ↓hold_pre, awayP, runOps, regK, step1, newK, genR, appR, obl, buildR, Value.cells, closeK, keepH, outV, retK, ret1, retC, RetV, Option.getD, runD, stepD, afterK, undef, simprocAttr, sxB, ↓sxD, sxE, sxTab]))
    exact ⟨n / 1000000000, fmSt M2 w2 (L.length + 1) (L ++ [n % 1000000000]), by omega, le_sub ⟨rfl, rfl, trivial⟩ ⟨rfl, trivial⟩ rfl rfl rfl (keepLt0 _), M2, w2, _, L ++ [n % 1000000000], rfl, hM1.trans g1, g2, by omega, by
      rw [valG_app, List.length_append, List.length_singleton, Nat.pow_succ, ← hval]
      simp only [valG, Nat.mul_zero, Nat.add_zero]
      conv => rhs; rw [← hq]
      generalize n / 1000000000 = a
      generalize n % 1000000000 = b
      grind, fun x hx => by
      rcases List.mem_append.1 hx with h | h
      · exact hL x h
      · rw [List.mem_singleton.1 h]; exact hr, by
      rw [List.length_append, List.length_singleton, Nat.pow_succ, Nat.mul_assoc]
      exact Nat.le_trans (Nat.mul_le_mul_left _ (by omega)) h2, by simp; omega, by simp [fmSt]⟩
def snSt (M : Mem) (u1 u2 : Value) (i : Nat) : St := { env := [(5, .ext (.int .i64 (i : Int))), (1, .ext u2), (0, .ext u1)], hp := [], M := M, kb := 0, fx := [] }
theorem sameNat_ok (u1 u2 : Value) (l : List Nat) (h1 : IsL M u32V u1 l) (h2 : IsL M u32V u2 l) (hb : l.length < 1000000000) (hK : K (.ext (.bool true)) [] M) : CallS Tryd.prog 42 [.ext u1, .ext u2] [] M [] K := by
  refine inlS (cs := []) Tryd.mixed Tryd.func42 rfl (by kernel_rfl) 0 rfl rfl ?_
  simp only [Tryd.f42]
  have hl2 : decide ((l.length : Int) = (l.length : Int)) = true := by simp
  (replace hb0 := true_and True); refine Go1.mk ?_; repeat' ((first | (with_reducible refine Go1.go ?_) | ((with_reducible first | refine brv_mk ?_ ?_ | refine gsplitD ?_ ?_ | refine gsplitG ?_ ?_) <;> intro h <;> (try simp only [Bool.not_eq_true', Bool.not_eq_false'] at h) <;> replace hb0 := h) | ((with_reducible refine isDraw [some 17, some 18, some 19, some 20, some 21, some 22, some 23, some 24, some 25] (by decide) ?_); refine draw_rule [(0, []), (1, []), (2, []), (3, []), (4, [3]), (5, [3]), (6, [3]), (7, [3]), (8, [])] [[], [], [0, 1], [0, 1, 2], [], [], [4, 5], [4, 5, 6], [0, 1, 2, 3, 4, 5, 6, 7]] [17, 18, 19, 20, 21, 22, 23, 24] [] (by kernel_rfl) (by kernel_rfl) (by kernel_rfl) (by kernel_rfl) (by exact trivial) ?_) | (refine And.intro ?ob ?_; case ob => ((try simp only [sxO, ne_eq, maxLen] at *); omega)) | fail) <;> (try simp (config := { maxSteps := 1000000 }) only [hb0, h1.len, h1.sl, h2.len, h2.sl, hl2, ↓hold_pre, awayP, runOps, regK, step1, newK, genR, appR, obl, buildR, Value.cells, closeK, keepH, outV, retK, ret1, retC, RetV, Option.getD, runD, stepD, afterK, undef, simprocAttr, sxB, ↓sxD, sxE, sxTab]))
  refine ⟨fun m z => ∃ i, i ≤ l.length ∧ m = l.length - i ∧ z = snSt M u1 u2 i, ⟨l.length, snSt M u1 u2 0, le_sub ⟨rfl, rfl, rfl, trivial⟩ trivial rfl rfl rfl (keepLt0 _), ⟨0, by omega, rfl, rfl⟩⟩, ?_⟩
  rintro m z ⟨i, hi, rfl, rfl⟩
  by_cases hlt : i < l.length
  · have f1 := h1.idx (P := Tryd.prog) (T := 70) tk70 tz70 (by omega) hlt
    have f2 := h2.idx (P := Tryd.prog) (T := 70) tk70 tz70 (by omega) hlt
    have d1 : decide ((l[i] : Int) = (l[i] : Int)) = true := by simp
    (replace hb0 := true_and True); refine Go1.mk ?_; repeat' ((first | (with_reducible refine Go1.go ?_) | ((with_reducible first | refine brv_mk ?_ ?_ | refine gsplitD ?_ ?_ | refine gsplitG ?_ ?_) <;> intro h <;> (try simp only [Bool.not_eq_true', Bool.not_eq_false'] at h) <;> replace hb0 := h) | ((with_reducible refine isDraw [some 17, some 18, some 19, some 20, some 21, some 22, some 23, some 24, some 25] (by decide) ?_); refine draw_rule [(0, []), (1, []), (2, []), (3, []), (4, [3]), (5, [3]), (6, [3]), (7, [3]), (8, [])] [[], [], [0, 1], [0, 1, 2], [], [], [4, 5], [4, 5, 6], [0, 1, 2, 3, 4, 5, 6, 7]] [17, 18, 19, 20, 21, 22, 23, 24] [] (by kernel_rfl) (by kernel_rfl) (by kernel_rfl) (by kernel_rfl) (by exact trivial) ?_) | (refine And.intro ?ob ?_; case ob => ((try simp only [sxO, ne_eq, maxLen] at *); omega)) | fail) <;> (try simp (config := { maxSteps := 1000000 }) only [hb0, f1, f2, d1, u32V, snSt, ↓hold_pre, awayP, runOps, regK, step1, newK, genR, appR, obl, buildR, Value.cells, closeK, keepH, outV, retK, ret1, retC, RetV, Option.getD, runD, stepD, afterK, undef, simprocAttr, sxB, ↓sxD, sxE, sxTab]))
    exact ⟨l.length - (i + 1), snSt M u1 u2 (i + 1), by omega, le_sub ⟨rfl, rfl, rfl, trivial⟩ trivial rfl rfl rfl (keepLt0 _), i + 1, by omega, rfl, rfl⟩
  · have f1 := h1.fin hlt
    obtain rfl : i = l.length := by omega
    (replace hb0 := true_and True); refine Go1.mk ?_; repeat' ((first | (with_reducible refine Go1.go ?_) | ((with_reducible first | refine brv_mk ?_ ?_ | refine gsplitD ?_ ?_ | refine gsplitG ?_ ?_) <;> intro h <;> (try simp only [Bool.not_eq_true', Bool.not_eq_false'] at h) <;> replace hb0 := h) | ((with_reducible refine isDraw [some 17, some 18, some 19, some 20, some 21, some 22, some 23, some 24, some 25] (by decide) ?_); refine draw_rule [(0, []), (1, []), (2, []), (3, []), (4, [3]), (5, [3]), (6, [3]), (7, [3]), (8, [])] [[], [], [0, 1], [0, 1, 2], [], [], [4, 5], [4, 5, 6], [0, 1, 2, 3, 4, 5, 6, 7]] [17, 18, 19, 20, 21, 22, 23, 24] [] (by kernel_rfl) (by kernel_rfl) (by kernel_rfl) (by kernel_rfl) (by exact trivial) ?_) | (refine And.intro ?ob ?_; case ob => ((try simp only [sxO, ne_eq, maxLen] at *); omega)) | fail) <;> (try simp (config := { maxSteps := 1000000 }) only [hb0, f1, snSt, ↓hold_pre, awayP, runOps, regK, step1, newK, genR, appR, obl, buildR, Value.cells, closeK, keepH, outV, retK, ret1, retC, RetV, Option.getD, runD, stepD, afterK, undef, simprocAttr, sxB, ↓sxD, sxE, sxTab]))
    exact hK
end
end Go.Proofs.YtamghpnjdohnjaaDoor.Sx
namespace Go.Proofs.YtamghpnjdohnjaaDoor.Sx
open Go Go.RowKit
set_option linter.unusedVariables false
set_option linter.unusedSimpArgs false
set_option maxRecDepth 100000
set_option maxHeartbeats 8000000
attribute [local congr] fin_congr finG_congr stepG_congr step1_congr runOps_congr brv_congr obl_congr condK_congr LoopK_congr seqK_congr CutK_congr vc_congr DrawK_congr regK_congr CallK_congr AskK_congr newK_congr retC_congr ret1_congr retK_congr outV_congr closeK_congr genR_congr appR_congr finD_congr finGD_congr stepGD_congr stepD_congr CallK0_congr runD_congr okR_congr CallS_congr vcX_congr
attribute [local congr] Stop_congr
def exF (n d : Nat) : Int × Nat × Nat := if (ofN (n / Nat.gcd n d)).length ≤ 128 ∧ (ofN (d / Nat.gcd n d)).length ≤ 128 then (0, n / Nat.gcd n d, d / Nat.gcd n d) else (2, 0, 0)
def makF (a b : List Nat) : Int × Nat × Nat := if chkN a && chkN b then (if valN b = 0 then (4, 0, 0) else exF (valN a) (valN b)) else (1, 0, 0)
def ofF (a b : Int) : Int × Nat × Nat := if a < 0 ∨ b < 0 then (5, 0, 0) else makF (ofN a.toNat) (ofN b.toNat)
def chkF (a b : List Nat) : Bool := chkN a && chkN b && !decide (valN b = 0) && (Nat.gcd (valN a) (valN b) == 1)
theorem exF_is {n d : Nat} (h1 : (ofN n).length ≤ 128) (h2 : (ofN d).length ≤ 128) : exF n d = (0, n / Nat.gcd n d, d / Nat.gcd n d) := by
  unfold exF
  have := len_mono (Nat.div_le_self n (Nat.gcd n d))
  have := len_mono (Nat.div_le_self d (Nat.gcd n d))
  rw [if_pos ⟨by omega, by omega⟩]
theorem chkF_ok {a b : List Nat} (ha : okN a) (hb : okN b) (h : chkF a b = true) : a = ofN (valN a) ∧ b = ofN (valN b) ∧ a.length ≤ 128 ∧ b.length ≤ 128 ∧ 0 < valN b ∧ Nat.gcd (valN a) (valN b) = 1 := by
  unfold chkF at h
  simp only [Bool.and_eq_true, Bool.not_eq_true', decide_eq_false_iff_not, beq_iff_eq] at h
  obtain ⟨⟨⟨h1, h2⟩, h3⟩, h4⟩ := h
  obtain ⟨e1, b1⟩ := chkN_ok ha h1
  obtain ⟨e2, b2⟩ := chkN_ok hb h2
  exact ⟨e1, e2, b1, b2, by omega, h4⟩
theorem nil_iff {l : List Nat} (h : l = ofN (valN l)) : l.length = 0 ↔ valN l = 0 := by
  constructor
  · intro h0
    rw [List.length_eq_zero_iff.1 h0]; rfl
  · intro h0
    rw [h, h0, ofN_zero]; rfl
def FracK (M : Mem) (K : AV → Hp → Mem → Prop) (r : Int × Nat × Nat) : Prop := ∀ w1 w2 M', Mem.le M M' → IsL M' u32V w1 (ofN r.2.1) → IsL M' u32V w2 (ofN r.2.2) → FreshS M w1 → FreshS M w2 → K (.ext (.tuple #[.agg #[w1, w2], .int .i64 r.1])) [] M'
section
variable {M : Mem} {K : AV → Hp → Mem → Prop} {u1 u2 : Value} {l1 l2 : List Nat}
theorem FracK.err {M' : Mem} (e : Int) (h : FracK M K (e, 0, 0)) (hM : Mem.le M M') : K (.ext (.tuple #[.agg #[.slice none 0 0, .slice none 0 0], .int .i64 e])) [] M' := h _ _ _ hM (by rw [ofN_zero]; exact isL_nil _ _ _) (by rw [ofN_zero]; exact isL_nil _ _ _) (freshS_nil _ _) (freshS_nil _ _)
theorem FracK.from {M' : Mem} {r : Int × Nat × Nat} (h : FracK M K r) (hM : Mem.le M M') : FracK M' K r := fun w1 w2 M2 a1 a2 a3 a4 a5 => h w1 w2 M2 (hM.trans a1) a2 a3 (a4.le hM) (a5.le hM)
theorem exact_ok (u v : Value) (n d : Nat) (hu : IsL M u32V u (ofN n)) (hv : IsL M u32V v (ofN d)) (hn : (ofN n).length < 1000000) (hd : (ofN d).length < 1000000) (hd0 : 0 < d) (hK : FracK M K (exF n d)) : CallS Tryd.prog 51 [.ext u, .ext v] [] M [] K := by
  refine inlS (cs := []) Tryd.mixed Tryd.func51 rfl (by kernel_rfl) 0 rfl rfl ?_
  simp only [Tryd.f51]
  unfold exF at hK
  have hg0 : 0 < Nat.gcd n d := Nat.gcd_pos_of_pos_right _ hd0
  have hgl := len_mono (Nat.gcd_le_right n hd0)
  have hn2 := len_mono (Nat.div_le_self n (Nat.gcd n d))
  have hd2 := len_mono (Nat.div_le_self d (Nat.gcd n d))
  (replace hb0 := true_and True); refine Go1.mk ?_; repeat' ((first | (with_reducible refine Go1.go ?_) | ((with_reducible first | refine brv_mk ?_ ?_ | refine gsplitD ?_ ?_ | refine gsplitG ?_ ?_) <;> intro h <;> (try simp only [Bool.not_eq_true', Bool.not_eq_false'] at h) <;> replace hb0 := h) | ((first | (with_reducible refine isCall (f := 56) ?_; refine callA_nil (by kernel_rfl) ?_) | (with_reducible refine isCall0 (f := 56) ?_; refine callA0_nil (by kernel_rfl) ?_)); refine (gcd_ok u v n d hu hv (by omega) (by omega) (fun g M1 a1 a2 a3 => Stop.mk ?_))) | (refine And.intro ?ob ?_; case ob => ((try simp only [sxO, ne_eq, maxLen] at *); omega)) | fail) <;> (try simp (config := { maxSteps := 1000000 }) only [hb0, hu.one, hv.one, ↓hold_pre, awayP, runOps, regK, step1, newK, genR, appR, obl, buildR, Value.cells, closeK, keepH, outV, retK, ret1, retC, RetV, Option.getD, runD, stepD, afterK, undef, simprocAttr, sxB, ↓sxD, sxE, sxTab]))
  have a1 : Mem.le M M1 := a1
  generalize Nat.gcd n d = gg at *
  have hu1 := hu.le a1
  have hv1 := hv.le a1
  refine Stop.go ?_
  (replace hb0 := true_and True); refine Go1.mk ?_; repeat' ((first | (with_reducible refine Go1.go ?_) | ((with_reducible first | refine brv_mk ?_ ?_ | refine gsplitD ?_ ?_ | refine gsplitG ?_ ?_) <;> intro h <;> (try simp only [Bool.not_eq_true', Bool.not_eq_false'] at h) <;> replace hb0 := h) | ((first | (with_reducible refine isCall (f := 77) ?_; refine callA_nil (by kernel_rfl) ?_) | (with_reducible refine isCall0 (f := 77) ?_; refine callA0_nil (by kernel_rfl) ?_)); refine (divide_ok u g n gg hu1 a2 (by omega) (by omega) hg0 (fun q1 r1 M2 b1 b2 b3 b4 b5 => Stop.mk ?_))) | (refine And.intro ?ob ?_; case ob => ((try simp only [sxO, ne_eq, maxLen] at *); omega)) | fail) <;> (try simp (config := { maxSteps := 1000000 }) only [hb0, hu1.one, hv1.one, a2.one, ↓hold_pre, awayP, runOps, regK, step1, newK, genR, appR, obl, buildR, Value.cells, closeK, keepH, outV, retK, ret1, retC, RetV, Option.getD, runD, stepD, afterK, undef, simprocAttr, sxB, ↓sxD, sxE, sxTab]))
  have b1 : Mem.le M1 M2 := b1
  have hv2 := hv1.le b1
  have a2' := a2.le b1
  refine Stop.go ?_
  (replace hb0 := true_and True); refine Go1.mk ?_; repeat' ((first | (with_reducible refine Go1.go ?_) | ((with_reducible first | refine brv_mk ?_ ?_ | refine gsplitD ?_ ?_ | refine gsplitG ?_ ?_) <;> intro h <;> (try simp only [Bool.not_eq_true', Bool.not_eq_false'] at h) <;> replace hb0 := h) | ((first | (with_reducible refine isCall (f := 77) ?_; refine callA_nil (by kernel_rfl) ?_) | (with_reducible refine isCall0 (f := 77) ?_; refine callA0_nil (by kernel_rfl) ?_)); refine (divide_ok v g d gg hv2 a2' (by omega) (by omega) hg0 (fun q2 r2 M3 c1 c2 c3 c4 c5 => Stop.mk ?_))) | (refine And.intro ?ob ?_; case ob => ((try simp only [sxO, ne_eq, maxLen] at *); omega)) | fail) <;> (try simp (config := { maxSteps := 1000000 }) only [hb0, hv2.one, a2'.one, b2.one, b3.one, ↓hold_pre, awayP, runOps, regK, step1, newK, genR, appR, obl, buildR, Value.cells, closeK, keepH, outV, retK, ret1, retC, RetV, Option.getD, runD, stepD, afterK, undef, simprocAttr, sxB, ↓sxD, sxE, sxTab]))
  have c1 : Mem.le M2 M3 := c1
  have b2' := b2.le c1
  have b3' := b3.le c1
  have hM := (a1.trans b1).trans c1
  refine Stop.go ?_
  by_cases h1 : (ofN (n / gg)).length ≤ 128
  · have d1 : decide ((128 : Int) < ((ofN (n / gg)).length : Int)) = false := by rw [decide_eq_false_iff_not]; omega
    by_cases h2 : (ofN (d / gg)).length ≤ 128
    · have d2 : decide ((128 : Int) < ((ofN (d / gg)).length : Int)) = false := by rw [decide_eq_false_iff_not]; omega
      rw [if_pos ⟨h1, h2⟩] at hK
      (replace hb0 := true_and True); refine Go1.mk ?_; repeat' ((first | (with_reducible refine Go1.go ?_) | ((with_reducible first | refine brv_mk ?_ ?_ | refine gsplitD ?_ ?_ | refine gsplitG ?_ ?_) <;> intro h <;> (try simp only [Bool.not_eq_true', Bool.not_eq_false'] at h) <;> replace hb0 := h) | (refine And.intro ?ob ?_; case ob => ((try simp only [sxO, ne_eq, maxLen] at *); omega)) | fail) <;> (try simp (config := { maxSteps := 1000000 }) only [hb0, b2'.one, b2'.len, b2'.sl, b3'.one, c2.one, c2.len, c2.sl, c3.one, d1, d2, ↓hold_pre, awayP, runOps, regK, step1, newK, genR, appR, obl, buildR, Value.cells, closeK, keepH, outV, retK, ret1, retC, RetV, Option.getD, runD, stepD, afterK, undef, simprocAttr, sxB, ↓sxD, sxE, sxTab]))
      exact hK _ _ _ hM b2' c2 (b4.le a1) (c4.le (a1.trans b1))
    · have d2 : decide ((128 : Int) < ((ofN (d / gg)).length : Int)) = true := by rw [decide_eq_true_eq]; omega
      rw [if_neg (fun h => h2 h.2)] at hK
      (replace hb0 := true_and True); refine Go1.mk ?_; repeat' ((first | (with_reducible refine Go1.go ?_) | ((with_reducible first | refine brv_mk ?_ ?_ | refine gsplitD ?_ ?_ | refine gsplitG ?_ ?_) <;> intro h <;> (try simp only [Bool.not_eq_true', Bool.not_eq_false'] at h) <;> replace hb0 := h) | (refine And.intro ?ob ?_; case ob => ((try simp only [sxO, ne_eq, maxLen] at *); omega)) | fail) <;> (try simp (config := { maxSteps := 1000000 }) only [hb0, b2'.one, b2'.len, b2'.sl, b3'.one, c2.one, c2.len, c2.sl, c3.one, d1, d2, ↓hold_pre, awayP, runOps, regK, step1, newK, genR, appR, obl, buildR, Value.cells, closeK, keepH, outV, retK, ret1, retC, RetV, Option.getD, runD, stepD, afterK, undef, simprocAttr, sxB, ↓sxD, sxE, sxTab]))
      exact hK.err _ hM
  · have d1 : decide ((128 : Int) < ((ofN (n / gg)).length : Int)) = true := by rw [decide_eq_true_eq]; omega
    rw [if_neg (fun h => h1 h.1)] at hK
    (replace hb0 := true_and True); refine Go1.mk ?_; repeat' ((first | (with_reducible refine Go1.go ?_) | ((with_reducible first | refine brv_mk ?_ ?_ | refine gsplitD ?_ ?_ | refine gsplitG ?_ ?_) <;> intro h <;> (try simp only [Bool.not_eq_true', Bool.not_eq_false'] at h) <;> replace hb0 := h) | (refine And.intro ?ob ?_; case ob => ((try simp only [sxO, ne_eq, maxLen] at *); omega)) | fail) <;> (try simp (config := { maxSteps := 1000000 }) only [hb0, b2'.one, b2'.len, b2'.sl, b3'.one, c2.one, c2.len, c2.sl, c3.one, d1, ↓hold_pre, awayP, runOps, regK, step1, newK, genR, appR, obl, buildR, Value.cells, closeK, keepH, outV, retK, ret1, retC, RetV, Option.getD, runD, stepD, afterK, undef, simprocAttr, sxB, ↓sxD, sxE, sxTab]))
    exact hK.err _ hM
theorem fmake_ok (h1 : IsL M u32V u1 l1) (h2 : IsL M u32V u2 l2) (o1 : okN l1) (o2 : okN l2) (b1 : l1.length < 1000000) (b2 : l2.length < 1000000) (hK : FracK M K (makF l1 l2)) : CallS Tryd.prog 10 [.ext u1, .ext u2] [] M [] K := by
  refine inlS (cs := []) Tryd.mixed Tryd.func10 rfl (by kernel_rfl) 0 rfl rfl ?_
  simp only [Tryd.f10]
  unfold makF at hK
  cases hc1 : chkN l1 with
  | false =>
    rw [hc1] at hK
    (replace hb0 := true_and True); refine Go1.mk ?_; repeat' ((first | (with_reducible refine Go1.go ?_) | ((with_reducible first | refine brv_mk ?_ ?_ | refine gsplitD ?_ ?_ | refine gsplitG ?_ ?_) <;> intro h <;> (try simp only [Bool.not_eq_true', Bool.not_eq_false'] at h) <;> replace hb0 := h) | ((first | (with_reducible refine isCall (f := 50) ?_; refine callA_nil (by kernel_rfl) ?_) | (with_reducible refine isCall0 (f := 50) ?_; refine callA0_nil (by kernel_rfl) ?_)); refine (check_ok u1 l1 h1 (by omega) ?_)) | (refine And.intro ?ob ?_; case ob => ((try simp only [sxO, ne_eq, maxLen] at *); omega)) | fail) <;> (try simp (config := { maxSteps := 1000000 }) only [hb0, h1.one, h2.one, hc1, ↓hold_pre, awayP, runOps, regK, step1, newK, genR, appR, obl, buildR, Value.cells, closeK, keepH, outV, retK, ret1, retC, RetV, Option.getD, runD, stepD, afterK, undef, simprocAttr, sxB, ↓sxD, sxE, sxTab]))
    exact hK.err _ (Mem.le.refl _)
  | true =>
    cases hc2 : chkN l2 with
    | false =>
      rw [hc1, hc2] at hK
      (replace hb0 := true_and True); refine Go1.mk ?_; repeat' ((first | (with_reducible refine Go1.go ?_) | ((with_reducible first | refine brv_mk ?_ ?_ | refine gsplitD ?_ ?_ | refine gsplitG ?_ ?_) <;> intro h <;> (try simp only [Bool.not_eq_true', Bool.not_eq_false'] at h) <;> replace hb0 := h) | ((first | (with_reducible refine isCall (f := 50) ?_; refine callA_nil (by kernel_rfl) ?_) | (with_reducible refine isCall0 (f := 50) ?_; refine callA0_nil (by kernel_rfl) ?_)); refine (check_ok u1 l1 h1 (by omega) ?_)) | ((first | (with_reducible refine isCall (f := 50) ?_; refine callA_nil (by kernel_rfl) ?_) | (with_reducible refine isCall0 (f := 50) ?_; refine callA0_nil (by kernel_rfl) ?_)); refine (check_ok u2 l2 h2 (by omega) ?_)) | (refine And.intro ?ob ?_; case ob => ((try simp only [sxO, ne_eq, maxLen] at *); omega)) | fail) <;> (try simp (config := { maxSteps := 1000000 }) only [hb0, h1.one, h2.one, hc1, hc2, ↓hold_pre, awayP, runOps, regK, step1, newK, genR, appR, obl, buildR, Value.cells, closeK, keepH, outV, retK, ret1, retC, RetV, Option.getD, runD, stepD, afterK, undef, simprocAttr, sxB, ↓sxD, sxE, sxTab]))
      exact hK.err _ (Mem.le.refl _)
    | true =>
      rw [hc1, hc2, Bool.and_self, if_pos rfl] at hK
      obtain ⟨e1, _⟩ := chkN_ok o1 hc1
      obtain ⟨e2, _⟩ := chkN_ok o2 hc2
      have h1' := h1
      have h2' := h2
      rw [e1] at h1'
      rw [e2] at h2'
      have hz := nil_iff e2
      by_cases h0 : valN l2 = 0
      · rw [if_pos h0] at hK
        have d1 : decide ((l2.length : Int) = 0) = true := by rw [decide_eq_true_eq]; have := hz.2 h0; omega
        (replace hb0 := true_and True); refine Go1.mk ?_; repeat' ((first | (with_reducible refine Go1.go ?_) | ((with_reducible first | refine brv_mk ?_ ?_ | refine gsplitD ?_ ?_ | refine gsplitG ?_ ?_) <;> intro h <;> (try simp only [Bool.not_eq_true', Bool.not_eq_false'] at h) <;> replace hb0 := h) | ((first | (with_reducible refine isCall (f := 50) ?_; refine callA_nil (by kernel_rfl) ?_) | (with_reducible refine isCall0 (f := 50) ?_; refine callA0_nil (by kernel_rfl) ?_)); refine (check_ok u1 l1 h1 (by omega) ?_)) | ((first | (with_reducible refine isCall (f := 50) ?_; refine callA_nil (by kernel_rfl) ?_) | (with_reducible refine isCall0 (f := 50) ?_; refine callA0_nil (by kernel_rfl) ?_)); refine (check_ok u2 l2 h2 (by omega) ?_)) | (refine And.intro ?ob ?_; case ob => ((try simp only [sxO, ne_eq, maxLen] at *); omega)) | fail) <;> (try simp (config := { maxSteps := 1000000 }) only [hb0, h1.one, h2.one, h2.len, h2.sl, hc1, hc2, d1, ↓hold_pre, awayP, runOps, regK, step1, newK, genR, appR, obl, buildR, Value.cells, closeK, keepH, outV, retK, ret1, retC, RetV, Option.getD, runD, stepD, afterK, undef, simprocAttr, sxB, ↓sxD, sxE, sxTab]))
        exact hK.err _ (Mem.le.refl _)
      · rw [if_neg h0] at hK
        have d1 : decide ((l2.length : Int) = 0) = false := by rw [decide_eq_false_iff_not]; have := fun h => h0 (hz.1 h); omega
        (replace hb0 := true_and True); refine Go1.mk ?_; repeat' ((first | (with_reducible refine Go1.go ?_) | ((with_reducible first | refine brv_mk ?_ ?_ | refine gsplitD ?_ ?_ | refine gsplitG ?_ ?_) <;> intro h <;> (try simp only [Bool.not_eq_true', Bool.not_eq_false'] at h) <;> replace hb0 := h) | ((first | (with_reducible refine isCall (f := 50) ?_; refine callA_nil (by kernel_rfl) ?_) | (with_reducible refine isCall0 (f := 50) ?_; refine callA0_nil (by kernel_rfl) ?_)); refine (check_ok u1 l1 h1 (by omega) ?_)) | ((first | (with_reducible refine isCall (f := 50) ?_; refine callA_nil (by kernel_rfl) ?_) | (with_reducible refine isCall0 (f := 50) ?_; refine callA0_nil (by kernel_rfl) ?_)); refine (check_ok u2 l2 h2 (by omega) ?_)) | ((first | (with_reducible refine isCall (f := 51) ?_; refine callA_nil (by kernel_rfl) ?_) | (with_reducible refine isCall0 (f := 51) ?_; refine callA0_nil (by kernel_rfl) ?_)); refine (exact_ok u1 u2 _ _ h1' h2' (by rw [← e1]; omega) (by rw [← e2]; omega) (by omega) (fun w1 w2 M1 a1 a2 a3 a4 a5 => Stop.mk ?_))) | (refine And.intro ?ob ?_; case ob => ((try simp only [sxO, ne_eq, maxLen] at *); omega)) | fail) <;> (try simp (config := { maxSteps := 1000000 }) only [hb0, h1.one, h2.one, h2.len, h2.sl, hc1, hc2, d1, ↓hold_pre, awayP, runOps, regK, step1, newK, genR, appR, obl, buildR, Value.cells, closeK, keepH, outV, retK, ret1, retC, RetV, Option.getD, runD, stepD, afterK, undef, simprocAttr, sxB, ↓sxD, sxE, sxTab]))
        refine Stop.go ?_
        (replace hb0 := true_and True); refine Go1.mk ?_; repeat' ((first | (with_reducible refine Go1.go ?_) | ((with_reducible first | refine brv_mk ?_ ?_ | refine gsplitD ?_ ?_ | refine gsplitG ?_ ?_) <;> intro h <;> (try simp only [Bool.not_eq_true', Bool.not_eq_false'] at h) <;> replace hb0 := h) | (refine And.intro ?ob ?_; case ob => ((try simp only [sxO, ne_eq, maxLen] at *); omega)) | fail) <;> (try simp (config := { maxSteps := 1000000 }) only [hb0, a2.one, a3.one, ↓hold_pre, awayP, runOps, regK, step1, newK, genR, appR, obl, buildR, Value.cells, closeK, keepH, outV, retK, ret1, retC, RetV, Option.getD, runD, stepD, afterK, undef, simprocAttr, sxB, ↓sxD, sxE, sxTab]))
        exact hK _ _ _ a1 a2 a3 a4 a5
theorem fof_ok (a b : Int) (ha : -9223372036854775808 ≤ a) (ha2 : a ≤ 9223372036854775807) (hb : -9223372036854775808 ≤ b) (hb2 : b ≤ 9223372036854775807) (hK : FracK M K (ofF a b)) : CallS Tryd.prog 13 [.ext (.int .i64 a), .ext (.int .i64 b)] [] M [] K := by
  refine inlS (cs := []) Tryd.mixed Tryd.func13 rfl (by kernel_rfl) 0 rfl rfl ?_
  simp only [Tryd.f13]
  unfold ofF at hK
  by_cases h1 : a < 0
  · have d1 : decide (a < 0) = true := by rw [decide_eq_true_eq]; exact h1
    rw [if_pos (.inl h1)] at hK
    (replace hb0 := true_and True); refine Go1.mk ?_; repeat' ((first | (with_reducible refine Go1.go ?_) | ((with_reducible first | refine brv_mk ?_ ?_ | refine gsplitD ?_ ?_ | refine gsplitG ?_ ?_) <;> intro h <;> (try simp only [Bool.not_eq_true', Bool.not_eq_false'] at h) <;> replace hb0 := h) | (refine And.intro ?ob ?_; case ob => ((try simp only [sxO, ne_eq, maxLen] at *); omega)) | fail) <;> (try simp (config := { maxSteps := 1000000 }) only [hb0, d1, ↓hold_pre, awayP, runOps, regK, step1, newK, genR, appR, obl, buildR, Value.cells, closeK, keepH, outV, retK, ret1, retC, RetV, Option.getD, runD, stepD, afterK, undef, simprocAttr, sxB, ↓sxD, sxE, sxTab]))
    exact hK.err _ (Mem.le.refl _)
  have d1 : decide (a < 0) = false := by rw [decide_eq_false_iff_not]; exact h1
  by_cases h2 : b < 0
  · have d2 : decide (b < 0) = true := by rw [decide_eq_true_eq]; exact h2
    rw [if_pos (.inr h2)] at hK
    (replace hb0 := true_and True); refine Go1.mk ?_; repeat' ((first | (with_reducible refine Go1.go ?_) | ((with_reducible first | refine brv_mk ?_ ?_ | refine gsplitD ?_ ?_ | refine gsplitG ?_ ?_) <;> intro h <;> (try simp only [Bool.not_eq_true', Bool.not_eq_false'] at h) <;> replace hb0 := h) | (refine And.intro ?ob ?_; case ob => ((try simp only [sxO, ne_eq, maxLen] at *); omega)) | fail) <;> (try simp (config := { maxSteps := 1000000 }) only [hb0, d1, d2, ↓hold_pre, awayP, runOps, regK, step1, newK, genR, appR, obl, buildR, Value.cells, closeK, keepH, outV, retK, ret1, retC, RetV, Option.getD, runD, stepD, afterK, undef, simprocAttr, sxB, ↓sxD, sxE, sxTab]))
    exact hK.err _ (Mem.le.refl _)
  have d2 : decide (b < 0) = false := by rw [decide_eq_false_iff_not]; exact h2
  rw [if_neg (by omega)] at hK
  obtain ⟨x, rfl⟩ := Int.eq_ofNat_of_zero_le (show 0 ≤ a by omega)
  obtain ⟨y, rfl⟩ := Int.eq_ofNat_of_zero_le (show 0 ≤ b by omega)
  have wx : IntKind.u64.wrap (x : Int) = (x : Int) := wrap64_id (by omega)
  have wy : IntKind.u64.wrap (y : Int) = (y : Int) := wrap64_id (by omega)
  have hxl : (ofN x).length ≤ 2 := ofN_len_le (by rw [show wN 2 = 18446744073709551616 from rfl]; omega)
  have hyl : (ofN y).length ≤ 2 := ofN_len_le (by rw [show wN 2 = 18446744073709551616 from rfl]; omega)
  rw [Int.toNat_natCast, Int.toNat_natCast] at hK
  (replace hb0 := true_and True); refine Go1.mk ?_; repeat' ((first | (with_reducible refine Go1.go ?_) | ((with_reducible first | refine brv_mk ?_ ?_ | refine gsplitD ?_ ?_ | refine gsplitG ?_ ?_) <;> intro h <;> (try simp only [Bool.not_eq_true', Bool.not_eq_false'] at h) <;> replace hb0 := h) | ((first | (with_reducible refine isCall (f := 54) ?_; refine callA_nil (by kernel_rfl) ?_) | (with_reducible refine isCall0 (f := 54) ?_; refine callA0_nil (by kernel_rfl) ?_)); refine (natOf_ok x (by omega) (fun w1 M1 a1 a2 a3 => Stop.mk ?_))) | (refine And.intro ?ob ?_; case ob => ((try simp only [sxO, ne_eq, maxLen] at *); omega)) | fail) <;> (try simp (config := { maxSteps := 1000000 }) only [hb0, d1, d2, wx, wy, ↓hold_pre, awayP, runOps, regK, step1, newK, genR, appR, obl, buildR, Value.cells, closeK, keepH, outV, retK, ret1, retC, RetV, Option.getD, runD, stepD, afterK, undef, simprocAttr, sxB, ↓sxD, sxE, sxTab]))
  have a1 : Mem.le M M1 := a1
  refine Stop.go ?_
  (replace hb0 := true_and True); refine Go1.mk ?_; repeat' ((first | (with_reducible refine Go1.go ?_) | ((with_reducible first | refine brv_mk ?_ ?_ | refine gsplitD ?_ ?_ | refine gsplitG ?_ ?_) <;> intro h <;> (try simp only [Bool.not_eq_true', Bool.not_eq_false'] at h) <;> replace hb0 := h) | ((first | (with_reducible refine isCall (f := 54) ?_; refine callA_nil (by kernel_rfl) ?_) | (with_reducible refine isCall0 (f := 54) ?_; refine callA0_nil (by kernel_rfl) ?_)); refine (natOf_ok y (by omega) (fun w2 M2 b1 b2 b3 => Stop.mk ?_))) | (refine And.intro ?ob ?_; case ob => ((try simp only [sxO, ne_eq, maxLen] at *); omega)) | fail) <;> (try simp (config := { maxSteps := 1000000 }) only [hb0, a2.one, wy, ↓hold_pre, awayP, runOps, regK, step1, newK, genR, appR, obl, buildR, Value.cells, closeK, keepH, outV, retK, ret1, retC, RetV, Option.getD, runD, stepD, afterK, undef, simprocAttr, sxB, ↓sxD, sxE, sxTab]))
  have b1 : Mem.le M1 M2 := b1
  have a2' := a2.le b1
  refine Stop.go ?_
  (replace hb0 := true_and True); refine Go1.mk ?_; repeat' ((first | (with_reducible refine Go1.go ?_) | ((with_reducible first | refine brv_mk ?_ ?_ | refine gsplitD ?_ ?_ | refine gsplitG ?_ ?_) <;> intro h <;> (try simp only [Bool.not_eq_true', Bool.not_eq_false'] at h) <;> replace hb0 := h) | ((first | (with_reducible refine isCall (f := 10) ?_; refine callA_nil (by kernel_rfl) ?_) | (with_reducible refine isCall0 (f := 10) ?_; refine callA0_nil (by kernel_rfl) ?_)); refine (fmake_ok a2' b2 (okN_ofN _) (okN_ofN _) (by omega) (by omega) (fun w3 w4 M3 c1 c2 c3 c4 c5 => Stop.mk ?_))) | (refine And.intro ?ob ?_; case ob => ((try simp only [sxO, ne_eq, maxLen] at *); omega)) | fail) <;> (try simp (config := { maxSteps := 1000000 }) only [hb0, a2'.one, b2.one, ↓hold_pre, awayP, runOps, regK, step1, newK, genR, appR, obl, buildR, Value.cells, closeK, keepH, outV, retK, ret1, retC, RetV, Option.getD, runD, stepD, afterK, undef, simprocAttr, sxB, ↓sxD, sxE, sxTab]))
  have c1 : Mem.le M2 M3 := c1
  refine Stop.go ?_
  (replace hb0 := true_and True); refine Go1.mk ?_; repeat' ((first | (with_reducible refine Go1.go ?_) | ((with_reducible first | refine brv_mk ?_ ?_ | refine gsplitD ?_ ?_ | refine gsplitG ?_ ?_) <;> intro h <;> (try simp only [Bool.not_eq_true', Bool.not_eq_false'] at h) <;> replace hb0 := h) | (refine And.intro ?ob ?_; case ob => ((try simp only [sxO, ne_eq, maxLen] at *); omega)) | fail) <;> (try simp (config := { maxSteps := 1000000 }) only [hb0, c2.one, c3.one, ↓hold_pre, awayP, runOps, regK, step1, newK, genR, appR, obl, buildR, Value.cells, closeK, keepH, outV, retK, ret1, retC, RetV, Option.getD, runD, stepD, afterK, undef, simprocAttr, sxB, ↓sxD, sxE, sxTab]))
  exact hK _ _ _ ((a1.trans b1).trans c1) c2 c3 (c4.le (a1.trans b1)) (c5.le (a1.trans b1))
theorem one_iff (g : Nat) : (g = 1) ↔ ((ofN g).length = 1 ∧ (ofN g).getD 0 0 = 1) := by
  constructor
  · rintro rfl
    have : ofN 1 = [1] := by rw [ofN_pos (by decide), show 1 / 4294967296 = 0 from rfl, ofN_zero]
    rw [this]; simp
  · rintro ⟨h1, h2⟩
    have := valN_ofN g
    generalize ofN g = l at *
    match l, h1 with
    | [a], _ => simp [valN] at this h2; omega
theorem fcheck_ok (h1 : IsL M u32V u1 l1) (h2 : IsL M u32V u2 l2) (o1 : okN l1) (o2 : okN l2) (b1 : l1.length < 1000000) (b2 : l2.length < 1000000) (hK : ∀ M', Mem.le M M' → K (.ext (.bool (chkF l1 l2))) [] M') : CallS Tryd.prog 16 [.ext (.agg #[u1, u2])] [] M [] K := by
  refine inlS (cs := []) Tryd.mixed Tryd.func16 rfl (by kernel_rfl) 0 rfl rfl ?_
  simp only [Tryd.f16]
  unfold chkF at hK
  cases hc1 : chkN l1 with
  | false =>
    rw [hc1] at hK
    (replace hb0 := true_and True); refine Go1.mk ?_; repeat' ((first | (with_reducible refine Go1.go ?_) | ((with_reducible first | refine brv_mk ?_ ?_ | refine gsplitD ?_ ?_ | refine gsplitG ?_ ?_) <;> intro h <;> (try simp only [Bool.not_eq_true', Bool.not_eq_false'] at h) <;> replace hb0 := h) | ((first | (with_reducible refine isCall (f := 50) ?_; refine callA_nil (by kernel_rfl) ?_) | (with_reducible refine isCall0 (f := 50) ?_; refine callA0_nil (by kernel_rfl) ?_)); refine (check_ok u1 l1 h1 (by omega) ?_)) | (refine And.intro ?ob ?_; case ob => ((try simp only [sxO, ne_eq, maxLen] at *); omega)) | fail) <;> (try simp (config := { maxSteps := 1000000 }) only [hb0, h1.one, h2.one, hc1, ↓hold_pre, awayP, runOps, regK, step1, newK, genR, appR, obl, buildR, Value.cells, closeK, keepH, outV, retK, ret1, retC, RetV, Option.getD, runD, stepD, afterK, undef, simprocAttr, sxB, ↓sxD, sxE, sxTab]))
    exact hK _ (Mem.le.refl _)
  | true =>
    cases hc2 : chkN l2 with
    | false =>
      rw [hc1, hc2] at hK
      (replace hb0 := true_and True); refine Go1.mk ?_; repeat' ((first | (with_reducible refine Go1.go ?_) | ((with_reducible first | refine brv_mk ?_ ?_ | refine gsplitD ?_ ?_ | refine gsplitG ?_ ?_) <;> intro h <;> (try simp only [Bool.not_eq_true', Bool.not_eq_false'] at h) <;> replace hb0 := h) | ((first | (with_reducible refine isCall (f := 50) ?_; refine callA_nil (by kernel_rfl) ?_) | (with_reducible refine isCall0 (f := 50) ?_; refine callA0_nil (by kernel_rfl) ?_)); refine (check_ok u1 l1 h1 (by omega) ?_)) | ((first | (with_reducible refine isCall (f := 50) ?_; refine callA_nil (by kernel_rfl) ?_) | (with_reducible refine isCall0 (f := 50) ?_; refine callA0_nil (by kernel_rfl) ?_)); refine (check_ok u2 l2 h2 (by omega) ?_)) | (refine And.intro ?ob ?_; case ob => ((try simp only [sxO, ne_eq, maxLen] at *); omega)) | fail) <;> (try simp (config := { maxSteps := 1000000 }) only [hb0, h1.one, h2.one, hc1, hc2, ↓hold_pre, awayP, runOps, regK, step1, newK, genR, appR, obl, buildR, Value.cells, closeK, keepH, outV, retK, ret1, retC, RetV, Option.getD, runD, stepD, afterK, undef, simprocAttr, sxB, ↓sxD, sxE, sxTab]))
      exact hK _ (Mem.le.refl _)
    | true =>
      obtain ⟨e1, _⟩ := chkN_ok o1 hc1
      obtain ⟨e2, _⟩ := chkN_ok o2 hc2
      have h1' := h1
      have h2' := h2
      rw [e1] at h1'
      rw [e2] at h2'
      have hz := nil_iff e2
      by_cases h0 : valN l2 = 0
      · rw [hc1, hc2, decide_eq_true h0] at hK
        have d1 : decide ((l2.length : Int) = 0) = true := by rw [decide_eq_true_eq]; have := hz.2 h0; omega
        (replace hb0 := true_and True); refine Go1.mk ?_; repeat' ((first | (with_reducible refine Go1.go ?_) | ((with_reducible first | refine brv_mk ?_ ?_ | refine gsplitD ?_ ?_ | refine gsplitG ?_ ?_) <;> intro h <;> (try simp only [Bool.not_eq_true', Bool.not_eq_false'] at h) <;> replace hb0 := h) | ((first | (with_reducible refine isCall (f := 50) ?_; refine callA_nil (by kernel_rfl) ?_) | (with_reducible refine isCall0 (f := 50) ?_; refine callA0_nil (by kernel_rfl) ?_)); refine (check_ok u1 l1 h1 (by omega) ?_)) | ((first | (with_reducible refine isCall (f := 50) ?_; refine callA_nil (by kernel_rfl) ?_) | (with_reducible refine isCall0 (f := 50) ?_; refine callA0_nil (by kernel_rfl) ?_)); refine (check_ok u2 l2 h2 (by omega) ?_)) | (refine And.intro ?ob ?_; case ob => ((try simp only [sxO, ne_eq, maxLen] at *); omega)) | fail) <;> (try simp (config := { maxSteps := 1000000 }) only [hb0, h1.one, h2.one, h2.len, h2.sl, hc1, hc2, d1, ↓hold_pre, awayP, runOps, regK, step1, newK, genR, appR, obl, buildR, Value.cells, closeK, keepH, outV, retK, ret1, retC, RetV, Option.getD, runD, stepD, afterK, undef, simprocAttr, sxB, ↓sxD, sxE, sxTab]))
        exact hK _ (Mem.le.refl _)
      have d1 : decide ((l2.length : Int) = 0) = false := by rw [decide_eq_false_iff_not]; have := fun h => h0 (hz.1 h); omega
      rw [hc1, hc2, decide_eq_false h0] at hK
      (replace hb0 := true_and True); refine Go1.mk ?_; repeat' ((first | (with_reducible refine Go1.go ?_) | ((with_reducible first | refine brv_mk ?_ ?_ | refine gsplitD ?_ ?_ | refine gsplitG ?_ ?_) <;> intro h <;> (try simp only [Bool.not_eq_true', Bool.not_eq_false'] at h) <;> replace hb0 := h) | ((first | (with_reducible refine isCall (f := 50) ?_; refine callA_nil (by kernel_rfl) ?_) | (with_reducible refine isCall0 (f := 50) ?_; refine callA0_nil (by kernel_rfl) ?_)); refine (check_ok u1 l1 h1 (by omega) ?_)) | ((first | (with_reducible refine isCall (f := 50) ?_; refine callA_nil (by kernel_rfl) ?_) | (with_reducible refine isCall0 (f := 50) ?_; refine callA0_nil (by kernel_rfl) ?_)); refine (check_ok u2 l2 h2 (by omega) ?_)) | ((first | (with_reducible refine isCall (f := 56) ?_; refine callA_nil (by kernel_rfl) ?_) | (with_reducible refine isCall0 (f := 56) ?_; refine callA0_nil (by kernel_rfl) ?_)); refine (gcd_ok u1 u2 _ _ h1' h2' (by rw [← e1]; omega) (by rw [← e2]; omega) (fun g M1 a1 a2 a3 => Stop.mk ?_))) | (refine And.intro ?ob ?_; case ob => ((try simp only [sxO, ne_eq, maxLen] at *); omega)) | fail) <;> (try simp (config := { maxSteps := 1000000 }) only [hb0, h1.one, h2.one, h2.len, h2.sl, hc1, hc2, d1, ↓hold_pre, awayP, runOps, regK, step1, newK, genR, appR, obl, buildR, Value.cells, closeK, keepH, outV, retK, ret1, retC, RetV, Option.getD, runD, stepD, afterK, undef, simprocAttr, sxB, ↓sxD, sxE, sxTab]))
      have a1 : Mem.le M M1 := a1
      have hgl := len_mono (Nat.gcd_le_right (valN l1) (show 0 < valN l2 by omega))
      rw [← e2] at hgl
      have hiff := one_iff (Nat.gcd (valN l1) (valN l2))
      refine Stop.go ?_
      obtain ⟨gg, hgg⟩ : ∃ gg, gg = Nat.gcd (valN l1) (valN l2) := ⟨_, rfl⟩
      rw [← hgg] at hK hgl hiff a2
      clear hgg
      by_cases hl : (ofN gg).length = 1
      · have d2 : decide (((ofN gg).length : Int) = 1) = true := by rw [decide_eq_true_eq]; omega
        have hyi := a2.idx (P := Tryd.prog) (T := 70) tk70 tz70 (by omega) (show 0 < (ofN gg).length by omega)
        have hat : (ofN gg).getD 0 0 = (ofN gg)[0] := by simp [List.getD_eq_getElem?_getD, hl]
        rw [hat] at hiff
        have d3 : decide ((((ofN gg)[0] : Nat) : Int) = 1) = (gg == 1) := by
          rw [Bool.eq_iff_iff, decide_eq_true_eq, beq_iff_eq, hiff]
          constructor
          · intro h; exact ⟨hl, by omega⟩
          · intro h; omega
        generalize (ofN gg)[0] = g0 at *
        (replace hb0 := true_and True); refine Go1.mk ?_; repeat' ((first | (with_reducible refine Go1.go ?_) | ((with_reducible first | refine brv_mk ?_ ?_ | refine gsplitD ?_ ?_ | refine gsplitG ?_ ?_) <;> intro h <;> (try simp only [Bool.not_eq_true', Bool.not_eq_false'] at h) <;> replace hb0 := h) | (refine And.intro ?ob ?_; case ob => ((try simp only [sxO, ne_eq, maxLen] at *); omega)) | fail) <;> (try simp (config := { maxSteps := 1000000 }) only [hb0, u32V, a2.one, a2.len, a2.sl, d2, d3, hyi, Int.natCast_zero, Int.cast_ofNat_Int, ↓hold_pre, awayP, runOps, regK, step1, newK, genR, appR, obl, buildR, Value.cells, closeK, keepH, outV, retK, ret1, retC, RetV, Option.getD, runD, stepD, afterK, undef, simprocAttr, sxB, ↓sxD, sxE, sxTab]))
        exact hK _ a1
      · have d2 : decide (((ofN gg).length : Int) = 1) = false := by rw [decide_eq_false_iff_not]; omega
        rw [show (gg == 1) = false from beq_eq_false_iff_ne.2 (fun h => hl (hiff.1 h).1)] at hK
        (replace hb0 := true_and True); refine Go1.mk ?_; repeat' ((first | (with_reducible refine Go1.go ?_) | ((with_reducible first | refine brv_mk ?_ ?_ | refine gsplitD ?_ ?_ | refine gsplitG ?_ ?_) <;> intro h <;> (try simp only [Bool.not_eq_true', Bool.not_eq_false'] at h) <;> replace hb0 := h) | (refine And.intro ?ob ?_; case ob => ((try simp only [sxO, ne_eq, maxLen] at *); omega)) | fail) <;> (try simp (config := { maxSteps := 1000000 }) only [hb0, a2.one, a2.len, a2.sl, d2, ↓hold_pre, awayP, runOps, regK, step1, newK, genR, appR, obl, buildR, Value.cells, closeK, keepH, outV, retK, ret1, retC, RetV, Option.getD, runD, stepD, afterK, undef, simprocAttr, sxB, ↓sxD, sxE, sxTab]))
        exact hK _ a1
def CrossK (M : Mem) (K : AV → Hp → Mem → Prop) (x y : Nat) : Prop := ∀ w1 w2 M', Mem.le M M' → IsL M' u32V w1 (ofN x) → IsL M' u32V w2 (ofN y) → FreshS M w1 → FreshS M w2 → K (.ext (.tuple #[w1, w2])) [] M'
theorem cross_ok {v1 v2 : Value} {n1 d1 n2 d2 : Nat} (h1 : IsL M u32V u1 (ofN n1)) (h2 : IsL M u32V u2 (ofN d1)) (k1 : IsL M u32V v1 (ofN n2)) (k2 : IsL M u32V v2 (ofN d2)) (b1 : (ofN n1).length < 1000000) (b2 : (ofN d1).length < 1000000) (b3 : (ofN n2).length < 1000000) (b4 : (ofN d2).length < 1000000) (hK : CrossK M K (n1 * d2) (n2 * d1)) : CallS Tryd.prog 61 [.ext (.agg #[u1, u2]), .ext (.agg #[v1, v2])] [] M [] K := by
  refine inlS (cs := []) Tryd.mixed Tryd.func61 rfl (by kernel_rfl) 0 rfl rfl ?_
  simp only [Tryd.f61]
  (replace hb0 := true_and True); refine Go1.mk ?_; repeat' ((first | (with_reducible refine Go1.go ?_) | ((with_reducible first | refine brv_mk ?_ ?_ | refine gsplitD ?_ ?_ | refine gsplitG ?_ ?_) <;> intro h <;> (try simp only [Bool.not_eq_true', Bool.not_eq_false'] at h) <;> replace hb0 := h) | ((first | (with_reducible refine isCall (f := 64) ?_; refine callA_nil (by kernel_rfl) ?_) | (with_reducible refine isCall0 (f := 64) ?_; refine callA0_nil (by kernel_rfl) ?_)); refine (mul_ok u1 v2 n1 d2 h1 k2 (by omega) (by omega) (fun w1 M1 a1 a2 a3 => Stop.mk ?_))) | ((with_reducible refine isDraw [some 6, some 7, some 8, some 9, some 10, some 11, some 12, some 13, some 14, some 15, some 4, some 5] (by decide) ?_); refine draw_rule [(0, []), (1, []), (2, [1]), (3, [1]), (5, [1, 3]), (6, [1, 3]), (7, [1, 3, 6]), (8, [1, 3, 6]), (4, [6, 8]), (9, []), (10, []), (11, [])] [[], [0], [], [2], [0, 1, 2, 3], [], [5], [], [7], [0, 1, 2, 3, 4, 5, 6, 7, 8], [0, 1, 2, 3, 4, 5, 6, 7, 8, 9], [0, 1, 2, 3, 4, 5, 6, 7, 8, 9, 10]] [6, 7, 8, 9, 10, 11, 12, 13, 14] [] (by kernel_rfl) (by kernel_rfl) (by kernel_rfl) (by kernel_rfl) (by exact trivial) ?_) | (refine And.intro ?ob ?_; case ob => ((try simp only [sxO, ne_eq, maxLen] at *); omega)) | fail) <;> (try simp (config := { maxSteps := 1000000 }) only [hb0, h1.one, h2.one, k1.one, k2.one, ↓hold_pre, awayP, runOps, regK, step1, newK, genR, appR, obl, buildR, Value.cells, closeK, keepH, outV, retK, ret1, retC, RetV, Option.getD, runD, stepD, afterK, undef, simprocAttr, sxB, ↓sxD, sxE, sxTab]))
  have a1 : Mem.le M M1 := a1
  have h1' := h1.le a1
  have h2' := h2.le a1
  have k1' := k1.le a1
  have k2' := k2.le a1
  refine Stop.go ?_
  (replace hb0 := true_and True); refine Go1.mk ?_; repeat' ((first | (with_reducible refine Go1.go ?_) | ((with_reducible first | refine brv_mk ?_ ?_ | refine gsplitD ?_ ?_ | refine gsplitG ?_ ?_) <;> intro h <;> (try simp only [Bool.not_eq_true', Bool.not_eq_false'] at h) <;> replace hb0 := h) | ((first | (with_reducible refine isCall (f := 64) ?_; refine callA_nil (by kernel_rfl) ?_) | (with_reducible refine isCall0 (f := 64) ?_; refine callA0_nil (by kernel_rfl) ?_)); refine (mul_ok v1 u2 n2 d1 k1' h2' (by omega) (by omega) (fun w2 M2 c1 c2 c3 => Stop.mk ?_))) | ((with_reducible refine isDraw [some 6, some 7, some 8, some 9, some 10, some 11, some 12, some 13, some 14, some 15, some 4, some 5] (by decide) ?_); refine draw_rule [(0, []), (1, []), (2, [1]), (3, [1]), (5, [1, 3]), (6, [1, 3]), (7, [1, 3, 6]), (8, [1, 3, 6]), (4, [6, 8]), (9, []), (10, []), (11, [])] [[], [0], [], [2], [0, 1, 2, 3], [], [5], [], [7], [0, 1, 2, 3, 4, 5, 6, 7, 8], [0, 1, 2, 3, 4, 5, 6, 7, 8, 9], [0, 1, 2, 3, 4, 5, 6, 7, 8, 9, 10]] [6, 7, 8, 9, 10, 11, 12, 13, 14] [] (by kernel_rfl) (by kernel_rfl) (by kernel_rfl) (by kernel_rfl) (by exact trivial) ?_) | (refine And.intro ?ob ?_; case ob => ((try simp only [sxO, ne_eq, maxLen] at *); omega)) | fail) <;> (try simp (config := { maxSteps := 1000000 }) only [hb0, h1'.one, h2'.one, k1'.one, k2'.one, a2.one, ↓hold_pre, awayP, runOps, regK, step1, newK, genR, appR, obl, buildR, Value.cells, closeK, keepH, outV, retK, ret1, retC, RetV, Option.getD, runD, stepD, afterK, undef, simprocAttr, sxB, ↓sxD, sxE, sxTab]))
  have c1 : Mem.le M1 M2 := c1
  refine Stop.go ?_
  (replace hb0 := true_and True); refine Go1.mk ?_; repeat' ((first | (with_reducible refine Go1.go ?_) | ((with_reducible first | refine brv_mk ?_ ?_ | refine gsplitD ?_ ?_ | refine gsplitG ?_ ?_) <;> intro h <;> (try simp only [Bool.not_eq_true', Bool.not_eq_false'] at h) <;> replace hb0 := h) | (refine And.intro ?ob ?_; case ob => ((try simp only [sxO, ne_eq, maxLen] at *); omega)) | fail) <;> (try simp (config := { maxSteps := 1000000 }) only [hb0, a2.one, c2.one, ↓hold_pre, awayP, runOps, regK, step1, newK, genR, appR, obl, buildR, Value.cells, closeK, keepH, outV, retK, ret1, retC, RetV, Option.getD, runD, stepD, afterK, undef, simprocAttr, sxB, ↓sxD, sxE, sxTab]))
  exact hK _ _ _ (a1.trans c1) (a2.le c1) c2 a3 (c3.le a1)
end
end Go.Proofs.YtamghpnjdohnjaaDoor.Sx
namespace Go.Proofs.YtamghpnjdohnjaaDoor.Sx
open Go Go.RowKit
set_option linter.unusedVariables false
set_option linter.unusedSimpArgs false
set_option maxRecDepth 100000
set_option maxHeartbeats 8000000
attribute [local congr] fin_congr finG_congr stepG_congr step1_congr runOps_congr brv_congr obl_congr condK_congr LoopK_congr seqK_congr CutK_congr vc_congr DrawK_congr regK_congr CallK_congr AskK_congr newK_congr retC_congr ret1_congr retK_congr outV_congr closeK_congr genR_congr appR_congr finD_congr finGD_congr stepGD_congr stepD_congr CallK0_congr runD_congr okR_congr CallS_congr vcX_congr
attribute [local congr] Stop_congr
structure IsF (M : Mem) (u1 u2 : Value) (l1 l2 : List Nat) : Prop where
  n : IsL M u32V u1 l1
  d : IsL M u32V u2 l2
  on : okN l1
  od : okN l2
  bn : l1.length < 1000000
  bd : l2.length < 1000000
theorem IsF.le {M M' : Mem} {u1 u2 : Value} {l1 l2 : List Nat} (h : IsF M u1 u2 l1 l2) (hM : Mem.le M M') : IsF M' u1 u2 l1 l2 := ⟨h.n.le hM, h.d.le hM, h.on, h.od, h.bn, h.bd⟩
theorem IsF.num {M : Mem} {u1 u2 : Value} {l1 l2 : List Nat} (h : IsF M u1 u2 l1 l2) (hc : chkF l1 l2 = true) : ∃ n d, IsL M u32V u1 (ofN n) ∧ IsL M u32V u2 (ofN d) ∧ valN l1 = n ∧ valN l2 = d ∧ (ofN n).length ≤ 128 ∧ (ofN d).length ≤ 128 ∧ 0 < d := by
  obtain ⟨e1, e2, b1, b2, h0, _⟩ := chkF_ok h.on h.od hc
  refine ⟨valN l1, valN l2, ?_, ?_, rfl, rfl, ?_, ?_, h0⟩
  · rw [← e1]; exact h.n
  · rw [← e2]; exact h.d
  · rw [← e1]; exact b1
  · rw [← e2]; exact b2
theorem mul_len (x y : Nat) : (ofN (x * y)).length ≤ (ofN x).length + (ofN y).length := ofN_len_le (by
  rw [wN_add]
  exact Nat.mul_lt_mul_of_lt_of_lt (ofN_len_lt (Nat.le_refl _)) (ofN_len_lt (Nat.le_refl _)))
theorem add_len {x y k : Nat} (h1 : (ofN x).length ≤ k) (h2 : (ofN y).length ≤ k) : (ofN (x + y)).length ≤ k + 1 := ofN_len_le (by
  have := ofN_len_lt h1
  have := ofN_len_lt h2
  rw [wN_succ]; omega)
def addF (a b c d : List Nat) : Int × Nat × Nat := if chkF a b && chkF c d then exF (valN a * valN d + valN c * valN b) (valN b * valN d) else (1, 0, 0)
def subF (a b c d : List Nat) : Int × Nat × Nat := if chkF a b && chkF c d then (if valN a * valN d < valN c * valN b then (5, 0, 0) else exF (valN a * valN d - valN c * valN b) (valN b * valN d)) else (1, 0, 0)
def mulF (a b c d : List Nat) : Int × Nat × Nat := if chkF a b && chkF c d then exF (valN a * valN c) (valN b * valN d) else (1, 0, 0)
def divF (a b c d : List Nat) : Int × Nat × Nat := if chkF a b && chkF c d then (if valN c = 0 then (4, 0, 0) else exF (valN a * valN d) (valN c * valN b)) else (1, 0, 0)
def cmpF (a b c d : List Nat) : Int := if chkF a b && chkF c d then cmpN (valN a * valN d) (valN c * valN b) else 0
section
variable {M : Mem} {K : AV → Hp → Mem → Prop} {u1 u2 v1 v2 : Value} {l1 l2 k1 k2 : List Nat}
theorem fcmp_ok (ha : IsF M u1 u2 l1 l2) (hb : IsF M v1 v2 k1 k2) (hK : ∀ M', Mem.le M M' → K (.ext (.int .i64 (cmpF l1 l2 k1 k2))) [] M') : CallS Tryd.prog 20 [.ext (.agg #[u1, u2]), .ext (.agg #[v1, v2])] [] M [] K := by
  refine inlS (cs := []) Tryd.mixed Tryd.func20 rfl (by kernel_rfl) 0 rfl rfl ?_
  simp only [Tryd.f20]
  unfold cmpF at hK
  (replace hb0 := true_and True); refine Go1.mk ?_; repeat' ((first | (with_reducible refine Go1.go ?_) | ((with_reducible first | refine brv_mk ?_ ?_ | refine gsplitD ?_ ?_ | refine gsplitG ?_ ?_) <;> intro h <;> (try simp only [Bool.not_eq_true', Bool.not_eq_false'] at h) <;> replace hb0 := h) | ((first | (with_reducible refine isCall (f := 16) ?_; refine callA_nil (by kernel_rfl) ?_) | (with_reducible refine isCall0 (f := 16) ?_; refine callA0_nil (by kernel_rfl) ?_)); refine (fcheck_ok ha.n ha.d ha.on ha.od ha.bn ha.bd (fun M1 m1 => Stop.mk ?_))) | (refine And.intro ?ob ?_; case ob => ((try simp only [sxO, ne_eq, maxLen] at *); omega)) | fail) <;> (try simp (config := { maxSteps := 1000000 }) only [hb0, ha.n.one, ha.d.one, hb.n.one, hb.d.one, ↓hold_pre, awayP, runOps, regK, step1, newK, genR, appR, obl, buildR, Value.cells, closeK, keepH, outV, retK, ret1, retC, RetV, Option.getD, runD, stepD, afterK, undef, simprocAttr, sxB, ↓sxD, sxE, sxTab]))
  have m1 : Mem.le M M1 := m1
  have ha1 := ha.le m1
  have hb1 := hb.le m1
  refine Stop.go ?_
  cases hc1 : chkF l1 l2 with
  | false =>
    rw [hc1] at hK
    (replace hb0 := true_and True); refine Go1.mk ?_; repeat' ((first | (with_reducible refine Go1.go ?_) | ((with_reducible first | refine brv_mk ?_ ?_ | refine gsplitD ?_ ?_ | refine gsplitG ?_ ?_) <;> intro h <;> (try simp only [Bool.not_eq_true', Bool.not_eq_false'] at h) <;> replace hb0 := h) | (refine And.intro ?ob ?_; case ob => ((try simp only [sxO, ne_eq, maxLen] at *); omega)) | fail) <;> (try simp (config := { maxSteps := 1000000 }) only [hb0, ha1.n.one, ha1.d.one, hb1.n.one, hb1.d.one, ↓hold_pre, awayP, runOps, regK, step1, newK, genR, appR, obl, buildR, Value.cells, closeK, keepH, outV, retK, ret1, retC, RetV, Option.getD, runD, stepD, afterK, undef, simprocAttr, sxB, ↓sxD, sxE, sxTab]))
    exact hK _ m1
  | true =>
  (replace hb0 := true_and True); refine Go1.mk ?_; repeat' ((first | (with_reducible refine Go1.go ?_) | ((with_reducible first | refine brv_mk ?_ ?_ | refine gsplitD ?_ ?_ | refine gsplitG ?_ ?_) <;> intro h <;> (try simp only [Bool.not_eq_true', Bool.not_eq_false'] at h) <;> replace hb0 := h) | ((first | (with_reducible refine isCall (f := 16) ?_; refine callA_nil (by kernel_rfl) ?_) | (with_reducible refine isCall0 (f := 16) ?_; refine callA0_nil (by kernel_rfl) ?_)); refine (fcheck_ok hb1.n hb1.d hb1.on hb1.od hb1.bn hb1.bd (fun M2 m2 => Stop.mk ?_))) | (refine And.intro ?ob ?_; case ob => ((try simp only [sxO, ne_eq, maxLen] at *); omega)) | fail) <;> (try simp (config := { maxSteps := 1000000 }) only [hb0, ha1.n.one, ha1.d.one, hb1.n.one, hb1.d.one, ↓hold_pre, awayP, runOps, regK, step1, newK, genR, appR, obl, buildR, Value.cells, closeK, keepH, outV, retK, ret1, retC, RetV, Option.getD, runD, stepD, afterK, undef, simprocAttr, sxB, ↓sxD, sxE, sxTab]))
  have m2 : Mem.le M1 M2 := m2
  have ha2 := ha1.le m2
  have hb2 := hb1.le m2
  have hm := m1.trans m2
  refine Stop.go ?_
  cases hc2 : chkF k1 k2 with
  | false =>
    rw [hc1, hc2] at hK
    (replace hb0 := true_and True); refine Go1.mk ?_; repeat' ((first | (with_reducible refine Go1.go ?_) | ((with_reducible first | refine brv_mk ?_ ?_ | refine gsplitD ?_ ?_ | refine gsplitG ?_ ?_) <;> intro h <;> (try simp only [Bool.not_eq_true', Bool.not_eq_false'] at h) <;> replace hb0 := h) | (refine And.intro ?ob ?_; case ob => ((try simp only [sxO, ne_eq, maxLen] at *); omega)) | fail) <;> (try simp (config := { maxSteps := 1000000 }) only [hb0, ha2.n.one, ha2.d.one, hb2.n.one, hb2.d.one, ↓hold_pre, awayP, runOps, regK, step1, newK, genR, appR, obl, buildR, Value.cells, closeK, keepH, outV, retK, ret1, retC, RetV, Option.getD, runD, stepD, afterK, undef, simprocAttr, sxB, ↓sxD, sxE, sxTab]))
    exact hK _ hm
  | true =>
  rw [hc1, hc2, Bool.and_self, if_pos rfl] at hK
  obtain ⟨n1, d1, hn1, hd1, e1, e2, q1, q2, q3⟩ := ha2.num hc1
  obtain ⟨n2, d2, hn2, hd2, e3, e4, r1, r2, r3⟩ := hb2.num hc2
  rw [e1, e2, e3, e4] at hK
  have t1 := mul_len n1 d2
  have t2 := mul_len n2 d1
  have t3 := mul_len d1 d2
  have t4 := mul_len n1 n2
  have t0 : 0 < d1 * d2 := Nat.mul_pos q3 r3
  (replace hb0 := true_and True); refine Go1.mk ?_; repeat' ((first | (with_reducible refine Go1.go ?_) | ((with_reducible first | refine brv_mk ?_ ?_ | refine gsplitD ?_ ?_ | refine gsplitG ?_ ?_) <;> intro h <;> (try simp only [Bool.not_eq_true', Bool.not_eq_false'] at h) <;> replace hb0 := h) | ((first | (with_reducible refine isCall (f := 61) ?_; refine callA_nil (by kernel_rfl) ?_) | (with_reducible refine isCall0 (f := 61) ?_; refine callA0_nil (by kernel_rfl) ?_)); refine (cross_ok hn1 hd1 hn2 hd2 (by omega) (by omega) (by omega) (by omega) (fun wx wy M3 m3 hx hy fx fy => Stop.mk ?_))) | (refine And.intro ?ob ?_; case ob => ((try simp only [sxO, ne_eq, maxLen] at *); omega)) | fail) <;> (try simp (config := { maxSteps := 1000000 }) only [hb0, hn1.one, hd1.one, hn2.one, hd2.one, ↓hold_pre, awayP, runOps, regK, step1, newK, genR, appR, obl, buildR, Value.cells, closeK, keepH, outV, retK, ret1, retC, RetV, Option.getD, runD, stepD, afterK, undef, simprocAttr, sxB, ↓sxD, sxE, sxTab]))
  have m3 : Mem.le M2 M3 := m3
  have hn1 := hn1.le m3
  have hd1 := hd1.le m3
  have hn2 := hn2.le m3
  have hd2 := hd2.le m3
  have fx := fx.le hm
  have fy := fy.le hm
  have hm := hm.trans m3
  refine Stop.go ?_
  (replace hb0 := true_and True); refine Go1.mk ?_; repeat' ((first | (with_reducible refine Go1.go ?_) | ((with_reducible first | refine brv_mk ?_ ?_ | refine gsplitD ?_ ?_ | refine gsplitG ?_ ?_) <;> intro h <;> (try simp only [Bool.not_eq_true', Bool.not_eq_false'] at h) <;> replace hb0 := h) | ((first | (with_reducible refine isCall (f := 60) ?_; refine callA_nil (by kernel_rfl) ?_) | (with_reducible refine isCall0 (f := 60) ?_; refine callA0_nil (by kernel_rfl) ?_)); refine (compare_ok wx wy _ _ hx hy (by omega) (by omega) ?_)) | (refine And.intro ?ob ?_; case ob => ((try simp only [sxO, ne_eq, maxLen] at *); omega)) | fail) <;> (try simp (config := { maxSteps := 1000000 }) only [hb0, hn1.one, hd1.one, hn2.one, hd2.one, hx.one, hy.one, ↓hold_pre, awayP, runOps, regK, step1, newK, genR, appR, obl, buildR, Value.cells, closeK, keepH, outV, retK, ret1, retC, RetV, Option.getD, runD, stepD, afterK, undef, simprocAttr, sxB, ↓sxD, sxE, sxTab]))
  exact hK _ hm
theorem fadd_ok (ha : IsF M u1 u2 l1 l2) (hb : IsF M v1 v2 k1 k2) (hK : FracK M K (addF l1 l2 k1 k2)) : CallS Tryd.prog 22 [.ext (.agg #[u1, u2]), .ext (.agg #[v1, v2])] [] M [] K := by
  refine inlS (cs := []) Tryd.mixed Tryd.func22 rfl (by kernel_rfl) 0 rfl rfl ?_
  simp only [Tryd.f22]
  unfold addF at hK
  (replace hb0 := true_and True); refine Go1.mk ?_; repeat' ((first | (with_reducible refine Go1.go ?_) | ((with_reducible first | refine brv_mk ?_ ?_ | refine gsplitD ?_ ?_ | refine gsplitG ?_ ?_) <;> intro h <;> (try simp only [Bool.not_eq_true', Bool.not_eq_false'] at h) <;> replace hb0 := h) | ((first | (with_reducible refine isCall (f := 16) ?_; refine callA_nil (by kernel_rfl) ?_) | (with_reducible refine isCall0 (f := 16) ?_; refine callA0_nil (by kernel_rfl) ?_)); refine (fcheck_ok ha.n ha.d ha.on ha.od ha.bn ha.bd (fun M1 m1 => Stop.mk ?_))) | (refine And.intro ?ob ?_; case ob => ((try simp only [sxO, ne_eq, maxLen] at *); omega)) | fail) <;> (try simp (config := { maxSteps := 1000000 }) only [hb0, ha.n.one, ha.d.one, hb.n.one, hb.d.one, ↓hold_pre, awayP, runOps, regK, step1, newK, genR, appR, obl, buildR, Value.cells, closeK, keepH, outV, retK, ret1, retC, RetV, Option.getD, runD, stepD, afterK, undef, simprocAttr, sxB, ↓sxD, sxE, sxTab]))
  have m1 : Mem.le M M1 := m1
  have ha1 := ha.le m1
  have hb1 := hb.le m1
  refine Stop.go ?_
  cases hc1 : chkF l1 l2 with
  | false =>
    rw [hc1] at hK
    (replace hb0 := true_and True); refine Go1.mk ?_; repeat' ((first | (with_reducible refine Go1.go ?_) | ((with_reducible first | refine brv_mk ?_ ?_ | refine gsplitD ?_ ?_ | refine gsplitG ?_ ?_) <;> intro h <;> (try simp only [Bool.not_eq_true', Bool.not_eq_false'] at h) <;> replace hb0 := h) | (refine And.intro ?ob ?_; case ob => ((try simp only [sxO, ne_eq, maxLen] at *); omega)) | fail) <;> (try simp (config := { maxSteps := 1000000 }) only [hb0, ha1.n.one, ha1.d.one, hb1.n.one, hb1.d.one, ↓hold_pre, awayP, runOps, regK, step1, newK, genR, appR, obl, buildR, Value.cells, closeK, keepH, outV, retK, ret1, retC, RetV, Option.getD, runD, stepD, afterK, undef, simprocAttr, sxB, ↓sxD, sxE, sxTab]))
    exact hK.err _ m1
  | true =>
  (replace hb0 := true_and True); refine Go1.mk ?_; repeat' ((first | (with_reducible refine Go1.go ?_) | ((with_reducible first | refine brv_mk ?_ ?_ | refine gsplitD ?_ ?_ | refine gsplitG ?_ ?_) <;> intro h <;> (try simp only [Bool.not_eq_true', Bool.not_eq_false'] at h) <;> replace hb0 := h) | ((first | (with_reducible refine isCall (f := 16) ?_; refine callA_nil (by kernel_rfl) ?_) | (with_reducible refine isCall0 (f := 16) ?_; refine callA0_nil (by kernel_rfl) ?_)); refine (fcheck_ok hb1.n hb1.d hb1.on hb1.od hb1.bn hb1.bd (fun M2 m2 => Stop.mk ?_))) | (refine And.intro ?ob ?_; case ob => ((try simp only [sxO, ne_eq, maxLen] at *); omega)) | fail) <;> (try simp (config := { maxSteps := 1000000 }) only [hb0, ha1.n.one, ha1.d.one, hb1.n.one, hb1.d.one, ↓hold_pre, awayP, runOps, regK, step1, newK, genR, appR, obl, buildR, Value.cells, closeK, keepH, outV, retK, ret1, retC, RetV, Option.getD, runD, stepD, afterK, undef, simprocAttr, sxB, ↓sxD, sxE, sxTab]))
  have m2 : Mem.le M1 M2 := m2
  have ha2 := ha1.le m2
  have hb2 := hb1.le m2
  have hm := m1.trans m2
  refine Stop.go ?_
  cases hc2 : chkF k1 k2 with
  | false =>
    rw [hc1, hc2] at hK
    (replace hb0 := true_and True); refine Go1.mk ?_; repeat' ((first | (with_reducible refine Go1.go ?_) | ((with_reducible first | refine brv_mk ?_ ?_ | refine gsplitD ?_ ?_ | refine gsplitG ?_ ?_) <;> intro h <;> (try simp only [Bool.not_eq_true', Bool.not_eq_false'] at h) <;> replace hb0 := h) | (refine And.intro ?ob ?_; case ob => ((try simp only [sxO, ne_eq, maxLen] at *); omega)) | fail) <;> (try simp (config := { maxSteps := 1000000 }) only [hb0, ha2.n.one, ha2.d.one, hb2.n.one, hb2.d.one, ↓hold_pre, awayP, runOps, regK, step1, newK, genR, appR, obl, buildR, Value.cells, closeK, keepH, outV, retK, ret1, retC, RetV, Option.getD, runD, stepD, afterK, undef, simprocAttr, sxB, ↓sxD, sxE, sxTab]))
    exact hK.err _ hm
  | true =>
  rw [hc1, hc2, Bool.and_self, if_pos rfl] at hK
  obtain ⟨n1, d1, hn1, hd1, e1, e2, q1, q2, q3⟩ := ha2.num hc1
  obtain ⟨n2, d2, hn2, hd2, e3, e4, r1, r2, r3⟩ := hb2.num hc2
  rw [e1, e2, e3, e4] at hK
  have t1 := mul_len n1 d2
  have t2 := mul_len n2 d1
  have t3 := mul_len d1 d2
  have t4 := mul_len n1 n2
  have t0 : 0 < d1 * d2 := Nat.mul_pos q3 r3
  (replace hb0 := true_and True); refine Go1.mk ?_; repeat' ((first | (with_reducible refine Go1.go ?_) | ((with_reducible first | refine brv_mk ?_ ?_ | refine gsplitD ?_ ?_ | refine gsplitG ?_ ?_) <;> intro h <;> (try simp only [Bool.not_eq_true', Bool.not_eq_false'] at h) <;> replace hb0 := h) | ((first | (with_reducible refine isCall (f := 61) ?_; refine callA_nil (by kernel_rfl) ?_) | (with_reducible refine isCall0 (f := 61) ?_; refine callA0_nil (by kernel_rfl) ?_)); refine (cross_ok hn1 hd1 hn2 hd2 (by omega) (by omega) (by omega) (by omega) (fun wx wy M3 m3 hx hy fx fy => Stop.mk ?_))) | ((with_reducible refine isDraw [some 15, some 16, some 17, some 18, some 19, some 20, some 21, some 22, some 23, some 24, some 25, some 26, some 27, some 28, none, some 5] (by decide) ?_); refine draw_rule [(0, []), (1, [0]), (6, [0, 1]), (7, [0, 1]), (8, [0, 1, 7]), (9, [0, 1, 7]), (2, [7, 9]), (3, [7, 9]), (4, [7, 9]), (5, [7, 9]), (10, []), (11, []), (12, []), (13, []), (14, []), (15, [])] [[], [], [0, 1], [0, 1, 2], [0, 1, 2], [0, 1, 2, 3, 4], [], [6], [], [8], [0, 1, 2, 3, 4, 5, 6, 7, 8, 9], [0, 1, 2, 3, 4, 5, 6, 7, 8, 9, 10], [0, 1, 2, 3, 4, 5, 6, 7, 8, 9, 10, 11], [0, 1, 2, 3, 4, 5, 6, 7, 8, 9, 10, 11], [0, 1, 2, 3, 4, 5, 6, 7, 8, 9, 10, 11, 12, 13], [0, 1, 2, 3, 4, 5, 6, 7, 8, 9, 10, 11, 12, 13, 14]] [15, 16, 17, 18, 19, 20, 21, 22, 23, 24, 27, 28] [] (by kernel_rfl) (by kernel_rfl) (by kernel_rfl) (by kernel_rfl) (by exact trivial) ?_) | (refine And.intro ?ob ?_; case ob => ((try simp only [sxO, ne_eq, maxLen] at *); omega)) | fail) <;> (try simp (config := { maxSteps := 1000000 }) only [hb0, hn1.one, hd1.one, hn2.one, hd2.one, ↓hold_pre, awayP, runOps, regK, step1, newK, genR, appR, obl, buildR, Value.cells, closeK, keepH, outV, retK, ret1, retC, RetV, Option.getD, runD, stepD, afterK, undef, simprocAttr, sxB, ↓sxD, sxE, sxTab]))
  have m3 : Mem.le M2 M3 := m3
  have hn1 := hn1.le m3
  have hd1 := hd1.le m3
  have hn2 := hn2.le m3
  have hd2 := hd2.le m3
  have fx := fx.le hm
  have fy := fy.le hm
  have hm := hm.trans m3
  refine Stop.go ?_
  (replace hb0 := true_and True); refine Go1.mk ?_; repeat' ((first | (with_reducible refine Go1.go ?_) | ((with_reducible first | refine brv_mk ?_ ?_ | refine gsplitD ?_ ?_ | refine gsplitG ?_ ?_) <;> intro h <;> (try simp only [Bool.not_eq_true', Bool.not_eq_false'] at h) <;> replace hb0 := h) | ((first | (with_reducible refine isCall (f := 63) ?_; refine callA_nil (by kernel_rfl) ?_) | (with_reducible refine isCall0 (f := 63) ?_; refine callA0_nil (by kernel_rfl) ?_)); refine (add_ok wx wy _ _ hx hy (by omega) (by omega) (fun ws M4 m4 hs fs => Stop.mk ?_))) | ((with_reducible refine isDraw [some 15, some 16, some 17, some 18, some 19, some 20, some 21, some 22, some 23, some 24, some 25, some 26, some 27, some 28, none, some 5] (by decide) ?_); refine draw_rule [(0, []), (1, [0]), (6, [0, 1]), (7, [0, 1]), (8, [0, 1, 7]), (9, [0, 1, 7]), (2, [7, 9]), (3, [7, 9]), (4, [7, 9]), (5, [7, 9]), (10, []), (11, []), (12, []), (13, []), (14, []), (15, [])] [[], [], [0, 1], [0, 1, 2], [0, 1, 2], [0, 1, 2, 3, 4], [], [6], [], [8], [0, 1, 2, 3, 4, 5, 6, 7, 8, 9], [0, 1, 2, 3, 4, 5, 6, 7, 8, 9, 10], [0, 1, 2, 3, 4, 5, 6, 7, 8, 9, 10, 11], [0, 1, 2, 3, 4, 5, 6, 7, 8, 9, 10, 11], [0, 1, 2, 3, 4, 5, 6, 7, 8, 9, 10, 11, 12, 13], [0, 1, 2, 3, 4, 5, 6, 7, 8, 9, 10, 11, 12, 13, 14]] [15, 16, 17, 18, 19, 20, 21, 22, 23, 24, 27, 28] [] (by kernel_rfl) (by kernel_rfl) (by kernel_rfl) (by kernel_rfl) (by exact trivial) ?_) | (refine And.intro ?ob ?_; case ob => ((try simp only [sxO, ne_eq, maxLen] at *); omega)) | fail) <;> (try simp (config := { maxSteps := 1000000 }) only [hb0, hn1.one, hd1.one, hn2.one, hd2.one, hx.one, hy.one, ↓hold_pre, awayP, runOps, regK, step1, newK, genR, appR, obl, buildR, Value.cells, closeK, keepH, outV, retK, ret1, retC, RetV, Option.getD, runD, stepD, afterK, undef, simprocAttr, sxB, ↓sxD, sxE, sxTab]))
  have m4 : Mem.le M3 M4 := m4
  have hn1 := hn1.le m4
  have hd1 := hd1.le m4
  have hn2 := hn2.le m4
  have hd2 := hd2.le m4
  have hx := hx.le m4
  have hy := hy.le m4
  have fs := fs.le hm
  have hm := hm.trans m4
  refine Stop.go ?_
  (replace hb0 := true_and True); refine Go1.mk ?_; repeat' ((first | (with_reducible refine Go1.go ?_) | ((with_reducible first | refine brv_mk ?_ ?_ | refine gsplitD ?_ ?_ | refine gsplitG ?_ ?_) <;> intro h <;> (try simp only [Bool.not_eq_true', Bool.not_eq_false'] at h) <;> replace hb0 := h) | ((first | (with_reducible refine isCall (f := 64) ?_; refine callA_nil (by kernel_rfl) ?_) | (with_reducible refine isCall0 (f := 64) ?_; refine callA0_nil (by kernel_rfl) ?_)); refine (mul_ok u2 v2 d1 d2 hd1 hd2 (by omega) (by omega) (fun wp M5 m5 hp fp => Stop.mk ?_))) | ((with_reducible refine isDraw [some 15, some 16, some 17, some 18, some 19, some 20, some 21, some 22, some 23, some 24, some 25, some 26, some 27, some 28, none, some 5] (by decide) ?_); refine draw_rule [(0, []), (1, [0]), (6, [0, 1]), (7, [0, 1]), (8, [0, 1, 7]), (9, [0, 1, 7]), (2, [7, 9]), (3, [7, 9]), (4, [7, 9]), (5, [7, 9]), (10, []), (11, []), (12, []), (13, []), (14, []), (15, [])] [[], [], [0, 1], [0, 1, 2], [0, 1, 2], [0, 1, 2, 3, 4], [], [6], [], [8], [0, 1, 2, 3, 4, 5, 6, 7, 8, 9], [0, 1, 2, 3, 4, 5, 6, 7, 8, 9, 10], [0, 1, 2, 3, 4, 5, 6, 7, 8, 9, 10, 11], [0, 1, 2, 3, 4, 5, 6, 7, 8, 9, 10, 11], [0, 1, 2, 3, 4, 5, 6, 7, 8, 9, 10, 11, 12, 13], [0, 1, 2, 3, 4, 5, 6, 7, 8, 9, 10, 11, 12, 13, 14]] [15, 16, 17, 18, 19, 20, 21, 22, 23, 24, 27, 28] [] (by kernel_rfl) (by kernel_rfl) (by kernel_rfl) (by kernel_rfl) (by exact trivial) ?_) | (refine And.intro ?ob ?_; case ob => ((try simp only [sxO, ne_eq, maxLen] at *); omega)) | fail) <;> (try simp (config := { maxSteps := 1000000 }) only [hb0, hn1.one, hd1.one, hn2.one, hd2.one, hx.one, hy.one, hs.one, ↓hold_pre, awayP, runOps, regK, step1, newK, genR, appR, obl, buildR, Value.cells, closeK, keepH, outV, retK, ret1, retC, RetV, Option.getD, runD, stepD, afterK, undef, simprocAttr, sxB, ↓sxD, sxE, sxTab]))
  have m5 : Mem.le M4 M5 := m5
  have hn1 := hn1.le m5
  have hd1 := hd1.le m5
  have hn2 := hn2.le m5
  have hd2 := hd2.le m5
  have hx := hx.le m5
  have hy := hy.le m5
  have hs := hs.le m5
  have fp := fp.le hm
  have hm := hm.trans m5
  refine Stop.go ?_
  have t5 := add_len (x := n1 * d2) (y := n2 * d1) (k := 256) (by omega) (by omega)
  (replace hb0 := true_and True); refine Go1.mk ?_; repeat' ((first | (with_reducible refine Go1.go ?_) | ((with_reducible first | refine brv_mk ?_ ?_ | refine gsplitD ?_ ?_ | refine gsplitG ?_ ?_) <;> intro h <;> (try simp only [Bool.not_eq_true', Bool.not_eq_false'] at h) <;> replace hb0 := h) | ((first | (with_reducible refine isCall (f := 51) ?_; refine callA_nil (by kernel_rfl) ?_) | (with_reducible refine isCall0 (f := 51) ?_; refine callA0_nil (by kernel_rfl) ?_)); refine (exact_ok ws wp _ _ hs hp (by omega) (by omega) t0 (fun w1 w2 M6 m6 h1 h2 f1 f2 => Stop.mk ?_))) | ((with_reducible refine isDraw [some 15, some 16, some 17, some 18, some 19, some 20, some 21, some 22, some 23, some 24, some 25, some 26, some 27, some 28, none, some 5] (by decide) ?_); refine draw_rule [(0, []), (1, [0]), (6, [0, 1]), (7, [0, 1]), (8, [0, 1, 7]), (9, [0, 1, 7]), (2, [7, 9]), (3, [7, 9]), (4, [7, 9]), (5, [7, 9]), (10, []), (11, []), (12, []), (13, []), (14, []), (15, [])] [[], [], [0, 1], [0, 1, 2], [0, 1, 2], [0, 1, 2, 3, 4], [], [6], [], [8], [0, 1, 2, 3, 4, 5, 6, 7, 8, 9], [0, 1, 2, 3, 4, 5, 6, 7, 8, 9, 10], [0, 1, 2, 3, 4, 5, 6, 7, 8, 9, 10, 11], [0, 1, 2, 3, 4, 5, 6, 7, 8, 9, 10, 11], [0, 1, 2, 3, 4, 5, 6, 7, 8, 9, 10, 11, 12, 13], [0, 1, 2, 3, 4, 5, 6, 7, 8, 9, 10, 11, 12, 13, 14]] [15, 16, 17, 18, 19, 20, 21, 22, 23, 24, 27, 28] [] (by kernel_rfl) (by kernel_rfl) (by kernel_rfl) (by kernel_rfl) (by exact trivial) ?_) | (refine And.intro ?ob ?_; case ob => ((try simp only [sxO, ne_eq, maxLen] at *); omega)) | fail) <;> (try simp (config := { maxSteps := 1000000 }) only [hb0, hn1.one, hd1.one, hn2.one, hd2.one, hx.one, hy.one, hs.one, hp.one, ↓hold_pre, awayP, runOps, regK, step1, newK, genR, appR, obl, buildR, Value.cells, closeK, keepH, outV, retK, ret1, retC, RetV, Option.getD, runD, stepD, afterK, undef, simprocAttr, sxB, ↓sxD, sxE, sxTab]))
  have m6 : Mem.le M5 M6 := m6
  have hn1 := hn1.le m6
  have hd1 := hd1.le m6
  have hn2 := hn2.le m6
  have hd2 := hd2.le m6
  have hx := hx.le m6
  have hy := hy.le m6
  have hs := hs.le m6
  have hp := hp.le m6
  have f1 := f1.le hm
  have f2 := f2.le hm
  have hm := hm.trans m6
  refine Stop.go ?_
  (replace hb0 := true_and True); refine Go1.mk ?_; repeat' ((first | (with_reducible refine Go1.go ?_) | ((with_reducible first | refine brv_mk ?_ ?_ | refine gsplitD ?_ ?_ | refine gsplitG ?_ ?_) <;> intro h <;> (try simp only [Bool.not_eq_true', Bool.not_eq_false'] at h) <;> replace hb0 := h) | (refine And.intro ?ob ?_; case ob => ((try simp only [sxO, ne_eq, maxLen] at *); omega)) | fail) <;> (try simp (config := { maxSteps := 1000000 }) only [hb0, hn1.one, hd1.one, hn2.one, hd2.one, hx.one, hy.one, hs.one, hp.one, h1.one, h2.one, ↓hold_pre, awayP, runOps, regK, step1, newK, genR, appR, obl, buildR, Value.cells, closeK, keepH, outV, retK, ret1, retC, RetV, Option.getD, runD, stepD, afterK, undef, simprocAttr, sxB, ↓sxD, sxE, sxTab]))
  exact hK _ _ _ hm h1 h2 f1 f2
theorem fmul_ok (ha : IsF M u1 u2 l1 l2) (hb : IsF M v1 v2 k1 k2) (hK : FracK M K (mulF l1 l2 k1 k2)) : CallS Tryd.prog 26 [.ext (.agg #[u1, u2]), .ext (.agg #[v1, v2])] [] M [] K := by
  refine inlS (cs := []) Tryd.mixed Tryd.func26 rfl (by kernel_rfl) 0 rfl rfl ?_
  simp only [Tryd.f26]
  unfold mulF at hK
  (replace hb0 := true_and True); refine Go1.mk ?_; repeat' ((first | (with_reducible refine Go1.go ?_) | ((with_reducible first | refine brv_mk ?_ ?_ | refine gsplitD ?_ ?_ | refine gsplitG ?_ ?_) <;> intro h <;> (try simp only [Bool.not_eq_true', Bool.not_eq_false'] at h) <;> replace hb0 := h) | ((first | (with_reducible refine isCall (f := 16) ?_; refine callA_nil (by kernel_rfl) ?_) | (with_reducible refine isCall0 (f := 16) ?_; refine callA0_nil (by kernel_rfl) ?_)); refine (fcheck_ok ha.n ha.d ha.on ha.od ha.bn ha.bd (fun M1 m1 => Stop.mk ?_))) | (refine And.intro ?ob ?_; case ob => ((try simp only [sxO, ne_eq, maxLen] at *); omega)) | fail) <;> (try simp (config := { maxSteps := 1000000 }) only [hb0, ha.n.one, ha.d.one, hb.n.one, hb.d.one, ↓hold_pre, awayP, runOps, regK, step1, newK, genR, appR, obl, buildR, Value.cells, closeK, keepH, outV, retK, ret1, retC, RetV, Option.getD, runD, stepD, afterK, undef, simprocAttr, sxB, ↓sxD, sxE, sxTab]))
  have m1 : Mem.le M M1 := m1
  have ha1 := ha.le m1
  have hb1 := hb.le m1
  refine Stop.go ?_
  cases hc1 : chkF l1 l2 with
  | false =>
    rw [hc1] at hK
    (replace hb0 := true_and True); refine Go1.mk ?_; repeat' ((first | (with_reducible refine Go1.go ?_) | ((with_reducible first | refine brv_mk ?_ ?_ | refine gsplitD ?_ ?_ | refine gsplitG ?_ ?_) <;> intro h <;> (try simp only [Bool.not_eq_true', Bool.not_eq_false'] at h) <;> replace hb0 := h) | (refine And.intro ?ob ?_; case ob => ((try simp only [sxO, ne_eq, maxLen] at *); omega)) | fail) <;> (try simp (config := { maxSteps := 1000000 }) only [hb0, ha1.n.one, ha1.d.one, hb1.n.one, hb1.d.one, ↓hold_pre, awayP, runOps, regK, step1, newK, genR, appR, obl, buildR, Value.cells, closeK, keepH, outV, retK, ret1, retC, RetV, Option.getD, runD, stepD, afterK, undef, simprocAttr, sxB, ↓sxD, sxE, sxTab]))
    exact hK.err _ m1
  | true =>
  (replace hb0 := true_and True); refine Go1.mk ?_; repeat' ((first | (with_reducible refine Go1.go ?_) | ((with_reducible first | refine brv_mk ?_ ?_ | refine gsplitD ?_ ?_ | refine gsplitG ?_ ?_) <;> intro h <;> (try simp only [Bool.not_eq_true', Bool.not_eq_false'] at h) <;> replace hb0 := h) | ((first | (with_reducible refine isCall (f := 16) ?_; refine callA_nil (by kernel_rfl) ?_) | (with_reducible refine isCall0 (f := 16) ?_; refine callA0_nil (by kernel_rfl) ?_)); refine (fcheck_ok hb1.n hb1.d hb1.on hb1.od hb1.bn hb1.bd (fun M2 m2 => Stop.mk ?_))) | (refine And.intro ?ob ?_; case ob => ((try simp only [sxO, ne_eq, maxLen] at *); omega)) | fail) <;> (try simp (config := { maxSteps := 1000000 }) only [hb0, ha1.n.one, ha1.d.one, hb1.n.one, hb1.d.one, ↓hold_pre, awayP, runOps, regK, step1, newK, genR, appR, obl, buildR, Value.cells, closeK, keepH, outV, retK, ret1, retC, RetV, Option.getD, runD, stepD, afterK, undef, simprocAttr, sxB, ↓sxD, sxE, sxTab]))
  have m2 : Mem.le M1 M2 := m2
  have ha2 := ha1.le m2
  have hb2 := hb1.le m2
  have hm := m1.trans m2
  refine Stop.go ?_
  cases hc2 : chkF k1 k2 with
  | false =>
    rw [hc1, hc2] at hK
    (replace hb0 := true_and True); refine Go1.mk ?_; repeat' ((first | (with_reducible refine Go1.go ?_) | ((with_reducible first | refine brv_mk ?_ ?_ | refine gsplitD ?_ ?_ | refine gsplitG ?_ ?_) <;> intro h <;> (try simp only [Bool.not_eq_true', Bool.not_eq_false'] at h) <;> replace hb0 := h) | (refine And.intro ?ob ?_; case ob => ((try simp only [sxO, ne_eq, maxLen] at *); omega)) | fail) <;> (try simp (config := { maxSteps := 1000000 }) only [hb0, ha2.n.one, ha2.d.one, hb2.n.one, hb2.d.one, ↓hold_pre, awayP, runOps, regK, step1, newK, genR, appR, obl, buildR, Value.cells, closeK, keepH, outV, retK, ret1, retC, RetV, Option.getD, runD, stepD, afterK, undef, simprocAttr, sxB, ↓sxD, sxE, sxTab]))
    exact hK.err _ hm
  | true =>
  rw [hc1, hc2, Bool.and_self, if_pos rfl] at hK
  obtain ⟨n1, d1, hn1, hd1, e1, e2, q1, q2, q3⟩ := ha2.num hc1
  obtain ⟨n2, d2, hn2, hd2, e3, e4, r1, r2, r3⟩ := hb2.num hc2
  rw [e1, e2, e3, e4] at hK
  have t1 := mul_len n1 d2
  have t2 := mul_len n2 d1
  have t3 := mul_len d1 d2
  have t4 := mul_len n1 n2
  have t0 : 0 < d1 * d2 := Nat.mul_pos q3 r3
  (replace hb0 := true_and True); refine Go1.mk ?_; repeat' ((first | (with_reducible refine Go1.go ?_) | ((with_reducible first | refine brv_mk ?_ ?_ | refine gsplitD ?_ ?_ | refine gsplitG ?_ ?_) <;> intro h <;> (try simp only [Bool.not_eq_true', Bool.not_eq_false'] at h) <;> replace hb0 := h) | ((first | (with_reducible refine isCall (f := 64) ?_; refine callA_nil (by kernel_rfl) ?_) | (with_reducible refine isCall0 (f := 64) ?_; refine callA0_nil (by kernel_rfl) ?_)); refine (mul_ok u1 v1 n1 n2 hn1 hn2 (by omega) (by omega) (fun ws M3 m3 hs fs => Stop.mk ?_))) | ((with_reducible refine isDraw [some 15, some 16, some 17, some 18, some 19, some 20, some 21, some 22, some 23, some 24, some 25, some 26, some 27, none, some 5] (by decide) ?_); refine draw_rule [(0, []), (1, []), (2, [1]), (3, [1]), (5, [1, 3]), (6, [1, 3]), (7, [1, 3, 6]), (8, [1, 3, 6]), (4, [6, 8]), (9, []), (10, []), (11, []), (12, []), (13, []), (14, [])] [[], [0], [], [2], [0, 1, 2, 3], [], [5], [], [7], [0, 1, 2, 3, 4, 5, 6, 7, 8], [0, 1, 2, 3, 4, 5, 6, 7, 8, 9], [0, 1, 2, 3, 4, 5, 6, 7, 8, 9, 10], [0, 1, 2, 3, 4, 5, 6, 7, 8, 9, 10], [0, 1, 2, 3, 4, 5, 6, 7, 8, 9, 10, 11, 12], [0, 1, 2, 3, 4, 5, 6, 7, 8, 9, 10, 11, 12, 13]] [15, 16, 17, 18, 19, 20, 21, 22, 23, 26, 27] [] (by kernel_rfl) (by kernel_rfl) (by kernel_rfl) (by kernel_rfl) (by exact trivial) ?_) | (refine And.intro ?ob ?_; case ob => ((try simp only [sxO, ne_eq, maxLen] at *); omega)) | fail) <;> (try simp (config := { maxSteps := 1000000 }) only [hb0, hn1.one, hd1.one, hn2.one, hd2.one, ↓hold_pre, awayP, runOps, regK, step1, newK, genR, appR, obl, buildR, Value.cells, closeK, keepH, outV, retK, ret1, retC, RetV, Option.getD, runD, stepD, afterK, undef, simprocAttr, sxB, ↓sxD, sxE, sxTab]))
  have m3 : Mem.le M2 M3 := m3
  have hn1 := hn1.le m3
  have hd1 := hd1.le m3
  have hn2 := hn2.le m3
  have hd2 := hd2.le m3
  have fs := fs.le hm
  have hm := hm.trans m3
  refine Stop.go ?_
  (replace hb0 := true_and True); refine Go1.mk ?_; repeat' ((first | (with_reducible refine Go1.go ?_) | ((with_reducible first | refine brv_mk ?_ ?_ | refine gsplitD ?_ ?_ | refine gsplitG ?_ ?_) <;> intro h <;> (try simp only [Bool.not_eq_true', Bool.not_eq_false'] at h) <;> replace hb0 := h) | ((first | (with_reducible refine isCall (f := 64) ?_; refine callA_nil (by kernel_rfl) ?_) | (with_reducible refine isCall0 (f := 64) ?_; refine callA0_nil (by kernel_rfl) ?_)); refine (mul_ok u2 v2 d1 d2 hd1 hd2 (by omega) (by omega) (fun wp M4 m4 hp fp => Stop.mk ?_))) | ((with_reducible refine isDraw [some 15, some 16, some 17, some 18, some 19, some 20, some 21, some 22, some 23, some 24, some 25, some 26, some 27, none, some 5] (by decide) ?_); refine draw_rule [(0, []), (1, []), (2, [1]), (3, [1]), (5, [1, 3]), (6, [1, 3]), (7, [1, 3, 6]), (8, [1, 3, 6]), (4, [6, 8]), (9, []), (10, []), (11, []), (12, []), (13, []), (14, [])] [[], [0], [], [2], [0, 1, 2, 3], [], [5], [], [7], [0, 1, 2, 3, 4, 5, 6, 7, 8], [0, 1, 2, 3, 4, 5, 6, 7, 8, 9], [0, 1, 2, 3, 4, 5, 6, 7, 8, 9, 10], [0, 1, 2, 3, 4, 5, 6, 7, 8, 9, 10], [0, 1, 2, 3, 4, 5, 6, 7, 8, 9, 10, 11, 12], [0, 1, 2, 3, 4, 5, 6, 7, 8, 9, 10, 11, 12, 13]] [15, 16, 17, 18, 19, 20, 21, 22, 23, 26, 27] [] (by kernel_rfl) (by kernel_rfl) (by kernel_rfl) (by kernel_rfl) (by exact trivial) ?_) | (refine And.intro ?ob ?_; case ob => ((try simp only [sxO, ne_eq, maxLen] at *); omega)) | fail) <;> (try simp (config := { maxSteps := 1000000 }) only [hb0, hn1.one, hd1.one, hn2.one, hd2.one, hs.one, ↓hold_pre, awayP, runOps, regK, step1, newK, genR, appR, obl, buildR, Value.cells, closeK, keepH, outV, retK, ret1, retC, RetV, Option.getD, runD, stepD, afterK, undef, simprocAttr, sxB, ↓sxD, sxE, sxTab]))
  have m4 : Mem.le M3 M4 := m4
  have hn1 := hn1.le m4
  have hd1 := hd1.le m4
  have hn2 := hn2.le m4
  have hd2 := hd2.le m4
  have hs := hs.le m4
  have fp := fp.le hm
  have hm := hm.trans m4
  refine Stop.go ?_
  (replace hb0 := true_and True); refine Go1.mk ?_; repeat' ((first | (with_reducible refine Go1.go ?_) | ((with_reducible first | refine brv_mk ?_ ?_ | refine gsplitD ?_ ?_ | refine gsplitG ?_ ?_) <;> intro h <;> (try simp only [Bool.not_eq_true', Bool.not_eq_false'] at h) <;> replace hb0 := h) | ((first | (with_reducible refine isCall (f := 51) ?_; refine callA_nil (by kernel_rfl) ?_) | (with_reducible refine isCall0 (f := 51) ?_; refine callA0_nil (by kernel_rfl) ?_)); refine (exact_ok ws wp _ _ hs hp (by omega) (by omega) t0 (fun w1 w2 M5 m5 h1 h2 f1 f2 => Stop.mk ?_))) | ((with_reducible refine isDraw [some 15, some 16, some 17, some 18, some 19, some 20, some 21, some 22, some 23, some 24, some 25, some 26, some 27, none, some 5] (by decide) ?_); refine draw_rule [(0, []), (1, []), (2, [1]), (3, [1]), (5, [1, 3]), (6, [1, 3]), (7, [1, 3, 6]), (8, [1, 3, 6]), (4, [6, 8]), (9, []), (10, []), (11, []), (12, []), (13, []), (14, [])] [[], [0], [], [2], [0, 1, 2, 3], [], [5], [], [7], [0, 1, 2, 3, 4, 5, 6, 7, 8], [0, 1, 2, 3, 4, 5, 6, 7, 8, 9], [0, 1, 2, 3, 4, 5, 6, 7, 8, 9, 10], [0, 1, 2, 3, 4, 5, 6, 7, 8, 9, 10], [0, 1, 2, 3, 4, 5, 6, 7, 8, 9, 10, 11, 12], [0, 1, 2, 3, 4, 5, 6, 7, 8, 9, 10, 11, 12, 13]] [15, 16, 17, 18, 19, 20, 21, 22, 23, 26, 27] [] (by kernel_rfl) (by kernel_rfl) (by kernel_rfl) (by kernel_rfl) (by exact trivial) ?_) | (refine And.intro ?ob ?_; case ob => ((try simp only [sxO, ne_eq, maxLen] at *); omega)) | fail) <;> (try simp (config := { maxSteps := 1000000 }) only [hb0, hn1.one, hd1.one, hn2.one, hd2.one, hs.one, hp.one, ↓hold_pre, awayP, runOps, regK, step1, newK, genR, appR, obl, buildR, Value.cells, closeK, keepH, outV, retK, ret1, retC, RetV, Option.getD, runD, stepD, afterK, undef, simprocAttr, sxB, ↓sxD, sxE, sxTab]))
  have m5 : Mem.le M4 M5 := m5
  have hn1 := hn1.le m5
  have hd1 := hd1.le m5
  have hn2 := hn2.le m5
  have hd2 := hd2.le m5
  have hs := hs.le m5
  have hp := hp.le m5
  have f1 := f1.le hm
  have f2 := f2.le hm
  have hm := hm.trans m5
  refine Stop.go ?_
  (replace hb0 := true_and True); refine Go1.mk ?_; repeat' ((first | (with_reducible refine Go1.go ?_) | ((with_reducible first | refine brv_mk ?_ ?_ | refine gsplitD ?_ ?_ | refine gsplitG ?_ ?_) <;> intro h <;> (try simp only [Bool.not_eq_true', Bool.not_eq_false'] at h) <;> replace hb0 := h) | (refine And.intro ?ob ?_; case ob => ((try simp only [sxO, ne_eq, maxLen] at *); omega)) | fail) <;> (try simp (config := { maxSteps := 1000000 }) only [hb0, hn1.one, hd1.one, hn2.one, hd2.one, hs.one, hp.one, h1.one, h2.one, ↓hold_pre, awayP, runOps, regK, step1, newK, genR, appR, obl, buildR, Value.cells, closeK, keepH, outV, retK, ret1, retC, RetV, Option.getD, runD, stepD, afterK, undef, simprocAttr, sxB, ↓sxD, sxE, sxTab]))
  exact hK _ _ _ hm h1 h2 f1 f2
theorem fdiv_ok (ha : IsF M u1 u2 l1 l2) (hb : IsF M v1 v2 k1 k2) (hK : FracK M K (divF l1 l2 k1 k2)) : CallS Tryd.prog 28 [.ext (.agg #[u1, u2]), .ext (.agg #[v1, v2])] [] M [] K := by
  refine inlS (cs := []) Tryd.mixed Tryd.func28 rfl (by kernel_rfl) 0 rfl rfl ?_
  simp only [Tryd.f28]
  unfold divF at hK
  (replace hb0 := true_and True); refine Go1.mk ?_; repeat' ((first | (with_reducible refine Go1.go ?_) | ((with_reducible first | refine brv_mk ?_ ?_ | refine gsplitD ?_ ?_ | refine gsplitG ?_ ?_) <;> intro h <;> (try simp only [Bool.not_eq_true', Bool.not_eq_false'] at h) <;> replace hb0 := h) | ((first | (with_reducible refine isCall (f := 16) ?_; refine callA_nil (by kernel_rfl) ?_) | (with_reducible refine isCall0 (f := 16) ?_; refine callA0_nil (by kernel_rfl) ?_)); refine (fcheck_ok ha.n ha.d ha.on ha.od ha.bn ha.bd (fun M1 m1 => Stop.mk ?_))) | (refine And.intro ?ob ?_; case ob => ((try simp only [sxO, ne_eq, maxLen] at *); omega)) | fail) <;> (try simp (config := { maxSteps := 1000000 }) only [hb0, ha.n.one, ha.d.one, hb.n.one, hb.d.one, ↓hold_pre, awayP, runOps, regK, step1, newK, genR, appR, obl, buildR, Value.cells, closeK, keepH, outV, retK, ret1, retC, RetV, Option.getD, runD, stepD, afterK, undef, simprocAttr, sxB, ↓sxD, sxE, sxTab]))
  have m1 : Mem.le M M1 := m1
  have ha1 := ha.le m1
  have hb1 := hb.le m1
  refine Stop.go ?_
  cases hc1 : chkF l1 l2 with
  | false =>
    rw [hc1] at hK
    (replace hb0 := true_and True); refine Go1.mk ?_; repeat' ((first | (with_reducible refine Go1.go ?_) | ((with_reducible first | refine brv_mk ?_ ?_ | refine gsplitD ?_ ?_ | refine gsplitG ?_ ?_) <;> intro h <;> (try simp only [Bool.not_eq_true', Bool.not_eq_false'] at h) <;> replace hb0 := h) | (refine And.intro ?ob ?_; case ob => ((try simp only [sxO, ne_eq, maxLen] at *); omega)) | fail) <;> (try simp (config := { maxSteps := 1000000 }) only [hb0, ha1.n.one, ha1.d.one, hb1.n.one, hb1.d.one, ↓hold_pre, awayP, runOps, regK, step1, newK, genR, appR, obl, buildR, Value.cells, closeK, keepH, outV, retK, ret1, retC, RetV, Option.getD, runD, stepD, afterK, undef, simprocAttr, sxB, ↓sxD, sxE, sxTab]))
    exact hK.err _ m1
  | true =>
  (replace hb0 := true_and True); refine Go1.mk ?_; repeat' ((first | (with_reducible refine Go1.go ?_) | ((with_reducible first | refine brv_mk ?_ ?_ | refine gsplitD ?_ ?_ | refine gsplitG ?_ ?_) <;> intro h <;> (try simp only [Bool.not_eq_true', Bool.not_eq_false'] at h) <;> replace hb0 := h) | ((first | (with_reducible refine isCall (f := 16) ?_; refine callA_nil (by kernel_rfl) ?_) | (with_reducible refine isCall0 (f := 16) ?_; refine callA0_nil (by kernel_rfl) ?_)); refine (fcheck_ok hb1.n hb1.d hb1.on hb1.od hb1.bn hb1.bd (fun M2 m2 => Stop.mk ?_))) | (refine And.intro ?ob ?_; case ob => ((try simp only [sxO, ne_eq, maxLen] at *); omega)) | fail) <;> (try simp (config := { maxSteps := 1000000 }) only [hb0, ha1.n.one, ha1.d.one, hb1.n.one, hb1.d.one, ↓hold_pre, awayP, runOps, regK, step1, newK, genR, appR, obl, buildR, Value.cells, closeK, keepH, outV, retK, ret1, retC, RetV, Option.getD, runD, stepD, afterK, undef, simprocAttr, sxB, ↓sxD, sxE, sxTab]))
  have m2 : Mem.le M1 M2 := m2
  have ha2 := ha1.le m2
  have hb2 := hb1.le m2
  have hm := m1.trans m2
  refine Stop.go ?_
  cases hc2 : chkF k1 k2 with
  | false =>
    rw [hc1, hc2] at hK
    (replace hb0 := true_and True); refine Go1.mk ?_; repeat' ((first | (with_reducible refine Go1.go ?_) | ((with_reducible first | refine brv_mk ?_ ?_ | refine gsplitD ?_ ?_ | refine gsplitG ?_ ?_) <;> intro h <;> (try simp only [Bool.not_eq_true', Bool.not_eq_false'] at h) <;> replace hb0 := h) | (refine And.intro ?ob ?_; case ob => ((try simp only [sxO, ne_eq, maxLen] at *); omega)) | fail) <;> (try simp (config := { maxSteps := 1000000 }) only [hb0, ha2.n.one, ha2.d.one, hb2.n.one, hb2.d.one, ↓hold_pre, awayP, runOps, regK, step1, newK, genR, appR, obl, buildR, Value.cells, closeK, keepH, outV, retK, ret1, retC, RetV, Option.getD, runD, stepD, afterK, undef, simprocAttr, sxB, ↓sxD, sxE, sxTab]))
    exact hK.err _ hm
  | true =>
  rw [hc1, hc2, Bool.and_self, if_pos rfl] at hK
  obtain ⟨n1, d1, hn1, hd1, e1, e2, q1, q2, q3⟩ := ha2.num hc1
  obtain ⟨n2, d2, hn2, hd2, e3, e4, r1, r2, r3⟩ := hb2.num hc2
  rw [e1, e2, e3, e4] at hK
  have t1 := mul_len n1 d2
  have t2 := mul_len n2 d1
  have t3 := mul_len d1 d2
  have t4 := mul_len n1 n2
  have t0 : 0 < d1 * d2 := Nat.mul_pos q3 r3
  by_cases hz : n2 = 0
  · have z1 : decide (((ofN n2).length : Int) = 0) = true := by rw [hz, ofN_zero]; rfl
    rw [if_pos hz] at hK
    (replace hb0 := true_and True); refine Go1.mk ?_; repeat' ((first | (with_reducible refine Go1.go ?_) | ((with_reducible first | refine brv_mk ?_ ?_ | refine gsplitD ?_ ?_ | refine gsplitG ?_ ?_) <;> intro h <;> (try simp only [Bool.not_eq_true', Bool.not_eq_false'] at h) <;> replace hb0 := h) | (refine And.intro ?ob ?_; case ob => ((try simp only [sxO, ne_eq, maxLen] at *); omega)) | fail) <;> (try simp (config := { maxSteps := 1000000 }) only [hb0, hn1.one, hd1.one, hn2.one, hn2.len, hn2.sl, hd2.one, z1, ↓hold_pre, awayP, runOps, regK, step1, newK, genR, appR, obl, buildR, Value.cells, closeK, keepH, outV, retK, ret1, retC, RetV, Option.getD, runD, stepD, afterK, undef, simprocAttr, sxB, ↓sxD, sxE, sxTab]))
    exact hK.err _ hm
  rw [if_neg hz] at hK
  have z1 : decide (((ofN n2).length : Int) = 0) = false := by
    rw [decide_eq_false_iff_not]
    intro h
    exact hz (ofN_nil.1 (List.length_eq_zero_iff.1 (by omega)))
  have z0 : 0 < n2 * d1 := Nat.mul_pos (by omega) q3
  (replace hb0 := true_and True); refine Go1.mk ?_; repeat' ((first | (with_reducible refine Go1.go ?_) | ((with_reducible first | refine brv_mk ?_ ?_ | refine gsplitD ?_ ?_ | refine gsplitG ?_ ?_) <;> intro h <;> (try simp only [Bool.not_eq_true', Bool.not_eq_false'] at h) <;> replace hb0 := h) | ((first | (with_reducible refine isCall (f := 61) ?_; refine callA_nil (by kernel_rfl) ?_) | (with_reducible refine isCall0 (f := 61) ?_; refine callA0_nil (by kernel_rfl) ?_)); refine (cross_ok hn1 hd1 hn2 hd2 (by omega) (by omega) (by omega) (by omega) (fun wx wy M3 m3 hx hy fx fy => Stop.mk ?_))) | (refine And.intro ?ob ?_; case ob => ((try simp only [sxO, ne_eq, maxLen] at *); omega)) | fail) <;> (try simp (config := { maxSteps := 1000000 }) only [hb0, hn1.one, hd1.one, hn2.one, hd2.one, hn2.len, hn2.sl, z1, ↓hold_pre, awayP, runOps, regK, step1, newK, genR, appR, obl, buildR, Value.cells, closeK, keepH, outV, retK, ret1, retC, RetV, Option.getD, runD, stepD, afterK, undef, simprocAttr, sxB, ↓sxD, sxE, sxTab]))
  have m3 : Mem.le M2 M3 := m3
  have hn1 := hn1.le m3
  have hd1 := hd1.le m3
  have hn2 := hn2.le m3
  have hd2 := hd2.le m3
  have fx := fx.le hm
  have fy := fy.le hm
  have hm := hm.trans m3
  refine Stop.go ?_
  (replace hb0 := true_and True); refine Go1.mk ?_; repeat' ((first | (with_reducible refine Go1.go ?_) | ((with_reducible first | refine brv_mk ?_ ?_ | refine gsplitD ?_ ?_ | refine gsplitG ?_ ?_) <;> intro h <;> (try simp only [Bool.not_eq_true', Bool.not_eq_false'] at h) <;> replace hb0 := h) | ((first | (with_reducible refine isCall (f := 51) ?_; refine callA_nil (by kernel_rfl) ?_) | (with_reducible refine isCall0 (f := 51) ?_; refine callA0_nil (by kernel_rfl) ?_)); refine (exact_ok wx wy _ _ hx hy (by omega) (by omega) z0 (fun w1 w2 M4 m4 h1 h2 f1 f2 => Stop.mk ?_))) | (refine And.intro ?ob ?_; case ob => ((try simp only [sxO, ne_eq, maxLen] at *); omega)) | fail) <;> (try simp (config := { maxSteps := 1000000 }) only [hb0, hn1.one, hd1.one, hn2.one, hd2.one, hx.one, hy.one, ↓hold_pre, awayP, runOps, regK, step1, newK, genR, appR, obl, buildR, Value.cells, closeK, keepH, outV, retK, ret1, retC, RetV, Option.getD, runD, stepD, afterK, undef, simprocAttr, sxB, ↓sxD, sxE, sxTab]))
  have m4 : Mem.le M3 M4 := m4
  have hn1 := hn1.le m4
  have hd1 := hd1.le m4
  have hn2 := hn2.le m4
  have hd2 := hd2.le m4
  have hx := hx.le m4
  have hy := hy.le m4
  have f1 := f1.le hm
  have f2 := f2.le hm
  have hm := hm.trans m4
  refine Stop.go ?_
  (replace hb0 := true_and True); refine Go1.mk ?_; repeat' ((first | (with_reducible refine Go1.go ?_) | ((with_reducible first | refine brv_mk ?_ ?_ | refine gsplitD ?_ ?_ | refine gsplitG ?_ ?_) <;> intro h <;> (try simp only [Bool.not_eq_true', Bool.not_eq_false'] at h) <;> replace hb0 := h) | (refine And.intro ?ob ?_; case ob => ((try simp only [sxO, ne_eq, maxLen] at *); omega)) | fail) <;> (try simp (config := { maxSteps := 1000000 }) only [hb0, hn1.one, hd1.one, hn2.one, hd2.one, hx.one, hy.one, h1.one, h2.one, ↓hold_pre, awayP, runOps, regK, step1, newK, genR, appR, obl, buildR, Value.cells, closeK, keepH, outV, retK, ret1, retC, RetV, Option.getD, runD, stepD, afterK, undef, simprocAttr, sxB, ↓sxD, sxE, sxTab]))
  exact hK _ _ _ hm h1 h2 f1 f2
theorem fsub_ok (ha : IsF M u1 u2 l1 l2) (hb : IsF M v1 v2 k1 k2) (hK : FracK M K (subF l1 l2 k1 k2)) : CallS Tryd.prog 24 [.ext (.agg #[u1, u2]), .ext (.agg #[v1, v2])] [] M [] K := by
  refine inlS (cs := []) Tryd.mixed Tryd.func24 rfl (by kernel_rfl) 0 rfl rfl ?_
  simp only [Tryd.f24]
  unfold subF at hK
  (replace hb0 := true_and True); refine Go1.mk ?_; repeat' ((first | (with_reducible refine Go1.go ?_) | ((with_reducible first | refine brv_mk ?_ ?_ | refine gsplitD ?_ ?_ | refine gsplitG ?_ ?_) <;> intro h <;> (try simp only [Bool.not_eq_true', Bool.not_eq_false'] at h) <;> replace hb0 := h) | ((first | (with_reducible refine isCall (f := 16) ?_; refine callA_nil (by kernel_rfl) ?_) | (with_reducible refine isCall0 (f := 16) ?_; refine callA0_nil (by kernel_rfl) ?_)); refine (fcheck_ok ha.n ha.d ha.on ha.od ha.bn ha.bd (fun M1 m1 => Stop.mk ?_))) | (refine And.intro ?ob ?_; case ob => ((try simp only [sxO, ne_eq, maxLen] at *); omega)) | fail) <;> (try simp (config := { maxSteps := 1000000 }) only [hb0, ha.n.one, ha.d.one, hb.n.one, hb.d.one, ↓hold_pre, awayP, runOps, regK, step1, newK, genR, appR, obl, buildR, Value.cells, closeK, keepH, outV, retK, ret1, retC, RetV, Option.getD, runD, stepD, afterK, undef, simprocAttr, sxB, ↓sxD, sxE, sxTab]))
  have m1 : Mem.le M M1 := m1
  have ha1 := ha.le m1
  have hb1 := hb.le m1
  refine Stop.go ?_
  cases hc1 : chkF l1 l2 with
  | false =>
    rw [hc1] at hK
    (replace hb0 := true_and True); refine Go1.mk ?_; repeat' ((first | (with_reducible refine Go1.go ?_) | ((with_reducible first | refine brv_mk ?_ ?_ | refine gsplitD ?_ ?_ | refine gsplitG ?_ ?_) <;> intro h <;> (try simp only [Bool.not_eq_true', Bool.not_eq_false'] at h) <;> replace hb0 := h) | (refine And.intro ?ob ?_; case ob => ((try simp only [sxO, ne_eq, maxLen] at *); omega)) | fail) <;> (try simp (config := { maxSteps := 1000000 }) only [hb0, ha1.n.one, ha1.d.one, hb1.n.one, hb1.d.one, ↓hold_pre, awayP, runOps, regK, step1, newK, genR, appR, obl, buildR, Value.cells, closeK, keepH, outV, retK, ret1, retC, RetV, Option.getD, runD, stepD, afterK, undef, simprocAttr, sxB, ↓sxD, sxE, sxTab]))
    exact hK.err _ m1
  | true =>
  (replace hb0 := true_and True); refine Go1.mk ?_; repeat' ((first | (with_reducible refine Go1.go ?_) | ((with_reducible first | refine brv_mk ?_ ?_ | refine gsplitD ?_ ?_ | refine gsplitG ?_ ?_) <;> intro h <;> (try simp only [Bool.not_eq_true', Bool.not_eq_false'] at h) <;> replace hb0 := h) | ((first | (with_reducible refine isCall (f := 16) ?_; refine callA_nil (by kernel_rfl) ?_) | (with_reducible refine isCall0 (f := 16) ?_; refine callA0_nil (by kernel_rfl) ?_)); refine (fcheck_ok hb1.n hb1.d hb1.on hb1.od hb1.bn hb1.bd (fun M2 m2 => Stop.mk ?_))) | (refine And.intro ?ob ?_; case ob => ((try simp only [sxO, ne_eq, maxLen] at *); omega)) | fail) <;> (try simp (config := { maxSteps := 1000000 }) only [hb0, ha1.n.one, ha1.d.one, hb1.n.one, hb1.d.one, ↓hold_pre, awayP, runOps, regK, step1, newK, genR, appR, obl, buildR, Value.cells, closeK, keepH, outV, retK, ret1, retC, RetV, Option.getD, runD, stepD, afterK, undef, simprocAttr, sxB, ↓sxD, sxE, sxTab]))
  have m2 : Mem.le M1 M2 := m2
  have ha2 := ha1.le m2
  have hb2 := hb1.le m2
  have hm := m1.trans m2
  refine Stop.go ?_
  cases hc2 : chkF k1 k2 with
  | false =>
    rw [hc1, hc2] at hK
    (replace hb0 := true_and True); refine Go1.mk ?_; repeat' ((first | (with_reducible refine Go1.go ?_) | ((with_reducible first | refine brv_mk ?_ ?_ | refine gsplitD ?_ ?_ | refine gsplitG ?_ ?_) <;> intro h <;> (try simp only [Bool.not_eq_true', Bool.not_eq_false'] at h) <;> replace hb0 := h) | (refine And.intro ?ob ?_; case ob => ((try simp only [sxO, ne_eq, maxLen] at *); omega)) | fail) <;> (try simp (config := { maxSteps := 1000000 }) only [hb0, ha2.n.one, ha2.d.one, hb2.n.one, hb2.d.one, ↓hold_pre, awayP, runOps, regK, step1, newK, genR, appR, obl, buildR, Value.cells, closeK, keepH, outV, retK, ret1, retC, RetV, Option.getD, runD, stepD, afterK, undef, simprocAttr, sxB, ↓sxD, sxE, sxTab]))
    exact hK.err _ hm
  | true =>
  rw [hc1, hc2, Bool.and_self, if_pos rfl] at hK
  obtain ⟨n1, d1, hn1, hd1, e1, e2, q1, q2, q3⟩ := ha2.num hc1
  obtain ⟨n2, d2, hn2, hd2, e3, e4, r1, r2, r3⟩ := hb2.num hc2
  rw [e1, e2, e3, e4] at hK
  have t1 := mul_len n1 d2
  have t2 := mul_len n2 d1
  have t3 := mul_len d1 d2
  have t4 := mul_len n1 n2
  have t0 : 0 < d1 * d2 := Nat.mul_pos q3 r3
  (replace hb0 := true_and True); refine Go1.mk ?_; repeat' ((first | (with_reducible refine Go1.go ?_) | ((with_reducible first | refine brv_mk ?_ ?_ | refine gsplitD ?_ ?_ | refine gsplitG ?_ ?_) <;> intro h <;> (try simp only [Bool.not_eq_true', Bool.not_eq_false'] at h) <;> replace hb0 := h) | ((first | (with_reducible refine isCall (f := 61) ?_; refine callA_nil (by kernel_rfl) ?_) | (with_reducible refine isCall0 (f := 61) ?_; refine callA0_nil (by kernel_rfl) ?_)); refine (cross_ok hn1 hd1 hn2 hd2 (by omega) (by omega) (by omega) (by omega) (fun wx wy M3 m3 hx hy fx fy => Stop.mk ?_))) | ((with_reducible refine isDraw [some 28, some 29, some 30, some 31, some 32, some 33, some 34, some 35, some 36, some 37, some 38, none, some 5] (by decide) ?_); refine draw_rule [(0, []), (1, []), (3, []), (4, []), (5, [4]), (6, [4]), (2, [4, 6]), (7, []), (8, []), (9, []), (10, []), (11, []), (12, [])] [[], [], [0, 1], [], [3], [], [5], [0, 1, 2, 3, 4, 5, 6], [0, 1, 2, 3, 4, 5, 6, 7], [0, 1, 2, 3, 4, 5, 6, 7, 8], [0, 1, 2, 3, 4, 5, 6, 7, 8], [0, 1, 2, 3, 4, 5, 6, 7, 8, 9, 10], [0, 1, 2, 3, 4, 5, 6, 7, 8, 9, 10, 11]] [28, 29, 30, 31, 32, 33, 34, 37, 38] [] (by kernel_rfl) (by kernel_rfl) (by kernel_rfl) (by kernel_rfl) (by exact trivial) ?_) | (refine And.intro ?ob ?_; case ob => ((try simp only [sxO, ne_eq, maxLen] at *); omega)) | fail) <;> (try simp (config := { maxSteps := 1000000 }) only [hb0, hn1.one, hd1.one, hn2.one, hd2.one, ↓hold_pre, awayP, runOps, regK, step1, newK, genR, appR, obl, buildR, Value.cells, closeK, keepH, outV, retK, ret1, retC, RetV, Option.getD, runD, stepD, afterK, undef, simprocAttr, sxB, ↓sxD, sxE, sxTab]))
  have m3 : Mem.le M2 M3 := m3
  have hn1 := hn1.le m3
  have hd1 := hd1.le m3
  have hn2 := hn2.le m3
  have hd2 := hd2.le m3
  have fx := fx.le hm
  have fy := fy.le hm
  have hm := hm.trans m3
  refine Stop.go ?_
  by_cases hlt : n1 * d2 < n2 * d1
  · have z1 : decide (cmpN (n1 * d2) (n2 * d1) < 0) = true := by rw [cmpN_lt hlt]; decide
    rw [if_pos hlt] at hK
    (replace hb0 := true_and True); refine Go1.mk ?_; repeat' ((first | (with_reducible refine Go1.go ?_) | ((with_reducible first | refine brv_mk ?_ ?_ | refine gsplitD ?_ ?_ | refine gsplitG ?_ ?_) <;> intro h <;> (try simp only [Bool.not_eq_true', Bool.not_eq_false'] at h) <;> replace hb0 := h) | ((first | (with_reducible refine isCall (f := 60) ?_; refine callA_nil (by kernel_rfl) ?_) | (with_reducible refine isCall0 (f := 60) ?_; refine callA0_nil (by kernel_rfl) ?_)); refine (compare_ok wx wy _ _ hx hy (by omega) (by omega) ?_)) | (refine And.intro ?ob ?_; case ob => ((try simp only [sxO, ne_eq, maxLen] at *); omega)) | fail) <;> (try simp (config := { maxSteps := 1000000 }) only [hb0, hn1.one, hd1.one, hn2.one, hd2.one, hx.one, hy.one, z1, ↓hold_pre, awayP, runOps, regK, step1, newK, genR, appR, obl, buildR, Value.cells, closeK, keepH, outV, retK, ret1, retC, RetV, Option.getD, runD, stepD, afterK, undef, simprocAttr, sxB, ↓sxD, sxE, sxTab]))
    exact hK.err _ hm
  have z1 : decide (cmpN (n1 * d2) (n2 * d1) < 0) = false := by
    rw [decide_eq_false_iff_not]; unfold cmpN; rw [if_neg hlt]; split <;> omega
  rw [if_neg hlt] at hK
  have t5 := len_mono (show n1 * d2 - n2 * d1 ≤ n1 * d2 by omega)
  (replace hb0 := true_and True); refine Go1.mk ?_; repeat' ((first | (with_reducible refine Go1.go ?_) | ((with_reducible first | refine brv_mk ?_ ?_ | refine gsplitD ?_ ?_ | refine gsplitG ?_ ?_) <;> intro h <;> (try simp only [Bool.not_eq_true', Bool.not_eq_false'] at h) <;> replace hb0 := h) | ((first | (with_reducible refine isCall (f := 60) ?_; refine callA_nil (by kernel_rfl) ?_) | (with_reducible refine isCall0 (f := 60) ?_; refine callA0_nil (by kernel_rfl) ?_)); refine (compare_ok wx wy _ _ hx hy (by omega) (by omega) ?_)) | ((first | (with_reducible refine isCall (f := 67) ?_; refine callA_nil (by kernel_rfl) ?_) | (with_reducible refine isCall0 (f := 67) ?_; refine callA0_nil (by kernel_rfl) ?_)); refine (sub_ok wx wy _ _ hx hy (by omega) (by omega) (fun ws M4 m4 hs fs => Stop.mk ?_))) | ((with_reducible refine isDraw [some 28, some 29, some 30, some 31, some 32, some 33, some 34, some 35, some 36, some 37, some 38, none, some 5] (by decide) ?_); refine draw_rule [(0, []), (1, []), (3, []), (4, []), (5, [4]), (6, [4]), (2, [4, 6]), (7, []), (8, []), (9, []), (10, []), (11, []), (12, [])] [[], [], [0, 1], [], [3], [], [5], [0, 1, 2, 3, 4, 5, 6], [0, 1, 2, 3, 4, 5, 6, 7], [0, 1, 2, 3, 4, 5, 6, 7, 8], [0, 1, 2, 3, 4, 5, 6, 7, 8], [0, 1, 2, 3, 4, 5, 6, 7, 8, 9, 10], [0, 1, 2, 3, 4, 5, 6, 7, 8, 9, 10, 11]] [28, 29, 30, 31, 32, 33, 34, 37, 38] [] (by kernel_rfl) (by kernel_rfl) (by kernel_rfl) (by kernel_rfl) (by exact trivial) ?_) | (refine And.intro ?ob ?_; case ob => ((try simp only [sxO, ne_eq, maxLen] at *); omega)) | fail) <;> (try simp (config := { maxSteps := 1000000 }) only [hb0, hn1.one, hd1.one, hn2.one, hd2.one, hx.one, hy.one, z1, ↓hold_pre, awayP, runOps, regK, step1, newK, genR, appR, obl, buildR, Value.cells, closeK, keepH, outV, retK, ret1, retC, RetV, Option.getD, runD, stepD, afterK, undef, simprocAttr, sxB, ↓sxD, sxE, sxTab]))
  have m4 : Mem.le M3 M4 := m4
  have hn1 := hn1.le m4
  have hd1 := hd1.le m4
  have hn2 := hn2.le m4
  have hd2 := hd2.le m4
  have hx := hx.le m4
  have hy := hy.le m4
  have fs := fs.le hm
  have hm := hm.trans m4
  refine Stop.go ?_
  (replace hb0 := true_and True); refine Go1.mk ?_; repeat' ((first | (with_reducible refine Go1.go ?_) | ((with_reducible first | refine brv_mk ?_ ?_ | refine gsplitD ?_ ?_ | refine gsplitG ?_ ?_) <;> intro h <;> (try simp only [Bool.not_eq_true', Bool.not_eq_false'] at h) <;> replace hb0 := h) | ((first | (with_reducible refine isCall (f := 64) ?_; refine callA_nil (by kernel_rfl) ?_) | (with_reducible refine isCall0 (f := 64) ?_; refine callA0_nil (by kernel_rfl) ?_)); refine (mul_ok u2 v2 d1 d2 hd1 hd2 (by omega) (by omega) (fun wp M5 m5 hp fp => Stop.mk ?_))) | ((with_reducible refine isDraw [some 28, some 29, some 30, some 31, some 32, some 33, some 34, some 35, some 36, some 37, some 38, none, some 5] (by decide) ?_); refine draw_rule [(0, []), (1, []), (3, []), (4, []), (5, [4]), (6, [4]), (2, [4, 6]), (7, []), (8, []), (9, []), (10, []), (11, []), (12, [])] [[], [], [0, 1], [], [3], [], [5], [0, 1, 2, 3, 4, 5, 6], [0, 1, 2, 3, 4, 5, 6, 7], [0, 1, 2, 3, 4, 5, 6, 7, 8], [0, 1, 2, 3, 4, 5, 6, 7, 8], [0, 1, 2, 3, 4, 5, 6, 7, 8, 9, 10], [0, 1, 2, 3, 4, 5, 6, 7, 8, 9, 10, 11]] [28, 29, 30, 31, 32, 33, 34, 37, 38] [] (by kernel_rfl) (by kernel_rfl) (by kernel_rfl) (by kernel_rfl) (by exact trivial) ?_) | (refine And.intro ?ob ?_; case ob => ((try simp only [sxO, ne_eq, maxLen] at *); omega)) | fail) <;> (try simp (config := { maxSteps := 1000000 }) only [hb0, hn1.one, hd1.one, hn2.one, hd2.one, hx.one, hy.one, hs.one, ↓hold_pre, awayP, runOps, regK, step1, newK, genR, appR, obl, buildR, Value.cells, closeK, keepH, outV, retK, ret1, retC, RetV, Option.getD, runD, stepD, afterK, undef, simprocAttr, sxB, ↓sxD, sxE, sxTab]))
  have m5 : Mem.le M4 M5 := m5
  have hn1 := hn1.le m5
  have hd1 := hd1.le m5
  have hn2 := hn2.le m5
  have hd2 := hd2.le m5
  have hx := hx.le m5
  have hy := hy.le m5
  have hs := hs.le m5
  have fp := fp.le hm
  have hm := hm.trans m5
  refine Stop.go ?_
  (replace hb0 := true_and True); refine Go1.mk ?_; repeat' ((first | (with_reducible refine Go1.go ?_) | ((with_reducible first | refine brv_mk ?_ ?_ | refine gsplitD ?_ ?_ | refine gsplitG ?_ ?_) <;> intro h <;> (try simp only [Bool.not_eq_true', Bool.not_eq_false'] at h) <;> replace hb0 := h) | ((first | (with_reducible refine isCall (f := 51) ?_; refine callA_nil (by kernel_rfl) ?_) | (with_reducible refine isCall0 (f := 51) ?_; refine callA0_nil (by kernel_rfl) ?_)); refine (exact_ok ws wp _ _ hs hp (by omega) (by omega) t0 (fun w1 w2 M6 m6 h1 h2 f1 f2 => Stop.mk ?_))) | ((with_reducible refine isDraw [some 28, some 29, some 30, some 31, some 32, some 33, some 34, some 35, some 36, some 37, some 38, none, some 5] (by decide) ?_); refine draw_rule [(0, []), (1, []), (3, []), (4, []), (5, [4]), (6, [4]), (2, [4, 6]), (7, []), (8, []), (9, []), (10, []), (11, []), (12, [])] [[], [], [0, 1], [], [3], [], [5], [0, 1, 2, 3, 4, 5, 6], [0, 1, 2, 3, 4, 5, 6, 7], [0, 1, 2, 3, 4, 5, 6, 7, 8], [0, 1, 2, 3, 4, 5, 6, 7, 8], [0, 1, 2, 3, 4, 5, 6, 7, 8, 9, 10], [0, 1, 2, 3, 4, 5, 6, 7, 8, 9, 10, 11]] [28, 29, 30, 31, 32, 33, 34, 37, 38] [] (by kernel_rfl) (by kernel_rfl) (by kernel_rfl) (by kernel_rfl) (by exact trivial) ?_) | (refine And.intro ?ob ?_; case ob => ((try simp only [sxO, ne_eq, maxLen] at *); omega)) | fail) <;> (try simp (config := { maxSteps := 1000000 }) only [hb0, hn1.one, hd1.one, hn2.one, hd2.one, hx.one, hy.one, hs.one, hp.one, ↓hold_pre, awayP, runOps, regK, step1, newK, genR, appR, obl, buildR, Value.cells, closeK, keepH, outV, retK, ret1, retC, RetV, Option.getD, runD, stepD, afterK, undef, simprocAttr, sxB, ↓sxD, sxE, sxTab]))
  have m6 : Mem.le M5 M6 := m6
  have hn1 := hn1.le m6
  have hd1 := hd1.le m6
  have hn2 := hn2.le m6
  have hd2 := hd2.le m6
  have hx := hx.le m6
  have hy := hy.le m6
  have hs := hs.le m6
  have hp := hp.le m6
  have f1 := f1.le hm
  have f2 := f2.le hm
  have hm := hm.trans m6
  refine Stop.go ?_
  (replace hb0 := true_and True); refine Go1.mk ?_; repeat' ((first | (with_reducible refine Go1.go ?_) | ((with_reducible first | refine brv_mk ?_ ?_ | refine gsplitD ?_ ?_ | refine gsplitG ?_ ?_) <;> intro h <;> (try simp only [Bool.not_eq_true', Bool.not_eq_false'] at h) <;> replace hb0 := h) | (refine And.intro ?ob ?_; case ob => ((try simp only [sxO, ne_eq, maxLen] at *); omega)) | fail) <;> (try simp (config := { maxSteps := 1000000 }) only [hb0, hn1.one, hd1.one, hn2.one, hd2.one, hx.one, hy.one, hs.one, hp.one, h1.one, h2.one, ↓hold_pre, awayP, runOps, regK, step1, newK, genR, appR, obl, buildR, Value.cells, closeK, keepH, outV, retK, ret1, retC, RetV, Option.getD, runD, stepD, afterK, undef, simprocAttr, sxB, ↓sxD, sxE, sxTab]))
  exact hK _ _ _ hm h1 h2 f1 f2
end
end Go.Proofs.YtamghpnjdohnjaaDoor.Sx
namespace Go.Proofs.YtamghpnjdohnjaaDoor.Sx
set_option linter.unusedVariables false
open Go Go.RowKit Go.ChangeShapes Go.WideShapes Go.ChangeAt
section
variable {H : Type} {enc : TypeId × Value → H} {P : Program}
theorem post_of_below {f : Func} {s : ChangeSpec} {apart fresh handsOn again : Bool} {W W' : World} {args : Array Value} {v : Value} {ds gs : List (DataW H)} {before pa pv : List MemPlace}
    (hW : DataW.Whole enc P f.params.toList s.vars apart W args.toList ds gs before)
    (hres : ∀ (b : Nat) (sp : Nat → Bool) (hd : Bool), DataW.TrodAll enc P W' b sp hd f.resultTypes.toList (v.resultList f.resultTypes.size) (s.fn H (ds ++ gs)).results [])
    (hargs : ∀ sp : Nat → Bool, (∀ p ∈ before, sp p.block = true) → DataW.TrodAll enc P W' 0 sp true f.params.toList args.toList (s.fn H (ds ++ gs)).args pa)
    (hvars : ∀ sp : Nat → Bool, (∀ p ∈ before, sp p.block = true) → DataW.TrodVars enc P W' sp s.vars (s.fn H (ds ++ gs)).vars pv)
    (hps : before = pa ++ pv) (hb : Below W.heap.size W W')
    (hok : ∀ (j : Nat) (t : TypeId) (r : Value), f.resultTypes[j]? = some t → (v.resultList f.resultTypes.size)[j]? = some r → Value.okWide P W' .any 0 t r) :
    s.post enc P f apart fresh handsOn again W args v W' := by
  have hlt : ∀ p ∈ before, p.block < W.heap.size := fun p hp => hW.lt p hp
  have hold : ∀ p ∈ before, (fun b => decide (b < W.heap.size)) p.block = true := fun p hp => by simpa using hlt p hp
  refine ⟨ds, gs, before, [], pa, pv, hW, hres _ _ _, hargs _ hold, hvars _ hold, World.keptBut_mono (fun p hp => ⟨hp, ?_⟩) (hb.frame (· ∈ before)), fun _ => ?_⟩
  · rw [hps, List.mem_append] at hp
    exact Or.inr hp
  · obtain ⟨_, _, _, _, _, hz, hn⟩ := hW
    refine ⟨hok, _, _, ([] ++ pa) ++ pv, ⟨[] ++ pa, pv, trodAll_append (hargs _ (fun _ _ => rfl)) (hres _ _ _), hvars _ (fun _ _ => rfl), rfl, ?_, ?_⟩, ?_⟩
    · intro b off hp
      have hin : MemPlace.cell b off ∈ before := by rw [hps]; simpa using hp
      rw [hb.frozen (hlt _ hin)]
      exact hz b off hin
    · intro ha
      have := hn ha
      rw [hps] at this
      simpa using this
    · intro p hp _
      rw [hps]
      simpa using hp
def rdAll (P : Program) : List TypeId → Bool
  | [] => true
  | t :: r => P.readableRec t && decide (t < P.types.size) && rdAll P r
theorem trodAll_stays {W W' : World} (hl : laidOutB P = true) (hb : Below W.heap.size W W') {sp : Nat → Bool} : ∀ {ts : List TypeId} {vs : List Value} {ds : List (DataW H)} {ps : List MemPlace}, rdAll P ts = true → (∀ p ∈ ps, p.block < W.heap.size) → (∀ p ∈ ps, sp p.block = true) →
    DataW.TrodAll enc P W 0 (fun _ => true) true ts vs ds ps → DataW.TrodAll enc P W' 0 sp true ts vs ds ps
  | [], [], [], _, _, _, _, h => h
  | t :: ts, v :: vs, d :: ds, ps, hr, hlt, hs, h => by
    obtain ⟨p, q, h1, h2, rfl⟩ := h
    simp only [rdAll, Bool.and_eq_true, decide_eq_true_eq] at hr
    refine ⟨p, q, Go.WideElems.Trod_stays hl hr.1.1 hr.1.2 h1 (fun x hx => hb.same (hlt x (by simp [hx]))) (fun x hx => hs x (by simp [hx])), ?_, rfl⟩
    exact trodAll_stays hl hb hr.2 (fun x hx => hlt x (by simp [hx])) (fun x hx => hs x (by simp [hx])) h2
  | [], [], _ :: _, _, _, _, _, h => h.elim
  | [], _ :: _, _, _, _, _, _, h => h.elim
  | _ :: _, [], _, _, _, _, _, h => h.elim
  | _ :: _, _ :: _, [], _, _, _, _, h => h.elim
def heapM (W : World) : Mem := fun b => W.heap[b]?
theorem law_callsM {f : FuncId} {us : List Value} {w : World} (h : CallS P f (us.map .ext) [] (heapM w) [] fun v H' M' => v = .ext (.bool true)) :
    Calls P f us.toArray w fun e w' => e = .returned (.bool true) ∧ Below w.heap.size w w' := by
  refine (h (fun _ => none) w us ⟨fun k T cs b hk => by simp [lkH] at hk, fun k T cs hk => by simp [lkH] at hk, fun k k' b b' hk => by simp [lkH] at hk, fun b o hx => hx⟩ (isL_ext us)).mono fun e w' hall => ?_
  obtain ⟨r, v, H', M'', ρ', e1, rfl, hL⟩ := hall
  have hr : r = .bool true := hL.is
  subst hr
  exact ⟨e1, ⟨hL.os, hL.tape, hL.output, hL.size, fun i hi => hL.block i hi fun j y hj => by simp [lkH] at hj⟩⟩
theorem cell_heapM {W : World} {a : Addr} {v : Value} (h : W.cell? a = some v) : a.spot = none ∧ cellM (heapM W) a.block a.off = some v := by
  unfold World.cell? at h
  split at h
  · rename_i c _ _ hc
    split at h
    · cases h
    · rename_i hs
      refine ⟨by simpa using hs, ?_⟩
      unfold cellM heapM
      rw [hc]
      exact h
  · cases h
variable {W : World} {base : Nat} {spare : Nat → Bool} {held : Bool}
theorem okSlice {t e : TypeId} {a : Addr} {len cap : Nat} {r : Reach} {b0 : Nat} (ht : P.underlying t = some (.slice e)) (hv : Value.okWide P W r b0 t (.slice (some a) len cap)) : a.spot = none := by
  simp only [Value.okWide, ht, Cell.okWide, Cell.ok] at hv
  exact hv.2.2.2.1
theorem open_row {t e : TypeId} {z : Nat} {v : Value} {d : DataW H} {ps : List MemPlace} {r : Reach} {b0 : Nat} (ht : P.underlying t = some (.slice e)) (hz : P.cellsOf e = z) (hv : Value.okWide P W r b0 t v) (h : DataW.Trod enc P W base spare held t v d ps) :
    ∃ n cs, SlM (heapM W) z v n cs ∧ n ≤ maxLen ∧ ∀ i, i < n → ∃ fu x, DataW.trod enc P W base spare held fu e ((cs.drop (i * z)).take z) = some x := by
  obtain ⟨fuel, hf⟩ := h
  have hone : v.cells.toList = [v] := by
    obtain ⟨a, l, c, rfl⟩ := okWide_slice ht hv
    rfl
  rw [hone] at hf
  rcases Go.Deep.open_slice ht hf with ⟨h0, _⟩ | ⟨a, len, cap, m, n, D, Pl, hcs, hb, hl, hm, hmm, hx, hi⟩
  · obtain rfl : v = .slice none 0 0 := by simpa using h0
    exact ⟨0, [], slM_nil _ _ _, Nat.zero_le _, fun i hi => by omega⟩
  · obtain rfl : v = .slice (some a) len cap := by simpa using hcs
    have hsp := okSlice ht hv
    have hlm : len ≤ m := by rw [hmm]; split <;> omega
    subst hz
    have key : ∀ i, i < len → ∃ cs', cs'.length = P.cellsOf e ∧ (∀ j, j < P.cellsOf e → cellM (heapM W) a.block (a.off + i * P.cellsOf e + j) = cs'[j]?) ∧ ∃ fu x, DataW.trod enc P W base spare held fu e cs' = some x := by
      intro i hil
      obtain ⟨cs', h1, h2⟩ := hi i (by omega)
      obtain ⟨_, h3, h4⟩ := World.cells?_some h1
      refine ⟨cs', h3, fun j hj => ?_, _, _, h2⟩
      have h5 := h4 j hj
      rw [List.getElem?_eq_getElem (by omega)] at h5 ⊢
      have h6 := (cell_heapM h5).2
      have hb1 : ∀ (x : Addr) n, (x.add n).block = x.block := fun x n => by unfold Addr.add; split <;> rfl
      have hb2 : ∀ (x : Addr) n, (x.add n).off = x.off + n := fun x n => by unfold Addr.add; split <;> simp_all
      rw [hb1, hb1, hb2, hb2] at h6
      exact h6
    let F : Nat → List Value := fun i => if h : i < len then (key i h).choose else []
    have hF : ∀ i (h : i < len), (F i).length = P.cellsOf e ∧ (∀ j, j < P.cellsOf e → cellM (heapM W) a.block (a.off + i * P.cellsOf e + j) = (F i)[j]?) ∧ ∃ fu x, DataW.trod enc P W base spare held fu e (F i) = some x := by
      intro i h
      have := (key i h).choose_spec
      show (dite _ _ _ : List Value).length = _ ∧ _
      simp only [F, h, dite_true]
      exact this
    have hlen : ∀ k, k ≤ len → ((List.range k).flatMap F).length = k * P.cellsOf e ∧ (∀ j, j < k * P.cellsOf e → cellM (heapM W) a.block (a.off + j) = ((List.range k).flatMap F)[j]?) ∧ ∀ i, i < k → (((List.range k).flatMap F).drop (i * P.cellsOf e)).take (P.cellsOf e) = F i := by
      intro k
      induction k with
      | zero => intro _; simp
      | succ k ih =>
        intro hk
        obtain ⟨a1, a2, a3⟩ := ih (by omega)
        obtain ⟨b1, b2, _⟩ := hF k (by omega)
        rw [List.range_succ, List.flatMap_append]
        simp only [List.flatMap_cons, List.flatMap_nil, List.append_nil]
        refine ⟨by rw [List.length_append, a1, b1, Nat.succ_mul], fun j hj => ?_, fun i hi => ?_⟩
        · by_cases hjk : j < k * P.cellsOf e
          · rw [List.getElem?_append_left (by omega)]
            exact a2 j hjk
          · rw [List.getElem?_append_right (by omega), a1]
            have := b2 (j - k * P.cellsOf e) (by rw [Nat.succ_mul] at hj; omega)
            rw [← this]
            congr 1
            omega
        · by_cases hik : i < k
          · rw [← a3 i hik]
            have h1 : i * P.cellsOf e + P.cellsOf e ≤ k * P.cellsOf e := by
              have := Nat.mul_le_mul_right (P.cellsOf e) (show i + 1 ≤ k by omega)
              rw [Nat.succ_mul] at this
              exact this
            rw [List.drop_append_of_le_length (by omega), List.take_append_of_le_length (by rw [List.length_drop]; omega)]
          · obtain rfl : i = k := by omega
            rw [List.drop_append_of_le_length (by omega), List.drop_eq_nil_of_le (by omega)]
            simp only [List.nil_append]
            exact List.take_of_length_le (by omega)
    obtain ⟨c1, c2, c3⟩ := hlen len (Nat.le_refl _)
    refine ⟨len, (List.range len).flatMap F, ⟨rfl, rfl, hl, c1, ?_⟩, by omega, fun i hi => ?_⟩
    · obtain ⟨b, off, sp⟩ := a
      obtain rfl : sp = none := hsp
      refine rowM_of c1 fun i v hv => ?_
      have hlt : i < ((List.range len).flatMap F).length := (List.getElem?_eq_some_iff.1 hv).1
      rw [← hv]
      exact c2 i (by omega)
    · rw [c3 i hi]
      exact (hF i hi).2.2
theorem open_isL {t e : TypeId} {α : Type} {g : α → Value} {ok : α → Prop} {v : Value} {d : DataW H} {ps : List MemPlace} {r : Reach} {b0 : Nat} (ht : P.underlying t = some (.slice e)) (hz : P.cellsOf e = 1) (hg : ∀ {fu c x}, DataW.trod enc P W base spare held fu e [c] = some x → ∃ y, c = g y ∧ ok y) (hv : Value.okWide P W r b0 t v) (h : DataW.Trod enc P W base spare held t v d ps) :
    ∃ l : List α, IsL (heapM W) g v l ∧ l.length ≤ maxLen ∧ ∀ x ∈ l, ok x := by
  obtain ⟨n, cs, h1, h2, h3⟩ := open_row ht hz hv h
  have hl : cs.length = n := by have := h1.size; omega
  have : ∀ i, i < cs.length → ∃ y, cs[i]? = some (g y) ∧ ok y := by
    intro i hi
    obtain ⟨fu, x, hx⟩ := h3 i (by omega)
    rw [Nat.mul_one, List.drop_eq_getElem_cons hi] at hx
    obtain ⟨y, h4, h5⟩ := hg hx
    exact ⟨y, by rw [List.getElem?_eq_getElem hi, h4], h5⟩
  have key : ∀ cs : List Value, (∀ i, i < cs.length → ∃ y, cs[i]? = some (g y) ∧ ok y) → ∃ l : List α, cs = l.map g ∧ ∀ x ∈ l, ok x := by
    intro cs
    induction cs with
    | nil => intro _; exact ⟨[], rfl, by simp⟩
    | cons c cs ih =>
      intro hh
      obtain ⟨y, hy, hy2⟩ := hh 0 (by simp)
      obtain ⟨l, rfl, hl2⟩ := ih fun i hi => hh (i + 1) (by simp; omega)
      obtain rfl : c = g y := by simpa using hy
      exact ⟨y :: l, rfl, by simpa using ⟨hy2, hl2⟩⟩
  obtain ⟨l, rfl, hl2⟩ := key cs this
  have hln : l.length = n := by simpa using hl
  subst hln
  exact ⟨l, h1, h2, hl2⟩
def intVk (k : IntKind) (x : Int) : Value := .int k x
theorem open_sints {t e : TypeId} {k : IntKind} {v : Value} {d : DataW H} {ps : List MemPlace} {r : Reach} {b0 : Nat} (ht : P.underlying t = some (.slice e)) (he : P.underlying e = some (.int k)) (hz : P.cellsOf e = 1) (hv : Value.okWide P W r b0 t v) (h : DataW.Trod enc P W base spare held t v d ps) :
    ∃ l : List Int, IsL (heapM W) (intVk k) v l ∧ l.length ≤ maxLen ∧ ∀ x ∈ l, (Lit.int k x).wf = true :=
  open_isL ht hz (fun {fu c x} hx => by
    obtain ⟨n, h1, _, h2⟩ := DataW.trod_int he hx
    exact ⟨n, by simpa [intVk] using h1, h2⟩) hv h
end
end Go.Proofs.YtamghpnjdohnjaaDoor.Sx
namespace Go.Proofs.YtamghpnjdohnjaaDoor.Sx
open Go Go.RowKit
set_option linter.unusedVariables false
set_option linter.unusedSimpArgs false
set_option maxRecDepth 100000
set_option maxHeartbeats 8000000
attribute [local congr] fin_congr finG_congr stepG_congr step1_congr runOps_congr brv_congr obl_congr condK_congr LoopK_congr seqK_congr CutK_congr vc_congr DrawK_congr regK_congr CallK_congr AskK_congr newK_congr retC_congr ret1_congr retK_congr outV_congr closeK_congr genR_congr appR_congr finD_congr finGD_congr stepGD_congr stepD_congr CallK0_congr runD_congr okR_congr CallS_congr vcX_congr
attribute [local congr] Stop_congr
theorem u32_wf {x : Int} (h : (Lit.int .u32 x).wf = true) : 0 ≤ x ∧ x < 4294967296 := by
  have e1 : IntKind.u32.min = 0 := rfl
  have e2 : IntKind.u32.max = 4294967295 := rfl
  simp only [Lit.wf, e1, e2, Bool.and_eq_true, decide_eq_true_eq] at h
  omega
theorem nats_of {M : Mem} {v : Value} {l : List Int} (h : IsL M (intVk .u32) v l) (hw : ∀ x ∈ l, (Lit.int .u32 x).wf = true) : IsL M u32V v (l.map Int.toNat) ∧ okN (l.map Int.toNat) := by
  refine ⟨?_, fun x hx => ?_⟩
  · unfold IsL at h ⊢
    rw [List.length_map, List.map_map]
    have e : l.map (u32V ∘ Int.toNat) = l.map (intVk .u32) := List.map_congr_left fun x hx => by
      have := (u32_wf (hw x hx)).1
      simp only [Function.comp, u32V, intVk]
      rw [Int.toNat_of_nonneg this]
    rw [e]; exact h
  · obtain ⟨y, hy, rfl⟩ := List.mem_map.1 hx
    have := u32_wf (hw y hy)
    omega
end Go.Proofs.YtamghpnjdohnjaaDoor.Sx
