import Derived.Test.YtlndhpljajlneaaDoorFmt
/- Strings: what is cut off at both ends of a string of digits. -/
namespace Go.Proofs.YtlndhpljajlneaaDoor.Sx
open Go Go.RowKit
set_option linter.unusedVariables false
set_option linter.unusedSimpArgs false
set_option maxRecDepth 100000
set_option maxHeartbeats 8000000
attribute [local congr] fin_congr finG_congr stepG_congr step1_congr runOps_congr brv_congr obl_congr condK_congr LoopK_congr seqK_congr CutK_congr vc_congr DrawK_congr regK_congr CallK_congr AskK_congr newK_congr retC_congr ret1_congr retK_congr outV_congr closeK_congr genR_congr appR_congr finD_congr finGD_congr stepGD_congr stepD_congr CallK0_congr runD_congr okR_congr CallS_congr vcX_congr
attribute [local congr] Stop_congr
def dgT (b : UInt8) : Bool := decide (48 ≤ b.toNat) && decide (b.toNat ≤ 57)
theorem dgT_is {b : UInt8} : dgT b = true ↔ isDg b := by simp [dgT, isDg]
def tens : List UInt8 := [48, 49, 50, 51, 52, 53, 54, 55, 56, 57]
theorem tens_at : ∀ {i : Nat}, i < 10 → (tens.getD i 0).toNat = 48 + i := fun {i} h => by
  have : ∀ j : Fin 10, (tens.getD j.val 0).toNat = 48 + j.val := by decide
  exact this ⟨i, h⟩
theorem par48 : parC dgT (48 + 0) = z256 := by
  rw [← par_zero dgT]
  unfold parC
  congr 1
  funext c
  by_cases h : c.toNat < 48
  · have : dgT c = false := by simp [dgT]; omega
    rw [this]; simp
  · have : decide (c.toNat < 48 + 0) = false := by simp; omega
    rw [this]; simp
theorem par58 : parC dgT (48 + 10) = clsC dgT := by
  unfold parC
  congr 1
  funext c
  by_cases h : c.toNat ≤ 57
  · have : decide (c.toNat < 48 + 10) = true := by simp; omega
    rw [this]; simp
  · have : dgT c = false := by simp [dgT]; omega
    rw [this]; simp
theorem getD_of {l : List UInt8} {i : Nat} (h : i < l.length) : l.getD i 0 = l[i] := by simp [List.getD_eq_getElem?_getD, h]
theorem dropWhile_nil {p : UInt8 → Bool} : ∀ {l : List UInt8}, l.dropWhile p = [] → ∀ b ∈ l, p b = true
  | [], _, b, hb => by cases hb
  | c :: r, h, b, hb => by
    rw [List.dropWhile_cons] at h
    cases hc : p c with
    | true =>
      rw [hc] at h
      rcases List.mem_cons.1 hb with h1 | h1
      · rw [h1]; exact hc
      · exact dropWhile_nil (by simpa using h) b h1
    | false => rw [hc] at h; simp at h
section
variable {M : Mem} {K : AV → Hp → Mem → Prop}
def maSt (M : Mem) (i : Nat) : St := { env := [(4, .ext (.int .i64 (i : Int))), (2, .own 2 0), (0, .ext (.string (bs tens)))], hp := [(2, 81, parC dgT (48 + i))], M := M, kb := 0, fx := [] }
theorem makeSet_ok (hK : K (.ext (.tuple #[clsV dgT, .bool true])) [] M) : CallS Tryd.prog 70 [.ext (.string (bs tens))] [] M [] K := by
  refine inlS (cs := []) Tryd.mixed Tryd.func70 rfl (by kernel_rfl) 0 rfl rfl ?_
  simp only [Tryd.f70]
  have q10 : (tens.length : Int) = 10 := rfl
  (replace hb0 := true_and True); refine Go1.mk ?_; repeat' ((first | (with_reducible refine Go1.go ?_) | ((with_reducible first | refine brv_mk ?_ ?_ | refine gsplitD ?_ ?_ | refine gsplitG ?_ ?_) <;> intro h <;> (try simp only [Bool.not_eq_true', Bool.not_eq_false'] at h) <;> replace hb0 := h) | (refine And.intro ?ob ?_; case ob => ((try simp only [sxO, ne_eq, maxLen] at *); omega)) | fail) <;> (try simp (config := { maxSteps := 1000000 }) only [hb0, cls_len, cls_take, cls_drop, cls_agg, cls_cellsG, cls_cellsA, cls_one, cls_ment, cls_kill, z256_def, z256_len, z256_drop, z256_ment, par_len, par_ment, Nat.mul_one, imp_ga, guard_pk, guard_pk2, bs_mk, bs_app, bs_ext, bs_size, bs_toList, bs_at, bs_cells, List.take_length, imp_ga, guard_pk, guard_pk2, ↓hold_pre, awayP, runOps, regK, step1, newK, genR, appR, obl, buildR, Value.cells, closeK, keepH, outV, retK, ret1, retC, RetV, Option.getD, runD, stepD, afterK, undef, simprocAttr, sxB, ↓sxD, sxE, sxTab]))
  refine ⟨fun m z => ∃ i, i ≤ 10 ∧ m = 10 - i ∧ z = maSt M i, ⟨10, maSt M 0, le_sub ⟨rfl, rfl, rfl, trivial⟩ ⟨by rw [par48]; rfl, trivial⟩ rfl rfl rfl (keepLt0 _), ⟨0, by omega, rfl, rfl⟩⟩, ?_⟩
  rintro m z ⟨i, hi, rfl, rfl⟩
  by_cases hlt : i < 10
  · have d1 : decide ((i : Int) < 10) = true := by simp; omega
    have g1 := tens_at hlt
    have a1 : (0 : Int) ≤ (i : Int) := by omega
    have a2 : (i : Int) < 10 := by omega
    have a3 : (0 : Int) ≤ ((48 + i : Nat) : Int) := by omega
    have a4 : ((48 + i : Nat) : Int) < 256 := by omega
    have d2 : decide ((128 : Int) ≤ ((48 + i : Nat) : Int)) = false := by rw [decide_eq_false_iff_not]; omega
    have s1 : (parC dgT (48 + i)).set (48 + i) (.ext (.bool true)) = parC dgT (48 + (i + 1)) := par_set _ (by omega) _ (by
      have e : (UInt8.ofNat (48 + i)).toNat = 48 + i := by simp; omega
      unfold dgT
      rw [e]; simp; omega)
    have w2 : IntKind.i64.wrap ((i : Int) + 1) = ((i + 1 : Nat) : Int) := by rw [wrap_id (by omega) (by omega)]; omega
    (replace hb0 := true_and True); refine Go1.mk ?_; repeat' ((first | (with_reducible refine Go1.go ?_) | ((with_reducible first | refine brv_mk ?_ ?_ | refine gsplitD ?_ ?_ | refine gsplitG ?_ ?_) <;> intro h <;> (try simp only [Bool.not_eq_true', Bool.not_eq_false'] at h) <;> replace hb0 := h) | (refine And.intro ?ob ?_; case ob => ((try simp only [sxO, ne_eq, maxLen] at *); omega)) | fail) <;> (try simp (config := { maxSteps := 1000000 }) only [hb0, maSt, q10, d1, g1, a1, a2, a3, a4, d2, s1, w2, cls_len, cls_take, cls_drop, cls_agg, cls_cellsG, cls_cellsA, cls_one, cls_ment, cls_kill, z256_def, z256_len, z256_drop, z256_ment, par_len, par_ment, Nat.mul_one, imp_ga, guard_pk, guard_pk2, bs_mk, bs_app, bs_ext, bs_size, bs_toList, bs_at, bs_cells, List.take_length, imp_ga, guard_pk, guard_pk2, ↓hold_pre, awayP, runOps, regK, step1, newK, genR, appR, obl, buildR, Value.cells, closeK, keepH, outV, retK, ret1, retC, RetV, Option.getD, runD, stepD, afterK, undef, simprocAttr, sxB, ↓sxD, sxE, sxTab]))
    exact ⟨10 - (i + 1), maSt M (i + 1), by omega, le_sub ⟨rfl, rfl, rfl, trivial⟩ ⟨rfl, trivial⟩ rfl rfl rfl (keepLt0 _), i + 1, by omega, rfl, rfl⟩
  · obtain rfl : i = 10 := by omega
    have d1 : decide (((10 : Nat) : Int) < 10) = false := by decide
    have e58 := par58
    (replace hb0 := true_and True); refine Go1.mk ?_; repeat' ((first | (with_reducible refine Go1.go ?_) | ((with_reducible first | refine brv_mk ?_ ?_ | refine gsplitD ?_ ?_ | refine gsplitG ?_ ?_) <;> intro h <;> (try simp only [Bool.not_eq_true', Bool.not_eq_false'] at h) <;> replace hb0 := h) | (refine And.intro ?ob ?_; case ob => ((try simp only [sxO, ne_eq, maxLen] at *); omega)) | fail) <;> (try simp (config := { maxSteps := 1000000 }) only [hb0, maSt, q10, d1, e58, cls_len, cls_take, cls_drop, cls_agg, cls_cellsG, cls_cellsA, cls_one, cls_ment, cls_kill, z256_def, z256_len, z256_drop, z256_ment, par_len, par_ment, Nat.mul_one, imp_ga, guard_pk, guard_pk2, bs_mk, bs_app, bs_ext, bs_size, bs_toList, bs_at, bs_cells, List.take_length, imp_ga, guard_pk, guard_pk2, ↓hold_pre, awayP, runOps, regK, step1, newK, genR, appR, obl, buildR, Value.cells, closeK, keepH, outV, retK, ret1, retC, RetV, Option.getD, runD, stepD, afterK, undef, simprocAttr, sxB, ↓sxD, sxE, sxTab]))
    exact hK
def tlaSt (M : Mem) (r : List UInt8) : St := { env := [(0, .ext (.string (bs r))), (1, .own 5 0)], hp := [(5, 81, clsC dgT)], M := M, kb := 6, fx := [5] }
theorem trimLA_ok (l : List UInt8) (hb : l.length < 1000000000) (hK : K (.ext (.string (bs (l.dropWhile dgT)))) [(5, 81, clsC dgT)] M) : CallS Tryd.prog 71 [.ext (.string (bs l)), .own 5 0] [(5, 81, clsC dgT)] M [] K := by
  refine inlS (cs := []) Tryd.mixed Tryd.func71 rfl (by kernel_rfl) 6 rfl rfl ?_
  simp only [Tryd.f71]
  (replace hb0 := true_and True); refine Go1.mk ?_; repeat' ((first | (with_reducible refine Go1.go ?_) | ((with_reducible first | refine brv_mk ?_ ?_ | refine gsplitD ?_ ?_ | refine gsplitG ?_ ?_) <;> intro h <;> (try simp only [Bool.not_eq_true', Bool.not_eq_false'] at h) <;> replace hb0 := h) | (refine And.intro ?ob ?_; case ob => ((try simp only [sxO, ne_eq, maxLen] at *); omega)) | fail) <;> (try simp (config := { maxSteps := 1000000 }) only [hb0, cls_len, cls_take, cls_drop, cls_agg, cls_cellsG, cls_cellsA, cls_one, cls_ment, cls_kill, z256_def, z256_len, z256_drop, z256_ment, par_len, par_ment, Nat.mul_one, imp_ga, guard_pk, guard_pk2, bs_mk, bs_app, bs_ext, bs_size, bs_toList, bs_at, bs_cells, List.take_length, imp_ga, guard_pk, guard_pk2, ↓hold_pre, awayP, runOps, regK, step1, newK, genR, appR, obl, buildR, Value.cells, closeK, keepH, outV, retK, ret1, retC, RetV, Option.getD, runD, stepD, afterK, undef, simprocAttr, sxB, ↓sxD, sxE, sxTab]))
  refine ⟨fun d z => ∃ r, r.length = d ∧ r.length ≤ l.length ∧ r.dropWhile dgT = l.dropWhile dgT ∧ z = tlaSt M r, ⟨l.length, tlaSt M l, le_sub ⟨rfl, rfl, trivial⟩ ⟨rfl, trivial⟩ rfl rfl rfl (by simp [keepLt, tlaSt, lkH]), ⟨l, rfl, Nat.le_refl _, rfl, rfl⟩⟩, ?_⟩
  rintro d z ⟨r, rfl, hr, hd, rfl⟩
  cases r with
  | nil =>
    have d1 : decide ((0 : Int) < ((0 : Nat) : Int)) = false := by decide
    rw [← hd] at hK
    (replace hb0 := true_and True); refine Go1.mk ?_; repeat' ((first | (with_reducible refine Go1.go ?_) | ((with_reducible first | refine brv_mk ?_ ?_ | refine gsplitD ?_ ?_ | refine gsplitG ?_ ?_) <;> intro h <;> (try simp only [Bool.not_eq_true', Bool.not_eq_false'] at h) <;> replace hb0 := h) | (refine And.intro ?ob ?_; case ob => ((try simp only [sxO, ne_eq, maxLen] at *); omega)) | fail) <;> (try simp (config := { maxSteps := 1000000 }) only [hb0, tlaSt, d1, cls_len, cls_take, cls_drop, cls_agg, cls_cellsG, cls_cellsA, cls_one, cls_ment, cls_kill, z256_def, z256_len, z256_drop, z256_ment, par_len, par_ment, Nat.mul_one, imp_ga, guard_pk, guard_pk2, bs_mk, bs_app, bs_ext, bs_size, bs_toList, bs_at, bs_cells, List.take_length, imp_ga, guard_pk, guard_pk2, ↓hold_pre, awayP, runOps, regK, step1, newK, genR, appR, obl, buildR, Value.cells, closeK, keepH, outV, retK, ret1, retC, RetV, Option.getD, runD, stepD, afterK, undef, simprocAttr, sxB, ↓sxD, sxE, sxTab]))
    exact hK
  | cons b t =>
    have hlt : (b :: t).length = t.length + 1 := rfl
    have d1 : decide ((0 : Int) < ((t.length + 1 : Nat) : Int)) = true := by rw [decide_eq_true_eq]; omega
    have d0 : (0 : Int) < ((t.length + 1 : Nat) : Int) := by omega
    have g0 : (b :: t).getD 0 0 = b := rfl
    have i1 : (1 : Int).toNat = 1 := rfl
    have c1 := cls_at dgT b
    have a3 : (0 : Int) ≤ (b.toNat : Int) := by omega
    have a4 : (b.toNat : Int) < 256 := by have := b.toNat_lt; omega
    cases hp : dgT b with
    | true =>
      rw [hp] at c1
      have d3 : (1 : Int) ≤ ((t.length + 1 : Nat) : Int) := by omega
      (replace hb0 := true_and True); refine Go1.mk ?_; repeat' ((first | (with_reducible refine Go1.go ?_) | ((with_reducible first | refine brv_mk ?_ ?_ | refine gsplitD ?_ ?_ | refine gsplitG ?_ ?_) <;> intro h <;> (try simp only [Bool.not_eq_true', Bool.not_eq_false'] at h) <;> replace hb0 := h) | ((first | ((with_reducible refine isCall (f := 93) ?_); refine inlK (cs := []) (f := 93) Tryd.mixed Tryd.func93 rfl (by kernel_rfl) 100 rfl (by kernel_rfl) ?_) | ((with_reducible refine isCall0 (f := 93) ?_); refine inlK0 (cs := []) (f := 93) Tryd.mixed Tryd.func93 rfl (by kernel_rfl) 100 rfl (by kernel_rfl) ?_)); simp only [Tryd.f93]) | (refine And.intro ?ob ?_; case ob => ((try simp only [sxO, ne_eq, maxLen] at *); omega)) | fail) <;> (try simp (config := { maxSteps := 1000000 }) only [hb0, tlaSt, hlt, d0, d1, d3, g0, i1, c1, a3, a4, cls_len, cls_take, cls_drop, cls_agg, cls_cellsG, cls_cellsA, cls_one, cls_ment, cls_kill, z256_def, z256_len, z256_drop, z256_ment, par_len, par_ment, Nat.mul_one, imp_ga, guard_pk, guard_pk2, bs_mk, bs_app, bs_ext, bs_size, bs_toList, bs_at, bs_cells, List.take_length, imp_ga, guard_pk, guard_pk2, ↓hold_pre, awayP, runOps, regK, step1, newK, genR, appR, obl, buildR, Value.cells, closeK, keepH, outV, retK, ret1, retC, RetV, Option.getD, runD, stepD, afterK, undef, simprocAttr, sxB, ↓sxD, sxE, sxTab]))
      exact ⟨t.length, tlaSt M t, by omega, le_sub ⟨rfl, rfl, trivial⟩ ⟨rfl, trivial⟩ rfl rfl rfl (by simp [keepLt, tlaSt, lkH]), t, rfl, by rw [hlt] at hr; omega, by rw [← hd, List.dropWhile_cons, hp]; rfl, rfl⟩
    | false =>
      rw [hp] at c1
      rw [← hd, List.dropWhile_cons, hp] at hK
      (replace hb0 := true_and True); refine Go1.mk ?_; repeat' ((first | (with_reducible refine Go1.go ?_) | ((with_reducible first | refine brv_mk ?_ ?_ | refine gsplitD ?_ ?_ | refine gsplitG ?_ ?_) <;> intro h <;> (try simp only [Bool.not_eq_true', Bool.not_eq_false'] at h) <;> replace hb0 := h) | ((first | ((with_reducible refine isCall (f := 93) ?_); refine inlK (cs := []) (f := 93) Tryd.mixed Tryd.func93 rfl (by kernel_rfl) 100 rfl (by kernel_rfl) ?_) | ((with_reducible refine isCall0 (f := 93) ?_); refine inlK0 (cs := []) (f := 93) Tryd.mixed Tryd.func93 rfl (by kernel_rfl) 100 rfl (by kernel_rfl) ?_)); simp only [Tryd.f93]) | (refine And.intro ?ob ?_; case ob => ((try simp only [sxO, ne_eq, maxLen] at *); omega)) | fail) <;> (try simp (config := { maxSteps := 1000000 }) only [hb0, tlaSt, hlt, d0, d1, g0, i1, c1, a3, a4, cls_len, cls_take, cls_drop, cls_agg, cls_cellsG, cls_cellsA, cls_one, cls_ment, cls_kill, z256_def, z256_len, z256_drop, z256_ment, par_len, par_ment, Nat.mul_one, imp_ga, guard_pk, guard_pk2, bs_mk, bs_app, bs_ext, bs_size, bs_toList, bs_at, bs_cells, List.take_length, imp_ga, guard_pk, guard_pk2, ↓hold_pre, awayP, runOps, regK, step1, newK, genR, appR, obl, buildR, Value.cells, closeK, keepH, outV, retK, ret1, retC, RetV, Option.getD, runD, stepD, afterK, undef, simprocAttr, sxB, ↓sxD, sxE, sxTab]))
      exact hK
def traSt (M : Mem) (r : List UInt8) : St := { env := [(0, .ext (.string (bs r))), (1, .own 5 0)], hp := [(5, 81, clsC dgT)], M := M, kb := 6, fx := [5] }
theorem trimRA_ok (l : List UInt8) (hb : l.length < 1000000000) (hK : ∀ r t, r ++ t = l → (∀ b ∈ t, dgT b = true) → (∀ q b, r = q ++ [b] → dgT b = false) → K (.ext (.string (bs r))) [(5, 81, clsC dgT)] M) : CallS Tryd.prog 77 [.ext (.string (bs l)), .own 5 0] [(5, 81, clsC dgT)] M [] K := by
  refine inlS (cs := []) Tryd.mixed Tryd.func77 rfl (by kernel_rfl) 6 rfl rfl ?_
  simp only [Tryd.f77]
  (replace hb0 := true_and True); refine Go1.mk ?_; repeat' ((first | (with_reducible refine Go1.go ?_) | ((with_reducible first | refine brv_mk ?_ ?_ | refine gsplitD ?_ ?_ | refine gsplitG ?_ ?_) <;> intro h <;> (try simp only [Bool.not_eq_true', Bool.not_eq_false'] at h) <;> replace hb0 := h) | (refine And.intro ?ob ?_; case ob => ((try simp only [sxO, ne_eq, maxLen] at *); omega)) | fail) <;> (try simp (config := { maxSteps := 1000000 }) only [hb0, cls_len, cls_take, cls_drop, cls_agg, cls_cellsG, cls_cellsA, cls_one, cls_ment, cls_kill, z256_def, z256_len, z256_drop, z256_ment, par_len, par_ment, Nat.mul_one, imp_ga, guard_pk, guard_pk2, bs_mk, bs_app, bs_ext, bs_size, bs_toList, bs_at, bs_cells, List.take_length, imp_ga, guard_pk, guard_pk2, ↓hold_pre, awayP, runOps, regK, step1, newK, genR, appR, obl, buildR, Value.cells, closeK, keepH, outV, retK, ret1, retC, RetV, Option.getD, runD, stepD, afterK, undef, simprocAttr, sxB, ↓sxD, sxE, sxTab]))
  refine ⟨fun d z => ∃ r t, r.length = d ∧ r ++ t = l ∧ (∀ b ∈ t, dgT b = true) ∧ z = traSt M r, ⟨l.length, traSt M l, le_sub ⟨rfl, rfl, trivial⟩ ⟨rfl, trivial⟩ rfl rfl rfl (by simp [keepLt, traSt, lkH]), ⟨l, [], rfl, by simp, by simp, rfl⟩⟩, ?_⟩
  rintro d z ⟨r, t, rfl, hrt, ht, rfl⟩
  have hrl : r.length ≤ l.length := by rw [← hrt, List.length_append]; omega
  rcases list_snoc r with rfl | ⟨q, b, rfl⟩
  · have d1 : decide ((0 : Int) < ((0 : Nat) : Int)) = false := by decide
    have n0 : ([] : List UInt8).length = 0 := rfl
    (replace hb0 := true_and True); refine Go1.mk ?_; repeat' ((first | (with_reducible refine Go1.go ?_) | ((with_reducible first | refine brv_mk ?_ ?_ | refine gsplitD ?_ ?_ | refine gsplitG ?_ ?_) <;> intro h <;> (try simp only [Bool.not_eq_true', Bool.not_eq_false'] at h) <;> replace hb0 := h) | (refine And.intro ?ob ?_; case ob => ((try simp only [sxO, ne_eq, maxLen] at *); omega)) | fail) <;> (try simp (config := { maxSteps := 1000000 }) only [hb0, traSt, n0, d1, cls_len, cls_take, cls_drop, cls_agg, cls_cellsG, cls_cellsA, cls_one, cls_ment, cls_kill, z256_def, z256_len, z256_drop, z256_ment, par_len, par_ment, Nat.mul_one, imp_ga, guard_pk, guard_pk2, bs_mk, bs_app, bs_ext, bs_size, bs_toList, bs_at, bs_cells, List.take_length, imp_ga, guard_pk, guard_pk2, ↓hold_pre, awayP, runOps, regK, step1, newK, genR, appR, obl, buildR, Value.cells, closeK, keepH, outV, retK, ret1, retC, RetV, Option.getD, runD, stepD, afterK, undef, simprocAttr, sxB, ↓sxD, sxE, sxTab]))
    exact hK _ _ hrt ht (fun q b h => by simp at h)
  · have hlt : (q ++ [b]).length = q.length + 1 := by simp
    have d1 : decide ((0 : Int) < ((q.length + 1 : Nat) : Int)) = true := by rw [decide_eq_true_eq]; omega
    have d0 : (q.length : Int) < ((q.length + 1 : Nat) : Int) := by omega
    have d2 : (0 : Int) ≤ (q.length : Int) := by omega
    have d3 : (q.length : Int) ≤ ((q.length + 1 : Nat) : Int) := by omega
    have w1 : IntKind.i64.wrap (((q.length + 1 : Nat) : Int) - 1) = (q.length : Int) := by rw [wrap_id (by omega) (by omega)]; omega
    have g0 : (q ++ [b]).getD q.length 0 = b := by simp [List.getD_eq_getElem?_getD]
    have t0 : (q ++ [b]).take q.length = q := by simp
    have c1 := cls_at dgT b
    have a3 : (0 : Int) ≤ (b.toNat : Int) := by omega
    have a4 : (b.toNat : Int) < 256 := by have := b.toNat_lt; omega
    cases hp : dgT b with
    | true =>
      rw [hp] at c1
      (replace hb0 := true_and True); refine Go1.mk ?_; repeat' ((first | (with_reducible refine Go1.go ?_) | ((with_reducible first | refine brv_mk ?_ ?_ | refine gsplitD ?_ ?_ | refine gsplitG ?_ ?_) <;> intro h <;> (try simp only [Bool.not_eq_true', Bool.not_eq_false'] at h) <;> replace hb0 := h) | ((first | ((with_reducible refine isCall (f := 93) ?_); refine inlK (cs := []) (f := 93) Tryd.mixed Tryd.func93 rfl (by kernel_rfl) 100 rfl (by kernel_rfl) ?_) | ((with_reducible refine isCall0 (f := 93) ?_); refine inlK0 (cs := []) (f := 93) Tryd.mixed Tryd.func93 rfl (by kernel_rfl) 100 rfl (by kernel_rfl) ?_)); simp only [Tryd.f93]) | (refine And.intro ?ob ?_; case ob => ((try simp only [sxO, ne_eq, maxLen] at *); omega)) | fail) <;> (try simp (config := { maxSteps := 1000000 }) only [hb0, traSt, hlt, d0, d1, d2, d3, w1, g0, t0, c1, a3, a4, cls_len, cls_take, cls_drop, cls_agg, cls_cellsG, cls_cellsA, cls_one, cls_ment, cls_kill, z256_def, z256_len, z256_drop, z256_ment, par_len, par_ment, Nat.mul_one, imp_ga, guard_pk, guard_pk2, bs_mk, bs_app, bs_ext, bs_size, bs_toList, bs_at, bs_cells, List.take_length, imp_ga, guard_pk, guard_pk2, ↓hold_pre, awayP, runOps, regK, step1, newK, genR, appR, obl, buildR, Value.cells, closeK, keepH, outV, retK, ret1, retC, RetV, Option.getD, runD, stepD, afterK, undef, simprocAttr, sxB, ↓sxD, sxE, sxTab]))
      exact ⟨q.length, traSt M q, by omega, le_sub ⟨rfl, rfl, trivial⟩ ⟨rfl, trivial⟩ rfl rfl rfl (by simp [keepLt, traSt, lkH]), q, b :: t, rfl, by rw [← hrt]; simp, fun c hc => by
        rcases List.mem_cons.1 hc with h | h
        · rw [h]; exact hp
        · exact ht c h, rfl⟩
    | false =>
      rw [hp] at c1
      (replace hb0 := true_and True); refine Go1.mk ?_; repeat' ((first | (with_reducible refine Go1.go ?_) | ((with_reducible first | refine brv_mk ?_ ?_ | refine gsplitD ?_ ?_ | refine gsplitG ?_ ?_) <;> intro h <;> (try simp only [Bool.not_eq_true', Bool.not_eq_false'] at h) <;> replace hb0 := h) | ((first | ((with_reducible refine isCall (f := 93) ?_); refine inlK (cs := []) (f := 93) Tryd.mixed Tryd.func93 rfl (by kernel_rfl) 100 rfl (by kernel_rfl) ?_) | ((with_reducible refine isCall0 (f := 93) ?_); refine inlK0 (cs := []) (f := 93) Tryd.mixed Tryd.func93 rfl (by kernel_rfl) 100 rfl (by kernel_rfl) ?_)); simp only [Tryd.f93]) | (refine And.intro ?ob ?_; case ob => ((try simp only [sxO, ne_eq, maxLen] at *); omega)) | fail) <;> (try simp (config := { maxSteps := 1000000 }) only [hb0, traSt, hlt, d0, d1, d2, d3, w1, g0, t0, c1, a3, a4, cls_len, cls_take, cls_drop, cls_agg, cls_cellsG, cls_cellsA, cls_one, cls_ment, cls_kill, z256_def, z256_len, z256_drop, z256_ment, par_len, par_ment, Nat.mul_one, imp_ga, guard_pk, guard_pk2, bs_mk, bs_app, bs_ext, bs_size, bs_toList, bs_at, bs_cells, List.take_length, imp_ga, guard_pk, guard_pk2, ↓hold_pre, awayP, runOps, regK, step1, newK, genR, appR, obl, buildR, Value.cells, closeK, keepH, outV, retK, ret1, retC, RetV, Option.getD, runD, stepD, afterK, undef, simprocAttr, sxB, ↓sxD, sxE, sxTab]))
      exact hK _ _ hrt ht (fun q' b' h => by
        have := List.append_inj_right' h (by simp)
        simp at this
        rw [← this]; exact hp)
theorem strTrim_ok (l : List UInt8) (hb : l.length < 1000000000) (hK : ∀ r, (r = [] ↔ ∀ b ∈ l, dgT b = true) → K (.ext (.string (bs r))) [] M) : CallS Tryd.prog 52 [.ext (.string (bs l)), .ext (.string (bs tens))] [] M [] K := by
  refine inlS (cs := []) Tryd.mixed Tryd.func52 rfl (by kernel_rfl) 0 rfl rfl ?_
  simp only [Tryd.f52]
  have c1 : (tens == []) = false := rfl
  have q10 : (tens.length : Int) = 10 := rfl
  by_cases hl : l = []
  · subst hl
    have c2 : (([] : List UInt8) == []) = true := rfl
    (replace hb0 := true_and True); refine Go1.mk ?_; repeat' ((first | (with_reducible refine Go1.go ?_) | ((with_reducible first | refine brv_mk ?_ ?_ | refine gsplitD ?_ ?_ | refine gsplitG ?_ ?_) <;> intro h <;> (try simp only [Bool.not_eq_true', Bool.not_eq_false'] at h) <;> replace hb0 := h) | ((with_reducible refine isDraw [some 22, some 23, some 24, some 25, some 26, some 27, some 28, some 4] (by decide) ?_); refine draw_rule [(0, []), (1, []), (2, []), (4, []), (5, []), (3, []), (6, []), (7, [])] [[], [], [1], [0, 1, 2], [], [4], [0, 1, 2, 3, 4, 5], [0, 1, 2, 3, 4, 5, 6]] [22, 23, 24, 25, 26, 27] [] (by kernel_rfl) (by kernel_rfl) (by kernel_rfl) (by kernel_rfl) (by exact trivial) ?_) | (refine And.intro ?ob ?_; case ob => ((try simp only [sxO, ne_eq, maxLen] at *); omega)) | fail) <;> (try simp (config := { maxSteps := 1000000 }) only [hb0, c1, c2, cls_len, cls_take, cls_drop, cls_agg, cls_cellsG, cls_cellsA, cls_one, cls_ment, cls_kill, z256_def, z256_len, z256_drop, z256_ment, par_len, par_ment, Nat.mul_one, imp_ga, guard_pk, guard_pk2, bs_mk, bs_app, bs_ext, bs_size, bs_toList, bs_at, bs_cells, List.take_length, imp_ga, guard_pk, guard_pk2, ↓hold_pre, awayP, runOps, regK, step1, newK, genR, appR, obl, buildR, Value.cells, closeK, keepH, outV, retK, ret1, retC, RetV, Option.getD, runD, stepD, afterK, undef, simprocAttr, sxB, ↓sxD, sxE, sxTab]))
    exact hK [] (by simp)
  have c2 : (l == []) = false := by simpa using hl
  (replace hb0 := true_and True); refine Go1.mk ?_; repeat' ((first | (with_reducible refine Go1.go ?_) | ((with_reducible first | refine brv_mk ?_ ?_ | refine gsplitD ?_ ?_ | refine gsplitG ?_ ?_) <;> intro h <;> (try simp only [Bool.not_eq_true', Bool.not_eq_false'] at h) <;> replace hb0 := h) | ((first | (with_reducible refine isCall (f := 70) ?_; refine callA_nil (by kernel_rfl) ?_) | (with_reducible refine isCall0 (f := 70) ?_; refine callA0_nil (by kernel_rfl) ?_)); refine (makeSet_ok ?_)) | ((with_reducible refine isCall (f := 77) ?_); refine callA ?_) | ((with_reducible refine isCall0 (f := 77) ?_); refine callA0 ?_) | ((with_reducible refine isCallS (f := 77) ?_); refine (trimRA_ok l hb (fun r t h1 h2 h3 => Stop.mk ?_))) | ((with_reducible refine isDraw [some 22, some 23, some 24, some 25, some 26, some 27, some 28, some 4] (by decide) ?_); refine draw_rule [(0, []), (1, []), (2, []), (4, []), (5, []), (3, []), (6, []), (7, [])] [[], [], [1], [0, 1, 2], [], [4], [0, 1, 2, 3, 4, 5], [0, 1, 2, 3, 4, 5, 6]] [22, 23, 24, 25, 26, 27] [] (by kernel_rfl) (by kernel_rfl) (by kernel_rfl) (by kernel_rfl) (by exact trivial) ?_) | (refine And.intro ?ob ?_; case ob => ((try simp only [sxO, ne_eq, maxLen] at *); omega)) | fail) <;> (try simp (config := { maxSteps := 1000000 }) only [hb0, c1, c2, q10, cls_len, cls_take, cls_drop, cls_agg, cls_cellsG, cls_cellsA, cls_one, cls_ment, cls_kill, z256_def, z256_len, z256_drop, z256_ment, par_len, par_ment, Nat.mul_one, imp_ga, guard_pk, guard_pk2, bs_mk, bs_app, bs_ext, bs_size, bs_toList, bs_at, bs_cells, List.take_length, imp_ga, guard_pk, guard_pk2, ↓hold_pre, awayP, runOps, regK, step1, newK, genR, appR, obl, buildR, Value.cells, closeK, keepH, outV, retK, ret1, retC, RetV, Option.getD, runD, stepD, afterK, undef, simprocAttr, sxB, ↓sxD, sxE, sxTab]))
  have hrl : r.length < 1000000000 := by
    have := congrArg List.length h1
    rw [List.length_append] at this; omega
  refine Stop.go ?_
  (replace hb0 := true_and True); refine Go1.mk ?_; repeat' ((first | (with_reducible refine Go1.go ?_) | ((with_reducible first | refine brv_mk ?_ ?_ | refine gsplitD ?_ ?_ | refine gsplitG ?_ ?_) <;> intro h <;> (try simp only [Bool.not_eq_true', Bool.not_eq_false'] at h) <;> replace hb0 := h) | ((with_reducible refine isCall (f := 71) ?_); refine callA ?_) | ((with_reducible refine isCall0 (f := 71) ?_); refine callA0 ?_) | ((with_reducible refine isCallS (f := 71) ?_); refine (trimLA_ok r hrl (Stop.mk ?_))) | ((with_reducible refine isDraw [some 22, some 23, some 24, some 25, some 26, some 27, some 28, some 4] (by decide) ?_); refine draw_rule [(0, []), (1, []), (2, []), (4, []), (5, []), (3, []), (6, []), (7, [])] [[], [], [1], [0, 1, 2], [], [4], [0, 1, 2, 3, 4, 5], [0, 1, 2, 3, 4, 5, 6]] [22, 23, 24, 25, 26, 27] [] (by kernel_rfl) (by kernel_rfl) (by kernel_rfl) (by kernel_rfl) (by exact trivial) ?_) | (refine And.intro ?ob ?_; case ob => ((try simp only [sxO, ne_eq, maxLen] at *); omega)) | fail) <;> (try simp (config := { maxSteps := 1000000 }) only [hb0, cls_len, cls_take, cls_drop, cls_agg, cls_cellsG, cls_cellsA, cls_one, cls_ment, cls_kill, z256_def, z256_len, z256_drop, z256_ment, par_len, par_ment, Nat.mul_one, imp_ga, guard_pk, guard_pk2, bs_mk, bs_app, bs_ext, bs_size, bs_toList, bs_at, bs_cells, List.take_length, imp_ga, guard_pk, guard_pk2, ↓hold_pre, awayP, runOps, regK, step1, newK, genR, appR, obl, buildR, Value.cells, closeK, keepH, outV, retK, ret1, retC, RetV, Option.getD, runD, stepD, afterK, undef, simprocAttr, sxB, ↓sxD, sxE, sxTab]))
  refine Stop.go ?_
  (replace hb0 := true_and True); refine Go1.mk ?_; repeat' ((first | (with_reducible refine Go1.go ?_) | ((with_reducible first | refine brv_mk ?_ ?_ | refine gsplitD ?_ ?_ | refine gsplitG ?_ ?_) <;> intro h <;> (try simp only [Bool.not_eq_true', Bool.not_eq_false'] at h) <;> replace hb0 := h) | ((with_reducible refine isDraw [some 22, some 23, some 24, some 25, some 26, some 27, some 28, some 4] (by decide) ?_); refine draw_rule [(0, []), (1, []), (2, []), (4, []), (5, []), (3, []), (6, []), (7, [])] [[], [], [1], [0, 1, 2], [], [4], [0, 1, 2, 3, 4, 5], [0, 1, 2, 3, 4, 5, 6]] [22, 23, 24, 25, 26, 27] [] (by kernel_rfl) (by kernel_rfl) (by kernel_rfl) (by kernel_rfl) (by exact trivial) ?_) | (refine And.intro ?ob ?_; case ob => ((try simp only [sxO, ne_eq, maxLen] at *); omega)) | fail) <;> (try simp (config := { maxSteps := 1000000 }) only [hb0, cls_len, cls_take, cls_drop, cls_agg, cls_cellsG, cls_cellsA, cls_one, cls_ment, cls_kill, z256_def, z256_len, z256_drop, z256_ment, par_len, par_ment, Nat.mul_one, imp_ga, guard_pk, guard_pk2, bs_mk, bs_app, bs_ext, bs_size, bs_toList, bs_at, bs_cells, List.take_length, imp_ga, guard_pk, guard_pk2, ↓hold_pre, awayP, runOps, regK, step1, newK, genR, appR, obl, buildR, Value.cells, closeK, keepH, outV, retK, ret1, retC, RetV, Option.getD, runD, stepD, afterK, undef, simprocAttr, sxB, ↓sxD, sxE, sxTab]))
  refine hK _ ⟨fun h => ?_, fun h => ?_⟩
  · have hr : ∀ b ∈ r, dgT b = true := by
      intro b hb
      exact dropWhile_nil h b hb
    rcases list_snoc r with rfl | ⟨q, b, rfl⟩
    · rw [List.nil_append] at h1; rw [← h1]; exact h2
    · have := h3 q b rfl
      rw [hr b (by simp)] at this; cases this
  · rcases list_snoc r with rfl | ⟨q, b, rfl⟩
    · rfl
    · have h4 := h3 q b rfl
      rw [h b (by rw [← h1]; simp)] at h4; cases h4
end
end Go.Proofs.YtlndhpljajlneaaDoor.Sx
