import Derived.Test.YtlndhpljajlneaaDoorRefA
/- Numbers: values and binary digits, of the program and of the reference. -/
namespace Go.Proofs.YtlndhpljajlneaaDoor.Sx
open Go Go.RowKit
set_option linter.unusedVariables false
set_option linter.unusedSimpArgs false
set_option maxRecDepth 100000
set_option maxHeartbeats 8000000
attribute [local congr] fin_congr finG_congr stepG_congr step1_congr runOps_congr brv_congr obl_congr condK_congr LoopK_congr seqK_congr CutK_congr vc_congr DrawK_congr regK_congr CallK_congr AskK_congr newK_congr retC_congr ret1_congr retK_congr outV_congr closeK_congr genR_congr appR_congr finD_congr finGD_congr stepGD_congr stepD_congr CallK0_congr runD_congr okR_congr CallS_congr vcX_congr
attribute [local congr] Stop_congr
theorem wN_two (i : Nat) : wN i = 2 ^ (32 * i) := by unfold wN; rw [Nat.pow_mul]
theorem shl_i {x i : Nat} (hx : x < 4294967296) (hi : i < 2) : IntKind.u64.wrap ((x : Int) * 2 ^ (min (32 * i) IntKind.u64.bits)) = ((x * 2 ^ (32 * i) : Nat) : Int) := by
  have h1 : min (32 * i) IntKind.u64.bits = 32 * i := by have : IntKind.u64.bits = 64 := rfl; omega
  have h2 : x * 2 ^ (32 * i) ≤ x * 2 ^ 32 := Nat.mul_le_mul_left x (Nat.pow_le_pow_right (by decide) (by omega))
  rw [h1, show ((x : Int) * 2 ^ (32 * i)) = ((x * 2 ^ (32 * i) : Nat) : Int) by simp, wrap64_id (by omega)]
section
variable {M : Mem} {K : AV → Hp → Mem → Prop} {u : Value} {l : List Nat}
def uiSt (M : Mem) (u : Value) (la i n : Nat) : St := { env := [(17, .ext (.int .i64 (i : Int))), (16, .ext (.int .i64 (la : Int))), (15, .ext u), (4, .ext (.int .u64 (n : Int)))], hp := [], M := M, kb := 0, fx := [] }
theorem uint_ok (hu : IsL M u32V u l) (ho : okN l) (hb : l.length < 1000000) (hK : K (.ext (.tuple #[.int .u64 ((uintR l).1 : Int), .bool (uintR l).2])) [] M) : CallS Tryd.prog 10 [.ext u] [] M [] K := by
  refine inlS (cs := []) Tryd.mixed Tryd.func10 rfl (by kernel_rfl) 0 rfl rfl ?_
  simp only [Tryd.f10]
  unfold uintR at hK
  cases hc : chkN l with
  | false =>
    rw [hc] at hK
    (first | replace hb0 := true_and True | have hb0 := true_and True); refine Go1.mk ?_; repeat' ((first | (with_reducible refine Go1.go ?_) | ((with_reducible refine brv_mk (fun h => ?_) (fun h => ?_)) <;> replace hb0 := h) | ((with_reducible first | refine gsplitD (fun h => ?_) (fun h => ?_) | refine gsplitG (fun h => ?_) (fun h => ?_)) <;> (try simp only [Bool.not_eq_true', Bool.not_eq_false'] at h) <;> replace hb0 := h) | ((first | ((with_reducible refine isCall (f := 15) ?_); refine callA_nil (f := 15) (by kernel_rfl) ?_) | ((with_reducible refine isCall0 (f := 15) ?_); refine callA0_nil (f := 15) (by kernel_rfl) ?_)); refine (check_ok u l hu (by omega) ?_)) | (refine And.intro ?ob ?_; case ob => ((try simp only [sxO, ne_eq, maxLen] at *); omega)) | fail) <;> (try simp (config := { maxSteps := 1000000 }) only [hb0, hu.one, hc, ↓selV_true, ↓selV_false, ↓opAt_arr, ↓opAt_0, ↓opAt_S, ↓hold_pre, awayP, hold_eq, runOps, regK, step1, newK, putA.eq_1, putA.eq_2, genR, appR, obl, buildR, Value.cells, closeK, keepH, outV, retK, ret1, retC, RetV, ↓reduceIte, Nat.reduceEqDiff, Nat.reduceBeqDiff, Nat.reduceAdd, Nat.reduceBEq, Nat.reduceLeDiff, Option.getD, reduceCtorEq, forall_const, implies_true, forall_eq_or_imp, forall_eq, eq_self, Int.reduceEq, Int.reduceNe, Int.reduceLT, Int.reduceLE, Int.reduceGT, Int.reduceGE, Int.reduceAdd, Int.reduceSub, Int.reduceMul, Int.reduceNeg, Int.reduceToNat, Nat.reduceSub, Nat.reduceMul, Nat.reduceLT, runD, stepD, afterK, beq_self_eq_true, vc.eq_14, undef, lookM_tup, sxB, ↓sxD, sxE, sxTab]))
    exact hK
  | true =>
    rw [hc] at hK
    by_cases hl : l.length ≤ 2
    case neg =>
      have d1 : decide ((2 : Int) < (l.length : Int)) = true := by simp; omega
      rw [show (true && decide (l.length ≤ 2)) = false by simp; omega] at hK
      (first | replace hb0 := true_and True | have hb0 := true_and True); refine Go1.mk ?_; repeat' ((first | (with_reducible refine Go1.go ?_) | ((with_reducible refine brv_mk (fun h => ?_) (fun h => ?_)) <;> replace hb0 := h) | ((with_reducible first | refine gsplitD (fun h => ?_) (fun h => ?_) | refine gsplitG (fun h => ?_) (fun h => ?_)) <;> (try simp only [Bool.not_eq_true', Bool.not_eq_false'] at h) <;> replace hb0 := h) | ((first | ((with_reducible refine isCall (f := 15) ?_); refine callA_nil (f := 15) (by kernel_rfl) ?_) | ((with_reducible refine isCall0 (f := 15) ?_); refine callA0_nil (f := 15) (by kernel_rfl) ?_)); refine (check_ok u l hu (by omega) ?_)) | (refine And.intro ?ob ?_; case ob => ((try simp only [sxO, ne_eq, maxLen] at *); omega)) | fail) <;> (try simp (config := { maxSteps := 1000000 }) only [hb0, hu.one, hu.len, hu.sl, hc, d1, ↓selV_true, ↓selV_false, ↓opAt_arr, ↓opAt_0, ↓opAt_S, ↓hold_pre, awayP, hold_eq, runOps, regK, step1, newK, putA.eq_1, putA.eq_2, genR, appR, obl, buildR, Value.cells, closeK, keepH, outV, retK, ret1, retC, RetV, ↓reduceIte, Nat.reduceEqDiff, Nat.reduceBeqDiff, Nat.reduceAdd, Nat.reduceBEq, Nat.reduceLeDiff, Option.getD, reduceCtorEq, forall_const, implies_true, forall_eq_or_imp, forall_eq, eq_self, Int.reduceEq, Int.reduceNe, Int.reduceLT, Int.reduceLE, Int.reduceGT, Int.reduceGE, Int.reduceAdd, Int.reduceSub, Int.reduceMul, Int.reduceNeg, Int.reduceToNat, Nat.reduceSub, Nat.reduceMul, Nat.reduceLT, runD, stepD, afterK, beq_self_eq_true, vc.eq_14, undef, lookM_tup, sxB, ↓sxD, sxE, sxTab]))
      exact hK
    have d1 : decide ((2 : Int) < (l.length : Int)) = false := by simp; omega
    rw [show (true && decide (l.length ≤ 2)) = true by simp [hl]] at hK
    (first | replace hb0 := true_and True | have hb0 := true_and True); refine Go1.mk ?_; repeat' ((first | (with_reducible refine Go1.go ?_) | ((with_reducible refine brv_mk (fun h => ?_) (fun h => ?_)) <;> replace hb0 := h) | ((with_reducible first | refine gsplitD (fun h => ?_) (fun h => ?_) | refine gsplitG (fun h => ?_) (fun h => ?_)) <;> (try simp only [Bool.not_eq_true', Bool.not_eq_false'] at h) <;> replace hb0 := h) | ((first | ((with_reducible refine isCall (f := 15) ?_); refine callA_nil (f := 15) (by kernel_rfl) ?_) | ((with_reducible refine isCall0 (f := 15) ?_); refine callA0_nil (f := 15) (by kernel_rfl) ?_)); refine (check_ok u l hu (by omega) ?_)) | (refine And.intro ?ob ?_; case ob => ((try simp only [sxO, ne_eq, maxLen] at *); omega)) | fail) <;> (try simp (config := { maxSteps := 1000000 }) only [hb0, hu.one, hu.len, hu.sl, hc, d1, ↓selV_true, ↓selV_false, ↓opAt_arr, ↓opAt_0, ↓opAt_S, ↓hold_pre, awayP, hold_eq, runOps, regK, step1, newK, putA.eq_1, putA.eq_2, genR, appR, obl, buildR, Value.cells, closeK, keepH, outV, retK, ret1, retC, RetV, ↓reduceIte, Nat.reduceEqDiff, Nat.reduceBeqDiff, Nat.reduceAdd, Nat.reduceBEq, Nat.reduceLeDiff, Option.getD, reduceCtorEq, forall_const, implies_true, forall_eq_or_imp, forall_eq, eq_self, Int.reduceEq, Int.reduceNe, Int.reduceLT, Int.reduceLE, Int.reduceGT, Int.reduceGE, Int.reduceAdd, Int.reduceSub, Int.reduceMul, Int.reduceNeg, Int.reduceToNat, Nat.reduceSub, Nat.reduceMul, Nat.reduceLT, runD, stepD, afterK, beq_self_eq_true, vc.eq_14, undef, lookM_tup, sxB, ↓sxD, sxE, sxTab]))
    refine ⟨fun d z => ∃ i, d = l.length - i ∧ i ≤ l.length ∧ z = uiSt M u l.length i (valN (l.take i)), ⟨l.length, uiSt M u l.length 0 0, le_sub ⟨rfl, rfl, rfl, rfl, trivial⟩ trivial rfl rfl rfl (keepLt0 _), ⟨0, rfl, by omega, rfl⟩⟩, ?_⟩
    rintro d z ⟨i, rfl, hi, rfl⟩
    by_cases hlt : i < l.length
    case neg =>
      obtain rfl : i = l.length := by omega
      have d2 : decide ((l.length : Int) < (l.length : Int)) = false := by simp
      rw [if_pos rfl] at hK
      have et : valN (l.take l.length) = valN l := take_all (Nat.le_refl _)
      (first | replace hb0 := true_and True | have hb0 := true_and True); refine Go1.mk ?_; repeat' ((first | (with_reducible refine Go1.go ?_) | ((with_reducible refine brv_mk (fun h => ?_) (fun h => ?_)) <;> replace hb0 := h) | ((with_reducible first | refine gsplitD (fun h => ?_) (fun h => ?_) | refine gsplitG (fun h => ?_) (fun h => ?_)) <;> (try simp only [Bool.not_eq_true', Bool.not_eq_false'] at h) <;> replace hb0 := h) | (refine And.intro ?ob ?_; case ob => ((try simp only [sxO, ne_eq, maxLen] at *); omega)) | fail) <;> (try simp (config := { maxSteps := 1000000 }) only [hb0, uiSt, hu.one, hu.len, hu.sl, d2, et, ↓selV_true, ↓selV_false, ↓opAt_arr, ↓opAt_0, ↓opAt_S, ↓hold_pre, awayP, hold_eq, runOps, regK, step1, newK, putA.eq_1, putA.eq_2, genR, appR, obl, buildR, Value.cells, closeK, keepH, outV, retK, ret1, retC, RetV, ↓reduceIte, Nat.reduceEqDiff, Nat.reduceBeqDiff, Nat.reduceAdd, Nat.reduceBEq, Nat.reduceLeDiff, Option.getD, reduceCtorEq, forall_const, implies_true, forall_eq_or_imp, forall_eq, eq_self, Int.reduceEq, Int.reduceNe, Int.reduceLT, Int.reduceLE, Int.reduceGT, Int.reduceGE, Int.reduceAdd, Int.reduceSub, Int.reduceMul, Int.reduceNeg, Int.reduceToNat, Nat.reduceSub, Nat.reduceMul, Nat.reduceLT, runD, stepD, afterK, beq_self_eq_true, vc.eq_14, undef, lookM_tup, sxB, ↓sxD, sxE, sxTab]))
      exact hK
    have hxi := hu.idx (P := Tryd.prog) (T := 51) tk51 tz51 (by omega) hlt
    have hx := okN_at ho hlt
    have htv := valN_take_succ hlt
    have htl := valN_lt (okN_take ho i)
    rw [List.length_take, Nat.min_eq_left (by omega), wN_two] at htl
    rw [wN_two] at htv
    generalize l[i] = x at *
    generalize valN (l.take i) = n at *
    have hp : 2 ^ (32 * i) ≤ 2 ^ 32 := Nat.pow_le_pow_right (by decide) (by omega)
    have hxp : x * 2 ^ (32 * i) ≤ x * 2 ^ 32 := Nat.mul_le_mul_left x hp
    have w1 : IntKind.u64.wrap (x : Int) = (x : Int) := wrap64_id (by omega)
    have w2 : IntKind.i64.wrap (32 * (i : Int)) = ((32 * i : Nat) : Int) := by rw [wrap_id (by omega) (by omega)]; omega
    have w3 := shl_i hx (show i < 2 by omega)
    have w4 : bits .or .u64 (n : Int) ((x * 2 ^ (32 * i) : Nat) : Int) = ((x * 2 ^ (32 * i) + n : Nat) : Int) := by
      rw [bits64_or (by omega) (by omega), Nat.or_comm, or_add htl]
    have d2 : (0 : Int) ≤ ((32 * i : Nat) : Int) := by omega
    (first | replace hb0 := true_and True | have hb0 := true_and True); refine Go1.mk ?_; repeat' ((first | (with_reducible refine Go1.go ?_) | ((with_reducible refine brv_mk (fun h => ?_) (fun h => ?_)) <;> replace hb0 := h) | ((with_reducible first | refine gsplitD (fun h => ?_) (fun h => ?_) | refine gsplitG (fun h => ?_) (fun h => ?_)) <;> (try simp only [Bool.not_eq_true', Bool.not_eq_false'] at h) <;> replace hb0 := h) | (refine And.intro ?ob ?_; case ob => ((try simp only [sxO, ne_eq, maxLen] at *); omega)) | fail) <;> (try simp (config := { maxSteps := 1000000 }) only [hb0, uiSt, u32V, hu.one, hu.len, hu.sl, hxi, w1, w2, w3, w4, d2, ↓selV_true, ↓selV_false, ↓opAt_arr, ↓opAt_0, ↓opAt_S, ↓hold_pre, awayP, hold_eq, runOps, regK, step1, newK, putA.eq_1, putA.eq_2, genR, appR, obl, buildR, Value.cells, closeK, keepH, outV, retK, ret1, retC, RetV, ↓reduceIte, Nat.reduceEqDiff, Nat.reduceBeqDiff, Nat.reduceAdd, Nat.reduceBEq, Nat.reduceLeDiff, Option.getD, reduceCtorEq, forall_const, implies_true, forall_eq_or_imp, forall_eq, eq_self, Int.reduceEq, Int.reduceNe, Int.reduceLT, Int.reduceLE, Int.reduceGT, Int.reduceGE, Int.reduceAdd, Int.reduceSub, Int.reduceMul, Int.reduceNeg, Int.reduceToNat, Nat.reduceSub, Nat.reduceMul, Nat.reduceLT, runD, stepD, afterK, beq_self_eq_true, vc.eq_14, undef, lookM_tup, sxB, ↓sxD, sxE, sxTab]))
    exact ⟨l.length - (i + 1), uiSt M u l.length (i + 1) (valN (l.take (i + 1))), by omega, le_sub ⟨rfl, rfl, rfl, by rw [htv, Nat.add_comm n, Nat.mul_comm]; rfl, trivial⟩ trivial rfl rfl rfl (keepLt0 _), i + 1, rfl, by omega, rfl⟩
def ruSt (M : Mem) (u : Value) (j n : Nat) : St := { env := [(5, .ext (.int .i64 ((j : Int) - 1))), (4, .ext (.int .u64 (n : Int))), (0, .ext u)], hp := [], M := M, kb := 0, fx := [] }
theorem ruint_ok (hu : IsL M u32V u l) (ho : okN l) (hb : l.length < 1000000) (hK : K (.ext (.tuple #[.int .u64 ((uintR l).1 : Int), .bool (uintR l).2])) [] M) : CallS Tryd.prog 11 [.ext u] [] M [] K := by
  refine inlS (cs := []) Tryd.mixed Tryd.func11 rfl (by kernel_rfl) 0 rfl rfl ?_
  simp only [Tryd.f11]
  unfold uintR at hK
  cases hc : chkN l with
  | false =>
    rw [hc] at hK
    (first | replace hb0 := true_and True | have hb0 := true_and True); refine Go1.mk ?_; repeat' ((first | (with_reducible refine Go1.go ?_) | ((with_reducible refine brv_mk (fun h => ?_) (fun h => ?_)) <;> replace hb0 := h) | ((with_reducible first | refine gsplitD (fun h => ?_) (fun h => ?_) | refine gsplitG (fun h => ?_) (fun h => ?_)) <;> (try simp only [Bool.not_eq_true', Bool.not_eq_false'] at h) <;> replace hb0 := h) | ((first | ((with_reducible refine isCall (f := 16) ?_); refine callA_nil (f := 16) (by kernel_rfl) ?_) | ((with_reducible refine isCall0 (f := 16) ?_); refine callA0_nil (f := 16) (by kernel_rfl) ?_)); refine (rcheck_ok u l hu (by omega) ?_)) | (refine And.intro ?ob ?_; case ob => ((try simp only [sxO, ne_eq, maxLen] at *); omega)) | fail) <;> (try simp (config := { maxSteps := 1000000 }) only [hb0, hu.one, hc, ↓selV_true, ↓selV_false, ↓opAt_arr, ↓opAt_0, ↓opAt_S, ↓hold_pre, awayP, hold_eq, runOps, regK, step1, newK, putA.eq_1, putA.eq_2, genR, appR, obl, buildR, Value.cells, closeK, keepH, outV, retK, ret1, retC, RetV, ↓reduceIte, Nat.reduceEqDiff, Nat.reduceBeqDiff, Nat.reduceAdd, Nat.reduceBEq, Nat.reduceLeDiff, Option.getD, reduceCtorEq, forall_const, implies_true, forall_eq_or_imp, forall_eq, eq_self, Int.reduceEq, Int.reduceNe, Int.reduceLT, Int.reduceLE, Int.reduceGT, Int.reduceGE, Int.reduceAdd, Int.reduceSub, Int.reduceMul, Int.reduceNeg, Int.reduceToNat, Nat.reduceSub, Nat.reduceMul, Nat.reduceLT, runD, stepD, afterK, beq_self_eq_true, vc.eq_14, undef, lookM_tup, sxB, ↓sxD, sxE, sxTab]))
    exact hK
  | true =>
    rw [hc] at hK
    by_cases hl : l.length ≤ 2
    case neg =>
      have d1 : decide ((2 : Int) < (l.length : Int)) = true := by simp; omega
      rw [show (true && decide (l.length ≤ 2)) = false by simp; omega] at hK
      (first | replace hb0 := true_and True | have hb0 := true_and True); refine Go1.mk ?_; repeat' ((first | (with_reducible refine Go1.go ?_) | ((with_reducible refine brv_mk (fun h => ?_) (fun h => ?_)) <;> replace hb0 := h) | ((with_reducible first | refine gsplitD (fun h => ?_) (fun h => ?_) | refine gsplitG (fun h => ?_) (fun h => ?_)) <;> (try simp only [Bool.not_eq_true', Bool.not_eq_false'] at h) <;> replace hb0 := h) | ((first | ((with_reducible refine isCall (f := 16) ?_); refine callA_nil (f := 16) (by kernel_rfl) ?_) | ((with_reducible refine isCall0 (f := 16) ?_); refine callA0_nil (f := 16) (by kernel_rfl) ?_)); refine (rcheck_ok u l hu (by omega) ?_)) | (refine And.intro ?ob ?_; case ob => ((try simp only [sxO, ne_eq, maxLen] at *); omega)) | fail) <;> (try simp (config := { maxSteps := 1000000 }) only [hb0, hu.one, hu.len, hu.sl, hc, d1, ↓selV_true, ↓selV_false, ↓opAt_arr, ↓opAt_0, ↓opAt_S, ↓hold_pre, awayP, hold_eq, runOps, regK, step1, newK, putA.eq_1, putA.eq_2, genR, appR, obl, buildR, Value.cells, closeK, keepH, outV, retK, ret1, retC, RetV, ↓reduceIte, Nat.reduceEqDiff, Nat.reduceBeqDiff, Nat.reduceAdd, Nat.reduceBEq, Nat.reduceLeDiff, Option.getD, reduceCtorEq, forall_const, implies_true, forall_eq_or_imp, forall_eq, eq_self, Int.reduceEq, Int.reduceNe, Int.reduceLT, Int.reduceLE, Int.reduceGT, Int.reduceGE, Int.reduceAdd, Int.reduceSub, Int.reduceMul, Int.reduceNeg, Int.reduceToNat, Nat.reduceSub, Nat.reduceMul, Nat.reduceLT, runD, stepD, afterK, beq_self_eq_true, vc.eq_14, undef, lookM_tup, sxB, ↓sxD, sxE, sxTab]))
      exact hK
    have d1 : decide ((2 : Int) < (l.length : Int)) = false := by simp; omega
    rw [show (true && decide (l.length ≤ 2)) = true by simp [hl]] at hK
    have w0 : IntKind.i64.wrap ((l.length : Int) - 1) = (l.length : Int) - 1 := wrap_id (by omega) (by omega)
    (first | replace hb0 := true_and True | have hb0 := true_and True); refine Go1.mk ?_; repeat' ((first | (with_reducible refine Go1.go ?_) | ((with_reducible refine brv_mk (fun h => ?_) (fun h => ?_)) <;> replace hb0 := h) | ((with_reducible first | refine gsplitD (fun h => ?_) (fun h => ?_) | refine gsplitG (fun h => ?_) (fun h => ?_)) <;> (try simp only [Bool.not_eq_true', Bool.not_eq_false'] at h) <;> replace hb0 := h) | ((first | ((with_reducible refine isCall (f := 16) ?_); refine callA_nil (f := 16) (by kernel_rfl) ?_) | ((with_reducible refine isCall0 (f := 16) ?_); refine callA0_nil (f := 16) (by kernel_rfl) ?_)); refine (rcheck_ok u l hu (by omega) ?_)) | (refine And.intro ?ob ?_; case ob => ((try simp only [sxO, ne_eq, maxLen] at *); omega)) | fail) <;> (try simp (config := { maxSteps := 1000000 }) only [hb0, hu.one, hu.len, hu.sl, hc, d1, w0, ↓selV_true, ↓selV_false, ↓opAt_arr, ↓opAt_0, ↓opAt_S, ↓hold_pre, awayP, hold_eq, runOps, regK, step1, newK, putA.eq_1, putA.eq_2, genR, appR, obl, buildR, Value.cells, closeK, keepH, outV, retK, ret1, retC, RetV, ↓reduceIte, Nat.reduceEqDiff, Nat.reduceBeqDiff, Nat.reduceAdd, Nat.reduceBEq, Nat.reduceLeDiff, Option.getD, reduceCtorEq, forall_const, implies_true, forall_eq_or_imp, forall_eq, eq_self, Int.reduceEq, Int.reduceNe, Int.reduceLT, Int.reduceLE, Int.reduceGT, Int.reduceGE, Int.reduceAdd, Int.reduceSub, Int.reduceMul, Int.reduceNeg, Int.reduceToNat, Nat.reduceSub, Nat.reduceMul, Nat.reduceLT, runD, stepD, afterK, beq_self_eq_true, vc.eq_14, undef, lookM_tup, sxB, ↓sxD, sxE, sxTab]))
    refine ⟨fun d z => ∃ j, j = d ∧ j ≤ l.length ∧ z = ruSt M u j (valN (l.drop j)), ⟨l.length, ruSt M u l.length 0, le_sub ⟨rfl, rfl, rfl, trivial⟩ trivial rfl rfl rfl (keepLt0 _), ⟨l.length, rfl, by omega, by rw [List.drop_of_length_le (Nat.le_refl _)]; rfl⟩⟩, ?_⟩
    rintro d z ⟨j, rfl, hj, rfl⟩
    by_cases hlt : 0 < j
    case neg =>
      obtain rfl : j = 0 := by omega
      have d2 : decide ((0 : Int) ≤ ((0 : Nat) : Int) - 1) = false := by simp
      rw [if_pos rfl] at hK
      have et : valN (l.drop 0) = valN l := rfl
      (first | replace hb0 := true_and True | have hb0 := true_and True); refine Go1.mk ?_; repeat' ((first | (with_reducible refine Go1.go ?_) | ((with_reducible refine brv_mk (fun h => ?_) (fun h => ?_)) <;> replace hb0 := h) | ((with_reducible first | refine gsplitD (fun h => ?_) (fun h => ?_) | refine gsplitG (fun h => ?_) (fun h => ?_)) <;> (try simp only [Bool.not_eq_true', Bool.not_eq_false'] at h) <;> replace hb0 := h) | (refine And.intro ?ob ?_; case ob => ((try simp only [sxO, ne_eq, maxLen] at *); omega)) | fail) <;> (try simp (config := { maxSteps := 1000000 }) only [hb0, ruSt, hu.one, hu.len, hu.sl, d2, et, ↓selV_true, ↓selV_false, ↓opAt_arr, ↓opAt_0, ↓opAt_S, ↓hold_pre, awayP, hold_eq, runOps, regK, step1, newK, putA.eq_1, putA.eq_2, genR, appR, obl, buildR, Value.cells, closeK, keepH, outV, retK, ret1, retC, RetV, ↓reduceIte, Nat.reduceEqDiff, Nat.reduceBeqDiff, Nat.reduceAdd, Nat.reduceBEq, Nat.reduceLeDiff, Option.getD, reduceCtorEq, forall_const, implies_true, forall_eq_or_imp, forall_eq, eq_self, Int.reduceEq, Int.reduceNe, Int.reduceLT, Int.reduceLE, Int.reduceGT, Int.reduceGE, Int.reduceAdd, Int.reduceSub, Int.reduceMul, Int.reduceNeg, Int.reduceToNat, Nat.reduceSub, Nat.reduceMul, Nat.reduceLT, runD, stepD, afterK, beq_self_eq_true, vc.eq_14, undef, lookM_tup, sxB, ↓sxD, sxE, sxTab]))
      exact hK
    obtain ⟨i, rfl⟩ : ∃ i, j = i + 1 := ⟨j - 1, by omega⟩
    have ej : (((i + 1 : Nat) : Int) - 1) = (i : Int) := by omega
    have hil : i < l.length := by omega
    have hxi := hu.idx (P := Tryd.prog) (T := 51) tk51 tz51 (by omega) hil
    have hx := okN_at ho hil
    have hdv := valN_drop hil
    have hdl := valN_lt (okN_drop ho (i + 1))
    have hdl2 := wN_mono (show (l.drop (i + 1)).length ≤ 1 by rw [List.length_drop]; omega)
    have hw1 : wN 1 = 4294967296 := rfl
    generalize l[i] = x at *
    generalize valN (l.drop (i + 1)) = n at *
    have d2 : decide ((0 : Int) ≤ (i : Int)) = true := by simp
    have w1 : IntKind.u64.wrap (x : Int) = (x : Int) := wrap64_id (by omega)
    have w2 := shl32 (a := n) (by omega)
    have w3 := or32 (a := n) (by omega) hx
    have w10 : IntKind.i64.wrap ((i : Int) - 1) = (i : Int) - 1 := wrap_id (by omega) (by omega)
    (first | replace hb0 := true_and True | have hb0 := true_and True); refine Go1.mk ?_; repeat' ((first | (with_reducible refine Go1.go ?_) | ((with_reducible refine brv_mk (fun h => ?_) (fun h => ?_)) <;> replace hb0 := h) | ((with_reducible first | refine gsplitD (fun h => ?_) (fun h => ?_) | refine gsplitG (fun h => ?_) (fun h => ?_)) <;> (try simp only [Bool.not_eq_true', Bool.not_eq_false'] at h) <;> replace hb0 := h) | (refine And.intro ?ob ?_; case ob => ((try simp only [sxO, ne_eq, maxLen] at *); omega)) | fail) <;> (try simp (config := { maxSteps := 1000000 }) only [hb0, ruSt, u32V, ej, hu.one, hu.len, hu.sl, hxi, w1, w2, w3, w10, d2, ↓selV_true, ↓selV_false, ↓opAt_arr, ↓opAt_0, ↓opAt_S, ↓hold_pre, awayP, hold_eq, runOps, regK, step1, newK, putA.eq_1, putA.eq_2, genR, appR, obl, buildR, Value.cells, closeK, keepH, outV, retK, ret1, retC, RetV, ↓reduceIte, Nat.reduceEqDiff, Nat.reduceBeqDiff, Nat.reduceAdd, Nat.reduceBEq, Nat.reduceLeDiff, Option.getD, reduceCtorEq, forall_const, implies_true, forall_eq_or_imp, forall_eq, eq_self, Int.reduceEq, Int.reduceNe, Int.reduceLT, Int.reduceLE, Int.reduceGT, Int.reduceGE, Int.reduceAdd, Int.reduceSub, Int.reduceMul, Int.reduceNeg, Int.reduceToNat, Nat.reduceSub, Nat.reduceMul, Nat.reduceLT, runD, stepD, afterK, beq_self_eq_true, vc.eq_14, undef, lookM_tup, sxB, ↓sxD, sxE, sxTab]))
    exact ⟨i, ruSt M u i (valN (l.drop i)), by omega, le_sub ⟨rfl, by rw [hdv, Nat.add_comm x, Nat.mul_comm]; rfl, rfl, trivial⟩ trivial rfl rfl rfl (keepLt0 _), i, rfl, by omega, rfl⟩
def rbiSt (M : Mem) (x n : Nat) : St := { env := [(4, .ext (.int .u32 (x : Int))), (3, .ext (.int .i64 (n : Int)))], hp := [], M := M, kb := 0, fx := [] }
theorem quo32_2 {x : Nat} (h : x < 4294967296) : IntKind.u32.wrap ((x : Int).tdiv 2) = ((x / 2 : Nat) : Int) := by
  rw [show (2 : Int) = ((2 : Nat) : Int) from rfl, ← Int.ofNat_tdiv, wrap32_id (by omega)]
theorem rbits_ok (hu : IsL M u32V u l) (ho : okN l) (hb : l.length < 1000000) (hK : K (.ext (.int .i64 (bitsR l : Int))) [] M) : CallS Tryd.prog 18 [.ext u] [] M [] K := by
  refine inlS (cs := []) Tryd.mixed Tryd.func18 rfl (by kernel_rfl) 0 rfl rfl ?_
  simp only [Tryd.f18]
  unfold bitsR at hK
  cases hc : chkN l with
  | false =>
    rw [hc] at hK
    (first | replace hb0 := true_and True | have hb0 := true_and True); refine Go1.mk ?_; repeat' ((first | (with_reducible refine Go1.go ?_) | ((with_reducible refine brv_mk (fun h => ?_) (fun h => ?_)) <;> replace hb0 := h) | ((with_reducible first | refine gsplitD (fun h => ?_) (fun h => ?_) | refine gsplitG (fun h => ?_) (fun h => ?_)) <;> (try simp only [Bool.not_eq_true', Bool.not_eq_false'] at h) <;> replace hb0 := h) | ((first | ((with_reducible refine isCall (f := 16) ?_); refine callA_nil (f := 16) (by kernel_rfl) ?_) | ((with_reducible refine isCall0 (f := 16) ?_); refine callA0_nil (f := 16) (by kernel_rfl) ?_)); refine (rcheck_ok u l hu (by omega) ?_)) | (refine And.intro ?ob ?_; case ob => ((try simp only [sxO, ne_eq, maxLen] at *); omega)) | fail) <;> (try simp (config := { maxSteps := 1000000 }) only [hb0, hu.one, hc, ↓selV_true, ↓selV_false, ↓opAt_arr, ↓opAt_0, ↓opAt_S, ↓hold_pre, awayP, hold_eq, runOps, regK, step1, newK, putA.eq_1, putA.eq_2, genR, appR, obl, buildR, Value.cells, closeK, keepH, outV, retK, ret1, retC, RetV, ↓reduceIte, Nat.reduceEqDiff, Nat.reduceBeqDiff, Nat.reduceAdd, Nat.reduceBEq, Nat.reduceLeDiff, Option.getD, reduceCtorEq, forall_const, implies_true, forall_eq_or_imp, forall_eq, eq_self, Int.reduceEq, Int.reduceNe, Int.reduceLT, Int.reduceLE, Int.reduceGT, Int.reduceGE, Int.reduceAdd, Int.reduceSub, Int.reduceMul, Int.reduceNeg, Int.reduceToNat, Nat.reduceSub, Nat.reduceMul, Nat.reduceLT, runD, stepD, afterK, beq_self_eq_true, vc.eq_14, undef, lookM_tup, sxB, ↓sxD, sxE, sxTab]))
    exact hK
  | true =>
    rw [hc, if_pos rfl] at hK
    by_cases h0 : l.length = 0
    · have d1 : decide ((l.length : Int) = 0) = true := by rw [h0]; rfl
      rw [if_pos h0] at hK
      (first | replace hb0 := true_and True | have hb0 := true_and True); refine Go1.mk ?_; repeat' ((first | (with_reducible refine Go1.go ?_) | ((with_reducible refine brv_mk (fun h => ?_) (fun h => ?_)) <;> replace hb0 := h) | ((with_reducible first | refine gsplitD (fun h => ?_) (fun h => ?_) | refine gsplitG (fun h => ?_) (fun h => ?_)) <;> (try simp only [Bool.not_eq_true', Bool.not_eq_false'] at h) <;> replace hb0 := h) | ((first | ((with_reducible refine isCall (f := 16) ?_); refine callA_nil (f := 16) (by kernel_rfl) ?_) | ((with_reducible refine isCall0 (f := 16) ?_); refine callA0_nil (f := 16) (by kernel_rfl) ?_)); refine (rcheck_ok u l hu (by omega) ?_)) | (refine And.intro ?ob ?_; case ob => ((try simp only [sxO, ne_eq, maxLen] at *); omega)) | fail) <;> (try simp (config := { maxSteps := 1000000 }) only [hb0, hu.one, hu.len, hu.sl, hc, d1, ↓selV_true, ↓selV_false, ↓opAt_arr, ↓opAt_0, ↓opAt_S, ↓hold_pre, awayP, hold_eq, runOps, regK, step1, newK, putA.eq_1, putA.eq_2, genR, appR, obl, buildR, Value.cells, closeK, keepH, outV, retK, ret1, retC, RetV, ↓reduceIte, Nat.reduceEqDiff, Nat.reduceBeqDiff, Nat.reduceAdd, Nat.reduceBEq, Nat.reduceLeDiff, Option.getD, reduceCtorEq, forall_const, implies_true, forall_eq_or_imp, forall_eq, eq_self, Int.reduceEq, Int.reduceNe, Int.reduceLT, Int.reduceLE, Int.reduceGT, Int.reduceGE, Int.reduceAdd, Int.reduceSub, Int.reduceMul, Int.reduceNeg, Int.reduceToNat, Nat.reduceSub, Nat.reduceMul, Nat.reduceLT, runD, stepD, afterK, beq_self_eq_true, vc.eq_14, undef, lookM_tup, sxB, ↓sxD, sxE, sxTab]))
      exact hK
    rw [if_neg h0] at hK
    have d1 : decide ((l.length : Int) = 0) = false := by rw [decide_eq_false_iff_not]; omega
    have hi := hu.idx (P := Tryd.prog) (T := 51) tk51 tz51 (by omega) (show l.length - 1 < l.length by omega)
    have ht := okN_at ho (show l.length - 1 < l.length by omega)
    rw [show l.getD (l.length - 1) 0 = l[l.length - 1]'(by omega) by simp [List.getD, show l.length - 1 < l.length by omega]] at hK
    obtain ⟨t, hte⟩ : ∃ t, l[l.length - 1]'(by omega) = t := ⟨_, rfl⟩
    simp only [hte] at hi ht hK
    have hbl := (blen_iff 32 t).2 (by omega)
    have w1 : IntKind.i64.wrap ((l.length : Int) - 1) = ((l.length - 1 : Nat) : Int) := pred_i (by omega) (by omega)
    have w2 : IntKind.i64.wrap (32 * ((l.length - 1 : Nat) : Int)) = ((32 * (l.length - 1) : Nat) : Int) := by rw [wrap_id (by omega) (by omega)]; omega
    (first | replace hb0 := true_and True | have hb0 := true_and True); refine Go1.mk ?_; repeat' ((first | (with_reducible refine Go1.go ?_) | ((with_reducible refine brv_mk (fun h => ?_) (fun h => ?_)) <;> replace hb0 := h) | ((with_reducible first | refine gsplitD (fun h => ?_) (fun h => ?_) | refine gsplitG (fun h => ?_) (fun h => ?_)) <;> (try simp only [Bool.not_eq_true', Bool.not_eq_false'] at h) <;> replace hb0 := h) | ((first | ((with_reducible refine isCall (f := 16) ?_); refine callA_nil (f := 16) (by kernel_rfl) ?_) | ((with_reducible refine isCall0 (f := 16) ?_); refine callA0_nil (f := 16) (by kernel_rfl) ?_)); refine (rcheck_ok u l hu (by omega) ?_)) | (refine And.intro ?ob ?_; case ob => ((try simp only [sxO, ne_eq, maxLen] at *); omega)) | fail) <;> (try simp (config := { maxSteps := 1000000 }) only [hb0, u32V, hu.one, hu.len, hu.sl, hc, d1, hi, w1, w2, ↓selV_true, ↓selV_false, ↓opAt_arr, ↓opAt_0, ↓opAt_S, ↓hold_pre, awayP, hold_eq, runOps, regK, step1, newK, putA.eq_1, putA.eq_2, genR, appR, obl, buildR, Value.cells, closeK, keepH, outV, retK, ret1, retC, RetV, ↓reduceIte, Nat.reduceEqDiff, Nat.reduceBeqDiff, Nat.reduceAdd, Nat.reduceBEq, Nat.reduceLeDiff, Option.getD, reduceCtorEq, forall_const, implies_true, forall_eq_or_imp, forall_eq, eq_self, Int.reduceEq, Int.reduceNe, Int.reduceLT, Int.reduceLE, Int.reduceGT, Int.reduceGE, Int.reduceAdd, Int.reduceSub, Int.reduceMul, Int.reduceNeg, Int.reduceToNat, Nat.reduceSub, Nat.reduceMul, Nat.reduceLT, runD, stepD, afterK, beq_self_eq_true, vc.eq_14, undef, lookM_tup, sxB, ↓sxD, sxE, sxTab]))
    refine ⟨fun d z => ∃ x n, x = d ∧ x < 4294967296 ∧ n + blen x = 32 * (l.length - 1) + blen t ∧ z = rbiSt M x n, ⟨t, rbiSt M t (32 * (l.length - 1)), le_sub ⟨rfl, rfl, trivial⟩ trivial rfl rfl rfl (keepLt0 _), ⟨t, _, rfl, ht, rfl, rfl⟩⟩, ?_⟩
    rintro d z ⟨x, n, rfl, hx, hn, rfl⟩
    by_cases hx0 : 0 < x
    · have d2 : decide ((0 : Int) < (x : Int)) = true := by simp; omega
      rw [blen_pos (by omega)] at hn
      have w3 : IntKind.i64.wrap ((n : Int) + 1) = ((n + 1 : Nat) : Int) := succ_i (by omega)
      have w4 := quo32_2 hx
      (first | replace hb0 := true_and True | have hb0 := true_and True); refine Go1.mk ?_; repeat' ((first | (with_reducible refine Go1.go ?_) | ((with_reducible refine brv_mk (fun h => ?_) (fun h => ?_)) <;> replace hb0 := h) | ((with_reducible first | refine gsplitD (fun h => ?_) (fun h => ?_) | refine gsplitG (fun h => ?_) (fun h => ?_)) <;> (try simp only [Bool.not_eq_true', Bool.not_eq_false'] at h) <;> replace hb0 := h) | (refine And.intro ?ob ?_; case ob => ((try simp only [sxO, ne_eq, maxLen] at *); omega)) | fail) <;> (try simp (config := { maxSteps := 1000000 }) only [hb0, rbiSt, d2, w3, w4, ↓selV_true, ↓selV_false, ↓opAt_arr, ↓opAt_0, ↓opAt_S, ↓hold_pre, awayP, hold_eq, runOps, regK, step1, newK, putA.eq_1, putA.eq_2, genR, appR, obl, buildR, Value.cells, closeK, keepH, outV, retK, ret1, retC, RetV, ↓reduceIte, Nat.reduceEqDiff, Nat.reduceBeqDiff, Nat.reduceAdd, Nat.reduceBEq, Nat.reduceLeDiff, Option.getD, reduceCtorEq, forall_const, implies_true, forall_eq_or_imp, forall_eq, eq_self, Int.reduceEq, Int.reduceNe, Int.reduceLT, Int.reduceLE, Int.reduceGT, Int.reduceGE, Int.reduceAdd, Int.reduceSub, Int.reduceMul, Int.reduceNeg, Int.reduceToNat, Nat.reduceSub, Nat.reduceMul, Nat.reduceLT, runD, stepD, afterK, beq_self_eq_true, vc.eq_14, undef, lookM_tup, sxB, ↓sxD, sxE, sxTab]))
      exact ⟨x / 2, rbiSt M (x / 2) (n + 1), by omega, le_sub ⟨rfl, rfl, trivial⟩ trivial rfl rfl rfl (keepLt0 _), x / 2, n + 1, rfl, by omega, by omega, rfl⟩
    · obtain rfl : x = 0 := by omega
      have d2 : decide ((0 : Int) < ((0 : Nat) : Int)) = false := by simp
      rw [blen_zero, Nat.add_zero] at hn
      rw [← hn] at hK
      (first | replace hb0 := true_and True | have hb0 := true_and True); refine Go1.mk ?_; repeat' ((first | (with_reducible refine Go1.go ?_) | ((with_reducible refine brv_mk (fun h => ?_) (fun h => ?_)) <;> replace hb0 := h) | ((with_reducible first | refine gsplitD (fun h => ?_) (fun h => ?_) | refine gsplitG (fun h => ?_) (fun h => ?_)) <;> (try simp only [Bool.not_eq_true', Bool.not_eq_false'] at h) <;> replace hb0 := h) | (refine And.intro ?ob ?_; case ob => ((try simp only [sxO, ne_eq, maxLen] at *); omega)) | fail) <;> (try simp (config := { maxSteps := 1000000 }) only [hb0, rbiSt, d2, ↓selV_true, ↓selV_false, ↓opAt_arr, ↓opAt_0, ↓opAt_S, ↓hold_pre, awayP, hold_eq, runOps, regK, step1, newK, putA.eq_1, putA.eq_2, genR, appR, obl, buildR, Value.cells, closeK, keepH, outV, retK, ret1, retC, RetV, ↓reduceIte, Nat.reduceEqDiff, Nat.reduceBeqDiff, Nat.reduceAdd, Nat.reduceBEq, Nat.reduceLeDiff, Option.getD, reduceCtorEq, forall_const, implies_true, forall_eq_or_imp, forall_eq, eq_self, Int.reduceEq, Int.reduceNe, Int.reduceLT, Int.reduceLE, Int.reduceGT, Int.reduceGE, Int.reduceAdd, Int.reduceSub, Int.reduceMul, Int.reduceNeg, Int.reduceToNat, Nat.reduceSub, Nat.reduceMul, Nat.reduceLT, runD, stepD, afterK, beq_self_eq_true, vc.eq_14, undef, lookM_tup, sxB, ↓sxD, sxE, sxTab]))
      exact hK
end
end Go.Proofs.YtlndhpljajlneaaDoor.Sx
