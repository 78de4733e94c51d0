import Derived.Test.YtlndhpljajlneaaDoorNumC
import Derived.Test.YtlndhpljajlneaaDoorRow
/- Numbers: the law of what is read. -/
namespace Go.Proofs.YtlndhpljajlneaaDoor.Sx
open Go Go.RowKit
set_option linter.unusedVariables false
set_option linter.unusedSimpArgs false
set_option maxRecDepth 100000
set_option maxHeartbeats 8000000
attribute [local congr] fin_congr finG_congr stepG_congr step1_congr runOps_congr brv_congr obl_congr condK_congr LoopK_congr seqK_congr CutK_congr vc_congr DrawK_congr regK_congr CallK_congr AskK_congr newK_congr retC_congr ret1_congr retK_congr outV_congr closeK_congr genR_congr appR_congr finD_congr finGD_congr stepGD_congr stepD_congr CallK0_congr runD_congr okR_congr CallS_congr vcX_congr
attribute [local congr] Stop_congr
theorem u32_wf {x : Int} (h : (Lit.int .u32 x).wf = true) : 0 ≤ x ∧ x < 4294967296 := by
  have e1 : IntKind.u32.min = 0 := rfl
  have e2 : IntKind.u32.max = 4294967295 := rfl
  simp only [Lit.wf, e1, e2, Bool.and_eq_true, decide_eq_true_eq] at h
  omega
theorem u64_wf {x : Int} (h : (Lit.int .u64 x).wf = true) : 0 ≤ x ∧ x < 18446744073709551616 := by
  have e1 : IntKind.u64.min = 0 := rfl
  have e2 : IntKind.u64.max = 18446744073709551615 := rfl
  simp only [Lit.wf, e1, e2, Bool.and_eq_true, decide_eq_true_eq] at h
  omega
/-- limbs that a law is handed -/
theorem nats_of {M : Mem} {v : Value} {l : List Int} (h : IsL M (intVk .u32) v l) (hw : ∀ x ∈ l, (Lit.int .u32 x).wf = true) : IsL M u32V v (l.map Int.toNat) ∧ okN (l.map Int.toNat) := by
  refine ⟨?_, fun x hx => ?_⟩
  · unfold IsL at h ⊢
    rw [List.length_map, List.map_map]
    have e : l.map (u32V ∘ Int.toNat) = l.map (intVk .u32) := List.map_congr_left fun x hx => by
      have := (u32_wf (hw x hx)).1
      simp only [Function.comp, u32V, intVk]
      rw [Int.toNat_of_nonneg this]
    rw [e]; exact h
  · obtain ⟨y, hy, rfl⟩ := List.mem_map.1 hx
    have := u32_wf (hw y hy)
    omega
section
variable {M : Mem} {K : AV → Hp → Mem → Prop}
theorem reads_ok (a : Int) (u v : Value) (l1 l2 : List Int) (ha : (Lit.int .u64 a).wf = true) (hu : IsL M (intVk .u32) u l1) (hv : IsL M (intVk .u32) v l2) (h1 : ∀ x ∈ l1, (Lit.int .u32 x).wf = true) (h2 : ∀ x ∈ l2, (Lit.int .u32 x).wf = true)
    (hK : ∀ M', Mem.le M M' → K (.ext (.bool true)) [] M') : CallS Tryd.prog 3 [.ext (.int .u64 a), .ext u, .ext v] [] M [] K := by
  obtain ⟨hu, h1⟩ := nats_of hu h1
  obtain ⟨hv, h2⟩ := nats_of hv h2
  have ha := u64_wf ha
  obtain ⟨n, rfl⟩ := Int.eq_ofNat_of_zero_le ha.1
  have hn : n < 18446744073709551616 := by omega
  generalize l1.map Int.toNat = l1 at *
  generalize l2.map Int.toNat = l2 at *
  refine inlS (cs := []) Tryd.mixed Tryd.func3 rfl (by kernel_rfl) 0 rfl rfl ?_
  simp only [Tryd.f3]
  (first | replace hb0 := true_and True | have hb0 := true_and True); refine Go1.mk ?_; repeat' ((first | (with_reducible refine Go1.go ?_) | ((with_reducible refine brv_mk (fun h => ?_) (fun h => ?_)) <;> replace hb0 := h) | ((with_reducible first | refine gsplitD (fun h => ?_) (fun h => ?_) | refine gsplitG (fun h => ?_) (fun h => ?_)) <;> (try simp only [Bool.not_eq_true', Bool.not_eq_false'] at h) <;> replace hb0 := h) | (refine And.intro ?ob ?_; case ob => ((try simp only [sxO, ne_eq, maxLen] at *); omega)) | fail) <;> (try simp (config := { maxSteps := 1000000 }) only [hb0, hu.one, hv.one, ↓selV_true, ↓selV_false, ↓opAt_arr, ↓opAt_0, ↓opAt_S, ↓hold_pre, awayP, hold_eq, runOps, regK, step1, newK, putA.eq_1, putA.eq_2, genR, appR, obl, buildR, Value.cells, closeK, keepH, outV, retK, ret1, retC, RetV, ↓reduceIte, Nat.reduceEqDiff, Nat.reduceBeqDiff, Nat.reduceAdd, Nat.reduceBEq, Nat.reduceLeDiff, Option.getD, reduceCtorEq, forall_const, implies_true, forall_eq_or_imp, forall_eq, eq_self, Int.reduceEq, Int.reduceNe, Int.reduceLT, Int.reduceLE, Int.reduceGT, Int.reduceGE, Int.reduceAdd, Int.reduceSub, Int.reduceMul, Int.reduceNeg, Int.reduceToNat, Nat.reduceSub, Nat.reduceMul, Nat.reduceLT, runD, stepD, afterK, beq_self_eq_true, vc.eq_14, undef, lookM_tup, sxB, ↓sxD, sxE, sxTab]))
  refine callA_nil (f := 9) (by kernel_rfl) (bounded_ok u l1 hu (fun w1 g1 => ?_))
  (first | replace hb0 := true_and True | have hb0 := true_and True); refine Go1.mk ?_; repeat' ((first | (with_reducible refine Go1.go ?_) | ((with_reducible refine brv_mk (fun h => ?_) (fun h => ?_)) <;> replace hb0 := h) | ((with_reducible first | refine gsplitD (fun h => ?_) (fun h => ?_) | refine gsplitG (fun h => ?_) (fun h => ?_)) <;> (try simp only [Bool.not_eq_true', Bool.not_eq_false'] at h) <;> replace hb0 := h) | (refine And.intro ?ob ?_; case ob => ((try simp only [sxO, ne_eq, maxLen] at *); omega)) | fail) <;> (try simp (config := { maxSteps := 1000000 }) only [hb0, hu.one, hv.one, g1.one, ↓selV_true, ↓selV_false, ↓opAt_arr, ↓opAt_0, ↓opAt_S, ↓hold_pre, awayP, hold_eq, runOps, regK, step1, newK, putA.eq_1, putA.eq_2, genR, appR, obl, buildR, Value.cells, closeK, keepH, outV, retK, ret1, retC, RetV, ↓reduceIte, Nat.reduceEqDiff, Nat.reduceBeqDiff, Nat.reduceAdd, Nat.reduceBEq, Nat.reduceLeDiff, Option.getD, reduceCtorEq, forall_const, implies_true, forall_eq_or_imp, forall_eq, eq_self, Int.reduceEq, Int.reduceNe, Int.reduceLT, Int.reduceLE, Int.reduceGT, Int.reduceGE, Int.reduceAdd, Int.reduceSub, Int.reduceMul, Int.reduceNeg, Int.reduceToNat, Nat.reduceSub, Nat.reduceMul, Nat.reduceLT, runD, stepD, afterK, beq_self_eq_true, vc.eq_14, undef, lookM_tup, sxB, ↓sxD, sxE, sxTab]))
  refine callA_nil (f := 9) (by kernel_rfl) (bounded_ok v l2 hv (fun w2 g2 => ?_))
  have o1 := okN_take h1 140
  have o2 := okN_take h2 140
  have b1 : (l1.take 140).length ≤ 140 := by rw [List.length_take]; omega
  have b2 : (l2.take 140).length ≤ 140 := by rw [List.length_take]; omega
  generalize l1.take 140 = a1 at *
  generalize l2.take 140 = a2 at *
  have c1 : decide (((uintR a1).1 : Int) = ((uintR a1).1 : Int)) = true := by simp
  have c2 : ((uintR a1).2 == (uintR a1).2) = true := by simp
  have c3 : (chkN a1 == chkN a1) = true := by simp
  have c4 : decide ((bitsR a1 : Int) = (bitsR a1 : Int)) = true := by simp
  have c5 : decide (cmpR a1 a2 = cmpR a1 a2) = true := by simp
  (first | replace hb0 := true_and True | have hb0 := true_and True); refine Go1.mk ?_; repeat' ((first | (with_reducible refine Go1.go ?_) | ((with_reducible refine brv_mk (fun h => ?_) (fun h => ?_)) <;> replace hb0 := h) | ((with_reducible first | refine gsplitD (fun h => ?_) (fun h => ?_) | refine gsplitG (fun h => ?_) (fun h => ?_)) <;> (try simp only [Bool.not_eq_true', Bool.not_eq_false'] at h) <;> replace hb0 := h) | ((first | ((with_reducible refine isCall (f := 10) ?_); refine callA_nil (f := 10) (by kernel_rfl) ?_) | ((with_reducible refine isCall0 (f := 10) ?_); refine callA0_nil (f := 10) (by kernel_rfl) ?_)); refine (uint_ok g1 o1 (by omega) ?_)) | ((first | ((with_reducible refine isCall (f := 11) ?_); refine callA_nil (f := 11) (by kernel_rfl) ?_) | ((with_reducible refine isCall0 (f := 11) ?_); refine callA0_nil (f := 11) (by kernel_rfl) ?_)); refine (ruint_ok g1 o1 (by omega) ?_)) | (refine And.intro ?ob ?_; case ob => ((try simp only [sxO, ne_eq, maxLen] at *); omega)) | fail) <;> (try simp (config := { maxSteps := 1000000 }) only [hb0, hu.one, hv.one, g1.one, g2.one, c1, c2, c3, c4, c5, ↓selV_true, ↓selV_false, ↓opAt_arr, ↓opAt_0, ↓opAt_S, ↓hold_pre, awayP, hold_eq, runOps, regK, step1, newK, putA.eq_1, putA.eq_2, genR, appR, obl, buildR, Value.cells, closeK, keepH, outV, retK, ret1, retC, RetV, ↓reduceIte, Nat.reduceEqDiff, Nat.reduceBeqDiff, Nat.reduceAdd, Nat.reduceBEq, Nat.reduceLeDiff, Option.getD, reduceCtorEq, forall_const, implies_true, forall_eq_or_imp, forall_eq, eq_self, Int.reduceEq, Int.reduceNe, Int.reduceLT, Int.reduceLE, Int.reduceGT, Int.reduceGE, Int.reduceAdd, Int.reduceSub, Int.reduceMul, Int.reduceNeg, Int.reduceToNat, Nat.reduceSub, Nat.reduceMul, Nat.reduceLT, runD, stepD, afterK, beq_self_eq_true, vc.eq_14, undef, lookM_tup, sxB, ↓sxD, sxE, sxTab]))
  refine callA_nil (f := 13) (by kernel_rfl) (natOf_ok n hn (fun w3 M3 p1 p2 p3 => ?_))
  have p1 : Mem.le M M3 := p1
  (first | replace hb0 := true_and True | have hb0 := true_and True); refine Go1.mk ?_; repeat' ((first | (with_reducible refine Go1.go ?_) | ((with_reducible refine brv_mk (fun h => ?_) (fun h => ?_)) <;> replace hb0 := h) | ((with_reducible first | refine gsplitD (fun h => ?_) (fun h => ?_) | refine gsplitG (fun h => ?_) (fun h => ?_)) <;> (try simp only [Bool.not_eq_true', Bool.not_eq_false'] at h) <;> replace hb0 := h) | (refine And.intro ?ob ?_; case ob => ((try simp only [sxO, ne_eq, maxLen] at *); omega)) | fail) <;> (try simp (config := { maxSteps := 1000000 }) only [hb0, g1.one, g2.one, p2.one, c1, c2, c3, c4, c5, ↓selV_true, ↓selV_false, ↓opAt_arr, ↓opAt_0, ↓opAt_S, ↓hold_pre, awayP, hold_eq, runOps, regK, step1, newK, putA.eq_1, putA.eq_2, genR, appR, obl, buildR, Value.cells, closeK, keepH, outV, retK, ret1, retC, RetV, ↓reduceIte, Nat.reduceEqDiff, Nat.reduceBeqDiff, Nat.reduceAdd, Nat.reduceBEq, Nat.reduceLeDiff, Option.getD, reduceCtorEq, forall_const, implies_true, forall_eq_or_imp, forall_eq, eq_self, Int.reduceEq, Int.reduceNe, Int.reduceLT, Int.reduceLE, Int.reduceGT, Int.reduceGE, Int.reduceAdd, Int.reduceSub, Int.reduceMul, Int.reduceNeg, Int.reduceToNat, Nat.reduceSub, Nat.reduceMul, Nat.reduceLT, runD, stepD, afterK, beq_self_eq_true, vc.eq_14, undef, lookM_tup, sxB, ↓sxD, sxE, sxTab]))
  refine callA_nil (f := 14) (by kernel_rfl) (rof_ok n hn (fun w4 M4 q1 q2 q3 => ?_))
  have q1 : Mem.le M3 M4 := q1
  have r1 := (g1.le p1).le q1
  have r2 := (g2.le p1).le q1
  have hl : (ofN n).length < 1000000000 := by have := ofN_len_le (n := n) (k := 2) (by rw [show wN 2 = 18446744073709551616 from rfl]; exact hn); omega
  (first | replace hb0 := true_and True | have hb0 := true_and True); refine Go1.mk ?_; repeat' ((first | (with_reducible refine Go1.go ?_) | ((with_reducible refine brv_mk (fun h => ?_) (fun h => ?_)) <;> replace hb0 := h) | ((with_reducible first | refine gsplitD (fun h => ?_) (fun h => ?_) | refine gsplitG (fun h => ?_) (fun h => ?_)) <;> (try simp only [Bool.not_eq_true', Bool.not_eq_false'] at h) <;> replace hb0 := h) | ((first | ((with_reducible refine isCall (f := 12) ?_); refine callA_nil (f := 12) (by kernel_rfl) ?_) | ((with_reducible refine isCall0 (f := 12) ?_); refine callA0_nil (f := 12) (by kernel_rfl) ?_)); refine (sameNat_ok w3 w4 (ofN n) (p2.le q1) q2 hl ?_)) | ((first | ((with_reducible refine isCall (f := 15) ?_); refine callA_nil (f := 15) (by kernel_rfl) ?_) | ((with_reducible refine isCall0 (f := 15) ?_); refine callA0_nil (f := 15) (by kernel_rfl) ?_)); refine (check_ok w1 a1 r1 (by omega) ?_)) | ((first | ((with_reducible refine isCall (f := 16) ?_); refine callA_nil (f := 16) (by kernel_rfl) ?_) | ((with_reducible refine isCall0 (f := 16) ?_); refine callA0_nil (f := 16) (by kernel_rfl) ?_)); refine (rcheck_ok w1 a1 r1 (by omega) ?_)) | ((first | ((with_reducible refine isCall (f := 17) ?_); refine callA_nil (f := 17) (by kernel_rfl) ?_) | ((with_reducible refine isCall0 (f := 17) ?_); refine callA0_nil (f := 17) (by kernel_rfl) ?_)); refine (natBits_ok r1 o1 (by omega) ?_)) | ((first | ((with_reducible refine isCall (f := 18) ?_); refine callA_nil (f := 18) (by kernel_rfl) ?_) | ((with_reducible refine isCall0 (f := 18) ?_); refine callA0_nil (f := 18) (by kernel_rfl) ?_)); refine (rbits_ok r1 o1 (by omega) ?_)) | ((first | ((with_reducible refine isCall (f := 19) ?_); refine callA_nil (f := 19) (by kernel_rfl) ?_) | ((with_reducible refine isCall0 (f := 19) ?_); refine callA0_nil (f := 19) (by kernel_rfl) ?_)); refine (natCmp_ok r1 r2 o1 o2 (by omega) (by omega) ?_)) | ((first | ((with_reducible refine isCall (f := 20) ?_); refine callA_nil (f := 20) (by kernel_rfl) ?_) | ((with_reducible refine isCall0 (f := 20) ?_); refine callA0_nil (f := 20) (by kernel_rfl) ?_)); refine (rCmp_ok r1 r2 o1 o2 (by omega) (by omega) ?_)) | ((first | ((with_reducible refine isCall (f := 21) ?_); refine callA_nil (f := 21) (by kernel_rfl) ?_) | ((with_reducible refine isCall0 (f := 21) ?_); refine callA0_nil (f := 21) (by kernel_rfl) ?_)); refine (awake_ok (fun M5 s1 => Stop.mk ?_))) | (refine And.intro ?ob ?_; case ob => ((try simp only [sxO, ne_eq, maxLen] at *); omega)) | fail) <;> (try simp (config := { maxSteps := 1000000 }) only [hb0, g1.one, g2.one, p2.one, q2.one, c1, c2, c3, c4, c5, ↓selV_true, ↓selV_false, ↓opAt_arr, ↓opAt_0, ↓opAt_S, ↓hold_pre, awayP, hold_eq, runOps, regK, step1, newK, putA.eq_1, putA.eq_2, genR, appR, obl, buildR, Value.cells, closeK, keepH, outV, retK, ret1, retC, RetV, ↓reduceIte, Nat.reduceEqDiff, Nat.reduceBeqDiff, Nat.reduceAdd, Nat.reduceBEq, Nat.reduceLeDiff, Option.getD, reduceCtorEq, forall_const, implies_true, forall_eq_or_imp, forall_eq, eq_self, Int.reduceEq, Int.reduceNe, Int.reduceLT, Int.reduceLE, Int.reduceGT, Int.reduceGE, Int.reduceAdd, Int.reduceSub, Int.reduceMul, Int.reduceNeg, Int.reduceToNat, Nat.reduceSub, Nat.reduceMul, Nat.reduceLT, runD, stepD, afterK, beq_self_eq_true, vc.eq_14, undef, lookM_tup, sxB, ↓sxD, sxE, sxTab]))
  refine Stop.go ?_
  (first | replace hb0 := true_and True | have hb0 := true_and True); refine Go1.mk ?_; repeat' ((first | (with_reducible refine Go1.go ?_) | ((with_reducible refine brv_mk (fun h => ?_) (fun h => ?_)) <;> replace hb0 := h) | ((with_reducible first | refine gsplitD (fun h => ?_) (fun h => ?_) | refine gsplitG (fun h => ?_) (fun h => ?_)) <;> (try simp only [Bool.not_eq_true', Bool.not_eq_false'] at h) <;> replace hb0 := h) | (refine And.intro ?ob ?_; case ob => ((try simp only [sxO, ne_eq, maxLen] at *); omega)) | fail) <;> (try simp (config := { maxSteps := 1000000 }) only [hb0, g1.one, g2.one, ↓selV_true, ↓selV_false, ↓opAt_arr, ↓opAt_0, ↓opAt_S, ↓hold_pre, awayP, hold_eq, runOps, regK, step1, newK, putA.eq_1, putA.eq_2, genR, appR, obl, buildR, Value.cells, closeK, keepH, outV, retK, ret1, retC, RetV, ↓reduceIte, Nat.reduceEqDiff, Nat.reduceBeqDiff, Nat.reduceAdd, Nat.reduceBEq, Nat.reduceLeDiff, Option.getD, reduceCtorEq, forall_const, implies_true, forall_eq_or_imp, forall_eq, eq_self, Int.reduceEq, Int.reduceNe, Int.reduceLT, Int.reduceLE, Int.reduceGT, Int.reduceGE, Int.reduceAdd, Int.reduceSub, Int.reduceMul, Int.reduceNeg, Int.reduceToNat, Nat.reduceSub, Nat.reduceMul, Nat.reduceLT, runD, stepD, afterK, beq_self_eq_true, vc.eq_14, undef, lookM_tup, sxB, ↓sxD, sxE, sxTab]))
  exact hK _ ((p1.trans q1).trans s1)
end
end Go.Proofs.YtlndhpljajlneaaDoor.Sx
