import Derived.Test.YtamghpnjdohnjaaDoorFrA
/- Fractions: their order, sums, differences, products and quotients, as the program computes them. -/
namespace Go.Proofs.YtamghpnjdohnjaaDoor.Sx
open Go Go.RowKit
set_option linter.unusedVariables false
set_option linter.unusedSimpArgs false
set_option maxRecDepth 100000
set_option maxHeartbeats 8000000
attribute [local congr] fin_congr finG_congr stepG_congr step1_congr runOps_congr brv_congr obl_congr condK_congr LoopK_congr seqK_congr CutK_congr vc_congr DrawK_congr regK_congr CallK_congr AskK_congr newK_congr retC_congr ret1_congr retK_congr outV_congr closeK_congr genR_congr appR_congr finD_congr finGD_congr stepGD_congr stepD_congr CallK0_congr runD_congr okR_congr CallS_congr vcX_congr
attribute [local congr] Stop_congr
/-- a fraction in memory: two lists of limbs -/
structure IsF (M : Mem) (u1 u2 : Value) (l1 l2 : List Nat) : Prop where
  n : IsL M u32V u1 l1
  d : IsL M u32V u2 l2
  on : okN l1
  od : okN l2
  bn : l1.length < 1000000
  bd : l2.length < 1000000
theorem IsF.le {M M' : Mem} {u1 u2 : Value} {l1 l2 : List Nat} (h : IsF M u1 u2 l1 l2) (hM : Mem.le M M') : IsF M' u1 u2 l1 l2 := ⟨h.n.le hM, h.d.le hM, h.on, h.od, h.bn, h.bd⟩
theorem IsF.num {M : Mem} {u1 u2 : Value} {l1 l2 : List Nat} (h : IsF M u1 u2 l1 l2) (hc : chkF l1 l2 = true) : ∃ n d, IsL M u32V u1 (ofN n) ∧ IsL M u32V u2 (ofN d) ∧ valN l1 = n ∧ valN l2 = d ∧ (ofN n).length ≤ 128 ∧ (ofN d).length ≤ 128 ∧ 0 < d := by
  obtain ⟨e1, e2, b1, b2, h0, _⟩ := chkF_ok h.on h.od hc
  refine ⟨valN l1, valN l2, ?_, ?_, rfl, rfl, ?_, ?_, h0⟩
  · rw [← e1]; exact h.n
  · rw [← e2]; exact h.d
  · rw [← e1]; exact b1
  · rw [← e2]; exact b2
theorem mul_len (x y : Nat) : (ofN (x * y)).length ≤ (ofN x).length + (ofN y).length := ofN_len_le (by
  rw [wN_add]
  exact Nat.mul_lt_mul_of_lt_of_lt (ofN_len_lt (Nat.le_refl _)) (ofN_len_lt (Nat.le_refl _)))
theorem add_len {x y k : Nat} (h1 : (ofN x).length ≤ k) (h2 : (ofN y).length ≤ k) : (ofN (x + y)).length ≤ k + 1 := ofN_len_le (by
  have := ofN_len_lt h1
  have := ofN_len_lt h2
  rw [wN_succ]; omega)
def addF (a b c d : List Nat) : Int × Nat × Nat := if chkF a b && chkF c d then exF (valN a * valN d + valN c * valN b) (valN b * valN d) else (1, 0, 0)
def subF (a b c d : List Nat) : Int × Nat × Nat := if chkF a b && chkF c d then (if valN a * valN d < valN c * valN b then (5, 0, 0) else exF (valN a * valN d - valN c * valN b) (valN b * valN d)) else (1, 0, 0)
def mulF (a b c d : List Nat) : Int × Nat × Nat := if chkF a b && chkF c d then exF (valN a * valN c) (valN b * valN d) else (1, 0, 0)
def divF (a b c d : List Nat) : Int × Nat × Nat := if chkF a b && chkF c d then (if valN c = 0 then (4, 0, 0) else exF (valN a * valN d) (valN c * valN b)) else (1, 0, 0)
def cmpF (a b c d : List Nat) : Int := if chkF a b && chkF c d then cmpN (valN a * valN d) (valN c * valN b) else 0
section
variable {M : Mem} {K : AV → Hp → Mem → Prop} {u1 u2 v1 v2 : Value} {l1 l2 k1 k2 : List Nat}
theorem fcmp_ok (ha : IsF M u1 u2 l1 l2) (hb : IsF M v1 v2 k1 k2) (hK : ∀ M', Mem.le M M' → K (.ext (.int .i64 (cmpF l1 l2 k1 k2))) [] M') : CallS Tryd.prog 20 [.ext (.agg #[u1, u2]), .ext (.agg #[v1, v2])] [] M [] K := by
  refine inlS (cs := []) Tryd.mixed Tryd.func20 rfl (by kernel_rfl) 0 rfl rfl ?_
  simp only [Tryd.f20]
  unfold cmpF at hK
  (replace hb0 := true_and True); refine Go1.mk ?_; repeat' ((first | (with_reducible refine Go1.go ?_) | ((with_reducible first | refine brv_mk ?_ ?_ | refine gsplitD ?_ ?_ | refine gsplitG ?_ ?_) <;> intro h <;> (try simp only [Bool.not_eq_true', Bool.not_eq_false'] at h) <;> replace hb0 := h) | ((first | (with_reducible refine isCall (f := 16) ?_; refine callA_nil (by kernel_rfl) ?_) | (with_reducible refine isCall0 (f := 16) ?_; refine callA0_nil (by kernel_rfl) ?_)); refine (fcheck_ok ha.n ha.d ha.on ha.od ha.bn ha.bd (fun M1 m1 => Stop.mk ?_))) | (refine And.intro ?ob ?_; case ob => ((try simp only [sxO, ne_eq, maxLen] at *); omega)) | fail) <;> (try simp (config := { maxSteps := 1000000 }) only [hb0, ha.n.one, ha.d.one, hb.n.one, hb.d.one, ↓hold_pre, awayP, runOps, regK, step1, newK, genR, appR, obl, buildR, Value.cells, closeK, keepH, outV, retK, ret1, retC, RetV, Option.getD, runD, stepD, afterK, undef, simprocAttr, sxB, ↓sxD, sxE, sxTab]))
  have m1 : Mem.le M M1 := m1
  have ha1 := ha.le m1
  have hb1 := hb.le m1
  refine Stop.go ?_
  cases hc1 : chkF l1 l2 with
  | false =>
    rw [hc1] at hK
    (replace hb0 := true_and True); refine Go1.mk ?_; repeat' ((first | (with_reducible refine Go1.go ?_) | ((with_reducible first | refine brv_mk ?_ ?_ | refine gsplitD ?_ ?_ | refine gsplitG ?_ ?_) <;> intro h <;> (try simp only [Bool.not_eq_true', Bool.not_eq_false'] at h) <;> replace hb0 := h) | (refine And.intro ?ob ?_; case ob => ((try simp only [sxO, ne_eq, maxLen] at *); omega)) | fail) <;> (try simp (config := { maxSteps := 1000000 }) only [hb0, ha1.n.one, ha1.d.one, hb1.n.one, hb1.d.one, ↓hold_pre, awayP, runOps, regK, step1, newK, genR, appR, obl, buildR, Value.cells, closeK, keepH, outV, retK, ret1, retC, RetV, Option.getD, runD, stepD, afterK, undef, simprocAttr, sxB, ↓sxD, sxE, sxTab]))
    exact hK _ m1
  | true =>
  (replace hb0 := true_and True); refine Go1.mk ?_; repeat' ((first | (with_reducible refine Go1.go ?_) | ((with_reducible first | refine brv_mk ?_ ?_ | refine gsplitD ?_ ?_ | refine gsplitG ?_ ?_) <;> intro h <;> (try simp only [Bool.not_eq_true', Bool.not_eq_false'] at h) <;> replace hb0 := h) | ((first | (with_reducible refine isCall (f := 16) ?_; refine callA_nil (by kernel_rfl) ?_) | (with_reducible refine isCall0 (f := 16) ?_; refine callA0_nil (by kernel_rfl) ?_)); refine (fcheck_ok hb1.n hb1.d hb1.on hb1.od hb1.bn hb1.bd (fun M2 m2 => Stop.mk ?_))) | (refine And.intro ?ob ?_; case ob => ((try simp only [sxO, ne_eq, maxLen] at *); omega)) | fail) <;> (try simp (config := { maxSteps := 1000000 }) only [hb0, ha1.n.one, ha1.d.one, hb1.n.one, hb1.d.one, ↓hold_pre, awayP, runOps, regK, step1, newK, genR, appR, obl, buildR, Value.cells, closeK, keepH, outV, retK, ret1, retC, RetV, Option.getD, runD, stepD, afterK, undef, simprocAttr, sxB, ↓sxD, sxE, sxTab]))
  have m2 : Mem.le M1 M2 := m2
  have ha2 := ha1.le m2
  have hb2 := hb1.le m2
  have hm := m1.trans m2
  refine Stop.go ?_
  cases hc2 : chkF k1 k2 with
  | false =>
    rw [hc1, hc2] at hK
    (replace hb0 := true_and True); refine Go1.mk ?_; repeat' ((first | (with_reducible refine Go1.go ?_) | ((with_reducible first | refine brv_mk ?_ ?_ | refine gsplitD ?_ ?_ | refine gsplitG ?_ ?_) <;> intro h <;> (try simp only [Bool.not_eq_true', Bool.not_eq_false'] at h) <;> replace hb0 := h) | (refine And.intro ?ob ?_; case ob => ((try simp only [sxO, ne_eq, maxLen] at *); omega)) | fail) <;> (try simp (config := { maxSteps := 1000000 }) only [hb0, ha2.n.one, ha2.d.one, hb2.n.one, hb2.d.one, ↓hold_pre, awayP, runOps, regK, step1, newK, genR, appR, obl, buildR, Value.cells, closeK, keepH, outV, retK, ret1, retC, RetV, Option.getD, runD, stepD, afterK, undef, simprocAttr, sxB, ↓sxD, sxE, sxTab]))
    exact hK _ hm
  | true =>
  rw [hc1, hc2, Bool.and_self, if_pos rfl] at hK
  obtain ⟨n1, d1, hn1, hd1, e1, e2, q1, q2, q3⟩ := ha2.num hc1
  obtain ⟨n2, d2, hn2, hd2, e3, e4, r1, r2, r3⟩ := hb2.num hc2
  rw [e1, e2, e3, e4] at hK
  have t1 := mul_len n1 d2
  have t2 := mul_len n2 d1
  have t3 := mul_len d1 d2
  have t4 := mul_len n1 n2
  have t0 : 0 < d1 * d2 := Nat.mul_pos q3 r3
  (replace hb0 := true_and True); refine Go1.mk ?_; repeat' ((first | (with_reducible refine Go1.go ?_) | ((with_reducible first | refine brv_mk ?_ ?_ | refine gsplitD ?_ ?_ | refine gsplitG ?_ ?_) <;> intro h <;> (try simp only [Bool.not_eq_true', Bool.not_eq_false'] at h) <;> replace hb0 := h) | ((first | (with_reducible refine isCall (f := 61) ?_; refine callA_nil (by kernel_rfl) ?_) | (with_reducible refine isCall0 (f := 61) ?_; refine callA0_nil (by kernel_rfl) ?_)); refine (cross_ok hn1 hd1 hn2 hd2 (by omega) (by omega) (by omega) (by omega) (fun wx wy M3 m3 hx hy fx fy => Stop.mk ?_))) | (refine And.intro ?ob ?_; case ob => ((try simp only [sxO, ne_eq, maxLen] at *); omega)) | fail) <;> (try simp (config := { maxSteps := 1000000 }) only [hb0, hn1.one, hd1.one, hn2.one, hd2.one, ↓hold_pre, awayP, runOps, regK, step1, newK, genR, appR, obl, buildR, Value.cells, closeK, keepH, outV, retK, ret1, retC, RetV, Option.getD, runD, stepD, afterK, undef, simprocAttr, sxB, ↓sxD, sxE, sxTab]))
  have m3 : Mem.le M2 M3 := m3
  have hn1 := hn1.le m3
  have hd1 := hd1.le m3
  have hn2 := hn2.le m3
  have hd2 := hd2.le m3
  have fx := fx.le hm
  have fy := fy.le hm
  have hm := hm.trans m3
  refine Stop.go ?_
  (replace hb0 := true_and True); refine Go1.mk ?_; repeat' ((first | (with_reducible refine Go1.go ?_) | ((with_reducible first | refine brv_mk ?_ ?_ | refine gsplitD ?_ ?_ | refine gsplitG ?_ ?_) <;> intro h <;> (try simp only [Bool.not_eq_true', Bool.not_eq_false'] at h) <;> replace hb0 := h) | ((first | (with_reducible refine isCall (f := 60) ?_; refine callA_nil (by kernel_rfl) ?_) | (with_reducible refine isCall0 (f := 60) ?_; refine callA0_nil (by kernel_rfl) ?_)); refine (compare_ok wx wy _ _ hx hy (by omega) (by omega) ?_)) | (refine And.intro ?ob ?_; case ob => ((try simp only [sxO, ne_eq, maxLen] at *); omega)) | fail) <;> (try simp (config := { maxSteps := 1000000 }) only [hb0, hn1.one, hd1.one, hn2.one, hd2.one, hx.one, hy.one, ↓hold_pre, awayP, runOps, regK, step1, newK, genR, appR, obl, buildR, Value.cells, closeK, keepH, outV, retK, ret1, retC, RetV, Option.getD, runD, stepD, afterK, undef, simprocAttr, sxB, ↓sxD, sxE, sxTab]))
  exact hK _ hm
theorem fadd_ok (ha : IsF M u1 u2 l1 l2) (hb : IsF M v1 v2 k1 k2) (hK : FracK M K (addF l1 l2 k1 k2)) : CallS Tryd.prog 22 [.ext (.agg #[u1, u2]), .ext (.agg #[v1, v2])] [] M [] K := by
  refine inlS (cs := []) Tryd.mixed Tryd.func22 rfl (by kernel_rfl) 0 rfl rfl ?_
  simp only [Tryd.f22]
  unfold addF at hK
  (replace hb0 := true_and True); refine Go1.mk ?_; repeat' ((first | (with_reducible refine Go1.go ?_) | ((with_reducible first | refine brv_mk ?_ ?_ | refine gsplitD ?_ ?_ | refine gsplitG ?_ ?_) <;> intro h <;> (try simp only [Bool.not_eq_true', Bool.not_eq_false'] at h) <;> replace hb0 := h) | ((first | (with_reducible refine isCall (f := 16) ?_; refine callA_nil (by kernel_rfl) ?_) | (with_reducible refine isCall0 (f := 16) ?_; refine callA0_nil (by kernel_rfl) ?_)); refine (fcheck_ok ha.n ha.d ha.on ha.od ha.bn ha.bd (fun M1 m1 => Stop.mk ?_))) | (refine And.intro ?ob ?_; case ob => ((try simp only [sxO, ne_eq, maxLen] at *); omega)) | fail) <;> (try simp (config := { maxSteps := 1000000 }) only [hb0, ha.n.one, ha.d.one, hb.n.one, hb.d.one, ↓hold_pre, awayP, runOps, regK, step1, newK, genR, appR, obl, buildR, Value.cells, closeK, keepH, outV, retK, ret1, retC, RetV, Option.getD, runD, stepD, afterK, undef, simprocAttr, sxB, ↓sxD, sxE, sxTab]))
  have m1 : Mem.le M M1 := m1
  have ha1 := ha.le m1
  have hb1 := hb.le m1
  refine Stop.go ?_
  cases hc1 : chkF l1 l2 with
  | false =>
    rw [hc1] at hK
    (replace hb0 := true_and True); refine Go1.mk ?_; repeat' ((first | (with_reducible refine Go1.go ?_) | ((with_reducible first | refine brv_mk ?_ ?_ | refine gsplitD ?_ ?_ | refine gsplitG ?_ ?_) <;> intro h <;> (try simp only [Bool.not_eq_true', Bool.not_eq_false'] at h) <;> replace hb0 := h) | (refine And.intro ?ob ?_; case ob => ((try simp only [sxO, ne_eq, maxLen] at *); omega)) | fail) <;> (try simp (config := { maxSteps := 1000000 }) only [hb0, ha1.n.one, ha1.d.one, hb1.n.one, hb1.d.one, ↓hold_pre, awayP, runOps, regK, step1, newK, genR, appR, obl, buildR, Value.cells, closeK, keepH, outV, retK, ret1, retC, RetV, Option.getD, runD, stepD, afterK, undef, simprocAttr, sxB, ↓sxD, sxE, sxTab]))
    exact hK.err _ m1
  | true =>
  (replace hb0 := true_and True); refine Go1.mk ?_; repeat' ((first | (with_reducible refine Go1.go ?_) | ((with_reducible first | refine brv_mk ?_ ?_ | refine gsplitD ?_ ?_ | refine gsplitG ?_ ?_) <;> intro h <;> (try simp only [Bool.not_eq_true', Bool.not_eq_false'] at h) <;> replace hb0 := h) | ((first | (with_reducible refine isCall (f := 16) ?_; refine callA_nil (by kernel_rfl) ?_) | (with_reducible refine isCall0 (f := 16) ?_; refine callA0_nil (by kernel_rfl) ?_)); refine (fcheck_ok hb1.n hb1.d hb1.on hb1.od hb1.bn hb1.bd (fun M2 m2 => Stop.mk ?_))) | (refine And.intro ?ob ?_; case ob => ((try simp only [sxO, ne_eq, maxLen] at *); omega)) | fail) <;> (try simp (config := { maxSteps := 1000000 }) only [hb0, ha1.n.one, ha1.d.one, hb1.n.one, hb1.d.one, ↓hold_pre, awayP, runOps, regK, step1, newK, genR, appR, obl, buildR, Value.cells, closeK, keepH, outV, retK, ret1, retC, RetV, Option.getD, runD, stepD, afterK, undef, simprocAttr, sxB, ↓sxD, sxE, sxTab]))
  have m2 : Mem.le M1 M2 := m2
  have ha2 := ha1.le m2
  have hb2 := hb1.le m2
  have hm := m1.trans m2
  refine Stop.go ?_
  cases hc2 : chkF k1 k2 with
  | false =>
    rw [hc1, hc2] at hK
    (replace hb0 := true_and True); refine Go1.mk ?_; repeat' ((first | (with_reducible refine Go1.go ?_) | ((with_reducible first | refine brv_mk ?_ ?_ | refine gsplitD ?_ ?_ | refine gsplitG ?_ ?_) <;> intro h <;> (try simp only [Bool.not_eq_true', Bool.not_eq_false'] at h) <;> replace hb0 := h) | (refine And.intro ?ob ?_; case ob => ((try simp only [sxO, ne_eq, maxLen] at *); omega)) | fail) <;> (try simp (config := { maxSteps := 1000000 }) only [hb0, ha2.n.one, ha2.d.one, hb2.n.one, hb2.d.one, ↓hold_pre, awayP, runOps, regK, step1, newK, genR, appR, obl, buildR, Value.cells, closeK, keepH, outV, retK, ret1, retC, RetV, Option.getD, runD, stepD, afterK, undef, simprocAttr, sxB, ↓sxD, sxE, sxTab]))
    exact hK.err _ hm
  | true =>
  rw [hc1, hc2, Bool.and_self, if_pos rfl] at hK
  obtain ⟨n1, d1, hn1, hd1, e1, e2, q1, q2, q3⟩ := ha2.num hc1
  obtain ⟨n2, d2, hn2, hd2, e3, e4, r1, r2, r3⟩ := hb2.num hc2
  rw [e1, e2, e3, e4] at hK
  have t1 := mul_len n1 d2
  have t2 := mul_len n2 d1
  have t3 := mul_len d1 d2
  have t4 := mul_len n1 n2
  have t0 : 0 < d1 * d2 := Nat.mul_pos q3 r3
  (replace hb0 := true_and True); refine Go1.mk ?_; repeat' ((first | (with_reducible refine Go1.go ?_) | ((with_reducible first | refine brv_mk ?_ ?_ | refine gsplitD ?_ ?_ | refine gsplitG ?_ ?_) <;> intro h <;> (try simp only [Bool.not_eq_true', Bool.not_eq_false'] at h) <;> replace hb0 := h) | ((first | (with_reducible refine isCall (f := 61) ?_; refine callA_nil (by kernel_rfl) ?_) | (with_reducible refine isCall0 (f := 61) ?_; refine callA0_nil (by kernel_rfl) ?_)); refine (cross_ok hn1 hd1 hn2 hd2 (by omega) (by omega) (by omega) (by omega) (fun wx wy M3 m3 hx hy fx fy => Stop.mk ?_))) | ((with_reducible refine isDraw [some 15, some 16, some 17, some 18, some 19, some 20, some 21, some 22, some 23, some 24, some 25, some 26, some 27, some 28, none, some 5] (by decide) ?_); refine draw_rule [(0, []), (1, [0]), (6, [0, 1]), (7, [0, 1]), (8, [0, 1, 7]), (9, [0, 1, 7]), (2, [7, 9]), (3, [7, 9]), (4, [7, 9]), (5, [7, 9]), (10, []), (11, []), (12, []), (13, []), (14, []), (15, [])] [[], [], [0, 1], [0, 1, 2], [0, 1, 2], [0, 1, 2, 3, 4], [], [6], [], [8], [0, 1, 2, 3, 4, 5, 6, 7, 8, 9], [0, 1, 2, 3, 4, 5, 6, 7, 8, 9, 10], [0, 1, 2, 3, 4, 5, 6, 7, 8, 9, 10, 11], [0, 1, 2, 3, 4, 5, 6, 7, 8, 9, 10, 11], [0, 1, 2, 3, 4, 5, 6, 7, 8, 9, 10, 11, 12, 13], [0, 1, 2, 3, 4, 5, 6, 7, 8, 9, 10, 11, 12, 13, 14]] [15, 16, 17, 18, 19, 20, 21, 22, 23, 24, 27, 28] [] (by kernel_rfl) (by kernel_rfl) (by kernel_rfl) (by kernel_rfl) (by exact trivial) ?_) | (refine And.intro ?ob ?_; case ob => ((try simp only [sxO, ne_eq, maxLen] at *); omega)) | fail) <;> (try simp (config := { maxSteps := 1000000 }) only [hb0, hn1.one, hd1.one, hn2.one, hd2.one, ↓hold_pre, awayP, runOps, regK, step1, newK, genR, appR, obl, buildR, Value.cells, closeK, keepH, outV, retK, ret1, retC, RetV, Option.getD, runD, stepD, afterK, undef, simprocAttr, sxB, ↓sxD, sxE, sxTab]))
  have m3 : Mem.le M2 M3 := m3
  have hn1 := hn1.le m3
  have hd1 := hd1.le m3
  have hn2 := hn2.le m3
  have hd2 := hd2.le m3
  have fx := fx.le hm
  have fy := fy.le hm
  have hm := hm.trans m3
  refine Stop.go ?_
  (replace hb0 := true_and True); refine Go1.mk ?_; repeat' ((first | (with_reducible refine Go1.go ?_) | ((with_reducible first | refine brv_mk ?_ ?_ | refine gsplitD ?_ ?_ | refine gsplitG ?_ ?_) <;> intro h <;> (try simp only [Bool.not_eq_true', Bool.not_eq_false'] at h) <;> replace hb0 := h) | ((first | (with_reducible refine isCall (f := 63) ?_; refine callA_nil (by kernel_rfl) ?_) | (with_reducible refine isCall0 (f := 63) ?_; refine callA0_nil (by kernel_rfl) ?_)); refine (add_ok wx wy _ _ hx hy (by omega) (by omega) (fun ws M4 m4 hs fs => Stop.mk ?_))) | ((with_reducible refine isDraw [some 15, some 16, some 17, some 18, some 19, some 20, some 21, some 22, some 23, some 24, some 25, some 26, some 27, some 28, none, some 5] (by decide) ?_); refine draw_rule [(0, []), (1, [0]), (6, [0, 1]), (7, [0, 1]), (8, [0, 1, 7]), (9, [0, 1, 7]), (2, [7, 9]), (3, [7, 9]), (4, [7, 9]), (5, [7, 9]), (10, []), (11, []), (12, []), (13, []), (14, []), (15, [])] [[], [], [0, 1], [0, 1, 2], [0, 1, 2], [0, 1, 2, 3, 4], [], [6], [], [8], [0, 1, 2, 3, 4, 5, 6, 7, 8, 9], [0, 1, 2, 3, 4, 5, 6, 7, 8, 9, 10], [0, 1, 2, 3, 4, 5, 6, 7, 8, 9, 10, 11], [0, 1, 2, 3, 4, 5, 6, 7, 8, 9, 10, 11], [0, 1, 2, 3, 4, 5, 6, 7, 8, 9, 10, 11, 12, 13], [0, 1, 2, 3, 4, 5, 6, 7, 8, 9, 10, 11, 12, 13, 14]] [15, 16, 17, 18, 19, 20, 21, 22, 23, 24, 27, 28] [] (by kernel_rfl) (by kernel_rfl) (by kernel_rfl) (by kernel_rfl) (by exact trivial) ?_) | (refine And.intro ?ob ?_; case ob => ((try simp only [sxO, ne_eq, maxLen] at *); omega)) | fail) <;> (try simp (config := { maxSteps := 1000000 }) only [hb0, hn1.one, hd1.one, hn2.one, hd2.one, hx.one, hy.one, ↓hold_pre, awayP, runOps, regK, step1, newK, genR, appR, obl, buildR, Value.cells, closeK, keepH, outV, retK, ret1, retC, RetV, Option.getD, runD, stepD, afterK, undef, simprocAttr, sxB, ↓sxD, sxE, sxTab]))
  have m4 : Mem.le M3 M4 := m4
  have hn1 := hn1.le m4
  have hd1 := hd1.le m4
  have hn2 := hn2.le m4
  have hd2 := hd2.le m4
  have hx := hx.le m4
  have hy := hy.le m4
  have fs := fs.le hm
  have hm := hm.trans m4
  refine Stop.go ?_
  (replace hb0 := true_and True); refine Go1.mk ?_; repeat' ((first | (with_reducible refine Go1.go ?_) | ((with_reducible first | refine brv_mk ?_ ?_ | refine gsplitD ?_ ?_ | refine gsplitG ?_ ?_) <;> intro h <;> (try simp only [Bool.not_eq_true', Bool.not_eq_false'] at h) <;> replace hb0 := h) | ((first | (with_reducible refine isCall (f := 64) ?_; refine callA_nil (by kernel_rfl) ?_) | (with_reducible refine isCall0 (f := 64) ?_; refine callA0_nil (by kernel_rfl) ?_)); refine (mul_ok u2 v2 d1 d2 hd1 hd2 (by omega) (by omega) (fun wp M5 m5 hp fp => Stop.mk ?_))) | ((with_reducible refine isDraw [some 15, some 16, some 17, some 18, some 19, some 20, some 21, some 22, some 23, some 24, some 25, some 26, some 27, some 28, none, some 5] (by decide) ?_); refine draw_rule [(0, []), (1, [0]), (6, [0, 1]), (7, [0, 1]), (8, [0, 1, 7]), (9, [0, 1, 7]), (2, [7, 9]), (3, [7, 9]), (4, [7, 9]), (5, [7, 9]), (10, []), (11, []), (12, []), (13, []), (14, []), (15, [])] [[], [], [0, 1], [0, 1, 2], [0, 1, 2], [0, 1, 2, 3, 4], [], [6], [], [8], [0, 1, 2, 3, 4, 5, 6, 7, 8, 9], [0, 1, 2, 3, 4, 5, 6, 7, 8, 9, 10], [0, 1, 2, 3, 4, 5, 6, 7, 8, 9, 10, 11], [0, 1, 2, 3, 4, 5, 6, 7, 8, 9, 10, 11], [0, 1, 2, 3, 4, 5, 6, 7, 8, 9, 10, 11, 12, 13], [0, 1, 2, 3, 4, 5, 6, 7, 8, 9, 10, 11, 12, 13, 14]] [15, 16, 17, 18, 19, 20, 21, 22, 23, 24, 27, 28] [] (by kernel_rfl) (by kernel_rfl) (by kernel_rfl) (by kernel_rfl) (by exact trivial) ?_) | (refine And.intro ?ob ?_; case ob => ((try simp only [sxO, ne_eq, maxLen] at *); omega)) | fail) <;> (try simp (config := { maxSteps := 1000000 }) only [hb0, hn1.one, hd1.one, hn2.one, hd2.one, hx.one, hy.one, hs.one, ↓hold_pre, awayP, runOps, regK, step1, newK, genR, appR, obl, buildR, Value.cells, closeK, keepH, outV, retK, ret1, retC, RetV, Option.getD, runD, stepD, afterK, undef, simprocAttr, sxB, ↓sxD, sxE, sxTab]))
  have m5 : Mem.le M4 M5 := m5
  have hn1 := hn1.le m5
  have hd1 := hd1.le m5
  have hn2 := hn2.le m5
  have hd2 := hd2.le m5
  have hx := hx.le m5
  have hy := hy.le m5
  have hs := hs.le m5
  have fp := fp.le hm
  have hm := hm.trans m5
  refine Stop.go ?_
  have t5 := add_len (x := n1 * d2) (y := n2 * d1) (k := 256) (by omega) (by omega)
  (replace hb0 := true_and True); refine Go1.mk ?_; repeat' ((first | (with_reducible refine Go1.go ?_) | ((with_reducible first | refine brv_mk ?_ ?_ | refine gsplitD ?_ ?_ | refine gsplitG ?_ ?_) <;> intro h <;> (try simp only [Bool.not_eq_true', Bool.not_eq_false'] at h) <;> replace hb0 := h) | ((first | (with_reducible refine isCall (f := 51) ?_; refine callA_nil (by kernel_rfl) ?_) | (with_reducible refine isCall0 (f := 51) ?_; refine callA0_nil (by kernel_rfl) ?_)); refine (exact_ok ws wp _ _ hs hp (by omega) (by omega) t0 (fun w1 w2 M6 m6 h1 h2 f1 f2 => Stop.mk ?_))) | ((with_reducible refine isDraw [some 15, some 16, some 17, some 18, some 19, some 20, some 21, some 22, some 23, some 24, some 25, some 26, some 27, some 28, none, some 5] (by decide) ?_); refine draw_rule [(0, []), (1, [0]), (6, [0, 1]), (7, [0, 1]), (8, [0, 1, 7]), (9, [0, 1, 7]), (2, [7, 9]), (3, [7, 9]), (4, [7, 9]), (5, [7, 9]), (10, []), (11, []), (12, []), (13, []), (14, []), (15, [])] [[], [], [0, 1], [0, 1, 2], [0, 1, 2], [0, 1, 2, 3, 4], [], [6], [], [8], [0, 1, 2, 3, 4, 5, 6, 7, 8, 9], [0, 1, 2, 3, 4, 5, 6, 7, 8, 9, 10], [0, 1, 2, 3, 4, 5, 6, 7, 8, 9, 10, 11], [0, 1, 2, 3, 4, 5, 6, 7, 8, 9, 10, 11], [0, 1, 2, 3, 4, 5, 6, 7, 8, 9, 10, 11, 12, 13], [0, 1, 2, 3, 4, 5, 6, 7, 8, 9, 10, 11, 12, 13, 14]] [15, 16, 17, 18, 19, 20, 21, 22, 23, 24, 27, 28] [] (by kernel_rfl) (by kernel_rfl) (by kernel_rfl) (by kernel_rfl) (by exact trivial) ?_) | (refine And.intro ?ob ?_; case ob => ((try simp only [sxO, ne_eq, maxLen] at *); omega)) | fail) <;> (try simp (config := { maxSteps := 1000000 }) only [hb0, hn1.one, hd1.one, hn2.one, hd2.one, hx.one, hy.one, hs.one, hp.one, ↓hold_pre, awayP, runOps, regK, step1, newK, genR, appR, obl, buildR, Value.cells, closeK, keepH, outV, retK, ret1, retC, RetV, Option.getD, runD, stepD, afterK, undef, simprocAttr, sxB, ↓sxD, sxE, sxTab]))
  have m6 : Mem.le M5 M6 := m6
  have hn1 := hn1.le m6
  have hd1 := hd1.le m6
  have hn2 := hn2.le m6
  have hd2 := hd2.le m6
  have hx := hx.le m6
  have hy := hy.le m6
  have hs := hs.le m6
  have hp := hp.le m6
  have f1 := f1.le hm
  have f2 := f2.le hm
  have hm := hm.trans m6
  refine Stop.go ?_
  (replace hb0 := true_and True); refine Go1.mk ?_; repeat' ((first | (with_reducible refine Go1.go ?_) | ((with_reducible first | refine brv_mk ?_ ?_ | refine gsplitD ?_ ?_ | refine gsplitG ?_ ?_) <;> intro h <;> (try simp only [Bool.not_eq_true', Bool.not_eq_false'] at h) <;> replace hb0 := h) | (refine And.intro ?ob ?_; case ob => ((try simp only [sxO, ne_eq, maxLen] at *); omega)) | fail) <;> (try simp (config := { maxSteps := 1000000 }) only [hb0, hn1.one, hd1.one, hn2.one, hd2.one, hx.one, hy.one, hs.one, hp.one, h1.one, h2.one, ↓hold_pre, awayP, runOps, regK, step1, newK, genR, appR, obl, buildR, Value.cells, closeK, keepH, outV, retK, ret1, retC, RetV, Option.getD, runD, stepD, afterK, undef, simprocAttr, sxB, ↓sxD, sxE, sxTab]))
  exact hK _ _ _ hm h1 h2 f1 f2
theorem fmul_ok (ha : IsF M u1 u2 l1 l2) (hb : IsF M v1 v2 k1 k2) (hK : FracK M K (mulF l1 l2 k1 k2)) : CallS Tryd.prog 26 [.ext (.agg #[u1, u2]), .ext (.agg #[v1, v2])] [] M [] K := by
  refine inlS (cs := []) Tryd.mixed Tryd.func26 rfl (by kernel_rfl) 0 rfl rfl ?_
  simp only [Tryd.f26]
  unfold mulF at hK
  (replace hb0 := true_and True); refine Go1.mk ?_; repeat' ((first | (with_reducible refine Go1.go ?_) | ((with_reducible first | refine brv_mk ?_ ?_ | refine gsplitD ?_ ?_ | refine gsplitG ?_ ?_) <;> intro h <;> (try simp only [Bool.not_eq_true', Bool.not_eq_false'] at h) <;> replace hb0 := h) | ((first | (with_reducible refine isCall (f := 16) ?_; refine callA_nil (by kernel_rfl) ?_) | (with_reducible refine isCall0 (f := 16) ?_; refine callA0_nil (by kernel_rfl) ?_)); refine (fcheck_ok ha.n ha.d ha.on ha.od ha.bn ha.bd (fun M1 m1 => Stop.mk ?_))) | (refine And.intro ?ob ?_; case ob => ((try simp only [sxO, ne_eq, maxLen] at *); omega)) | fail) <;> (try simp (config := { maxSteps := 1000000 }) only [hb0, ha.n.one, ha.d.one, hb.n.one, hb.d.one, ↓hold_pre, awayP, runOps, regK, step1, newK, genR, appR, obl, buildR, Value.cells, closeK, keepH, outV, retK, ret1, retC, RetV, Option.getD, runD, stepD, afterK, undef, simprocAttr, sxB, ↓sxD, sxE, sxTab]))
  have m1 : Mem.le M M1 := m1
  have ha1 := ha.le m1
  have hb1 := hb.le m1
  refine Stop.go ?_
  cases hc1 : chkF l1 l2 with
  | false =>
    rw [hc1] at hK
    (replace hb0 := true_and True); refine Go1.mk ?_; repeat' ((first | (with_reducible refine Go1.go ?_) | ((with_reducible first | refine brv_mk ?_ ?_ | refine gsplitD ?_ ?_ | refine gsplitG ?_ ?_) <;> intro h <;> (try simp only [Bool.not_eq_true', Bool.not_eq_false'] at h) <;> replace hb0 := h) | (refine And.intro ?ob ?_; case ob => ((try simp only [sxO, ne_eq, maxLen] at *); omega)) | fail) <;> (try simp (config := { maxSteps := 1000000 }) only [hb0, ha1.n.one, ha1.d.one, hb1.n.one, hb1.d.one, ↓hold_pre, awayP, runOps, regK, step1, newK, genR, appR, obl, buildR, Value.cells, closeK, keepH, outV, retK, ret1, retC, RetV, Option.getD, runD, stepD, afterK, undef, simprocAttr, sxB, ↓sxD, sxE, sxTab]))
    exact hK.err _ m1
  | true =>
  (replace hb0 := true_and True); refine Go1.mk ?_; repeat' ((first | (with_reducible refine Go1.go ?_) | ((with_reducible first | refine brv_mk ?_ ?_ | refine gsplitD ?_ ?_ | refine gsplitG ?_ ?_) <;> intro h <;> (try simp only [Bool.not_eq_true', Bool.not_eq_false'] at h) <;> replace hb0 := h) | ((first | (with_reducible refine isCall (f := 16) ?_; refine callA_nil (by kernel_rfl) ?_) | (with_reducible refine isCall0 (f := 16) ?_; refine callA0_nil (by kernel_rfl) ?_)); refine (fcheck_ok hb1.n hb1.d hb1.on hb1.od hb1.bn hb1.bd (fun M2 m2 => Stop.mk ?_))) | (refine And.intro ?ob ?_; case ob => ((try simp only [sxO, ne_eq, maxLen] at *); omega)) | fail) <;> (try simp (config := { maxSteps := 1000000 }) only [hb0, ha1.n.one, ha1.d.one, hb1.n.one, hb1.d.one, ↓hold_pre, awayP, runOps, regK, step1, newK, genR, appR, obl, buildR, Value.cells, closeK, keepH, outV, retK, ret1, retC, RetV, Option.getD, runD, stepD, afterK, undef, simprocAttr, sxB, ↓sxD, sxE, sxTab]))
  have m2 : Mem.le M1 M2 := m2
  have ha2 := ha1.le m2
  have hb2 := hb1.le m2
  have hm := m1.trans m2
  refine Stop.go ?_
  cases hc2 : chkF k1 k2 with
  | false =>
    rw [hc1, hc2] at hK
    (replace hb0 := true_and True); refine Go1.mk ?_; repeat' ((first | (with_reducible refine Go1.go ?_) | ((with_reducible first | refine brv_mk ?_ ?_ | refine gsplitD ?_ ?_ | refine gsplitG ?_ ?_) <;> intro h <;> (try simp only [Bool.not_eq_true', Bool.not_eq_false'] at h) <;> replace hb0 := h) | (refine And.intro ?ob ?_; case ob => ((try simp only [sxO, ne_eq, maxLen] at *); omega)) | fail) <;> (try simp (config := { maxSteps := 1000000 }) only [hb0, ha2.n.one, ha2.d.one, hb2.n.one, hb2.d.one, ↓hold_pre, awayP, runOps, regK, step1, newK, genR, appR, obl, buildR, Value.cells, closeK, keepH, outV, retK, ret1, retC, RetV, Option.getD, runD, stepD, afterK, undef, simprocAttr, sxB, ↓sxD, sxE, sxTab]))
    exact hK.err _ hm
  | true =>
  rw [hc1, hc2, Bool.and_self, if_pos rfl] at hK
  obtain ⟨n1, d1, hn1, hd1, e1, e2, q1, q2, q3⟩ := ha2.num hc1
  obtain ⟨n2, d2, hn2, hd2, e3, e4, r1, r2, r3⟩ := hb2.num hc2
  rw [e1, e2, e3, e4] at hK
  have t1 := mul_len n1 d2
  have t2 := mul_len n2 d1
  have t3 := mul_len d1 d2
  have t4 := mul_len n1 n2
  have t0 : 0 < d1 * d2 := Nat.mul_pos q3 r3
  (replace hb0 := true_and True); refine Go1.mk ?_; repeat' ((first | (with_reducible refine Go1.go ?_) | ((with_reducible first | refine brv_mk ?_ ?_ | refine gsplitD ?_ ?_ | refine gsplitG ?_ ?_) <;> intro h <;> (try simp only [Bool.not_eq_true', Bool.not_eq_false'] at h) <;> replace hb0 := h) | ((first | (with_reducible refine isCall (f := 64) ?_; refine callA_nil (by kernel_rfl) ?_) | (with_reducible refine isCall0 (f := 64) ?_; refine callA0_nil (by kernel_rfl) ?_)); refine (mul_ok u1 v1 n1 n2 hn1 hn2 (by omega) (by omega) (fun ws M3 m3 hs fs => Stop.mk ?_))) | ((with_reducible refine isDraw [some 15, some 16, some 17, some 18, some 19, some 20, some 21, some 22, some 23, some 24, some 25, some 26, some 27, none, some 5] (by decide) ?_); refine draw_rule [(0, []), (1, []), (2, [1]), (3, [1]), (5, [1, 3]), (6, [1, 3]), (7, [1, 3, 6]), (8, [1, 3, 6]), (4, [6, 8]), (9, []), (10, []), (11, []), (12, []), (13, []), (14, [])] [[], [0], [], [2], [0, 1, 2, 3], [], [5], [], [7], [0, 1, 2, 3, 4, 5, 6, 7, 8], [0, 1, 2, 3, 4, 5, 6, 7, 8, 9], [0, 1, 2, 3, 4, 5, 6, 7, 8, 9, 10], [0, 1, 2, 3, 4, 5, 6, 7, 8, 9, 10], [0, 1, 2, 3, 4, 5, 6, 7, 8, 9, 10, 11, 12], [0, 1, 2, 3, 4, 5, 6, 7, 8, 9, 10, 11, 12, 13]] [15, 16, 17, 18, 19, 20, 21, 22, 23, 26, 27] [] (by kernel_rfl) (by kernel_rfl) (by kernel_rfl) (by kernel_rfl) (by exact trivial) ?_) | (refine And.intro ?ob ?_; case ob => ((try simp only [sxO, ne_eq, maxLen] at *); omega)) | fail) <;> (try simp (config := { maxSteps := 1000000 }) only [hb0, hn1.one, hd1.one, hn2.one, hd2.one, ↓hold_pre, awayP, runOps, regK, step1, newK, genR, appR, obl, buildR, Value.cells, closeK, keepH, outV, retK, ret1, retC, RetV, Option.getD, runD, stepD, afterK, undef, simprocAttr, sxB, ↓sxD, sxE, sxTab]))
  have m3 : Mem.le M2 M3 := m3
  have hn1 := hn1.le m3
  have hd1 := hd1.le m3
  have hn2 := hn2.le m3
  have hd2 := hd2.le m3
  have fs := fs.le hm
  have hm := hm.trans m3
  refine Stop.go ?_
  (replace hb0 := true_and True); refine Go1.mk ?_; repeat' ((first | (with_reducible refine Go1.go ?_) | ((with_reducible first | refine brv_mk ?_ ?_ | refine gsplitD ?_ ?_ | refine gsplitG ?_ ?_) <;> intro h <;> (try simp only [Bool.not_eq_true', Bool.not_eq_false'] at h) <;> replace hb0 := h) | ((first | (with_reducible refine isCall (f := 64) ?_; refine callA_nil (by kernel_rfl) ?_) | (with_reducible refine isCall0 (f := 64) ?_; refine callA0_nil (by kernel_rfl) ?_)); refine (mul_ok u2 v2 d1 d2 hd1 hd2 (by omega) (by omega) (fun wp M4 m4 hp fp => Stop.mk ?_))) | ((with_reducible refine isDraw [some 15, some 16, some 17, some 18, some 19, some 20, some 21, some 22, some 23, some 24, some 25, some 26, some 27, none, some 5] (by decide) ?_); refine draw_rule [(0, []), (1, []), (2, [1]), (3, [1]), (5, [1, 3]), (6, [1, 3]), (7, [1, 3, 6]), (8, [1, 3, 6]), (4, [6, 8]), (9, []), (10, []), (11, []), (12, []), (13, []), (14, [])] [[], [0], [], [2], [0, 1, 2, 3], [], [5], [], [7], [0, 1, 2, 3, 4, 5, 6, 7, 8], [0, 1, 2, 3, 4, 5, 6, 7, 8, 9], [0, 1, 2, 3, 4, 5, 6, 7, 8, 9, 10], [0, 1, 2, 3, 4, 5, 6, 7, 8, 9, 10], [0, 1, 2, 3, 4, 5, 6, 7, 8, 9, 10, 11, 12], [0, 1, 2, 3, 4, 5, 6, 7, 8, 9, 10, 11, 12, 13]] [15, 16, 17, 18, 19, 20, 21, 22, 23, 26, 27] [] (by kernel_rfl) (by kernel_rfl) (by kernel_rfl) (by kernel_rfl) (by exact trivial) ?_) | (refine And.intro ?ob ?_; case ob => ((try simp only [sxO, ne_eq, maxLen] at *); omega)) | fail) <;> (try simp (config := { maxSteps := 1000000 }) only [hb0, hn1.one, hd1.one, hn2.one, hd2.one, hs.one, ↓hold_pre, awayP, runOps, regK, step1, newK, genR, appR, obl, buildR, Value.cells, closeK, keepH, outV, retK, ret1, retC, RetV, Option.getD, runD, stepD, afterK, undef, simprocAttr, sxB, ↓sxD, sxE, sxTab]))
  have m4 : Mem.le M3 M4 := m4
  have hn1 := hn1.le m4
  have hd1 := hd1.le m4
  have hn2 := hn2.le m4
  have hd2 := hd2.le m4
  have hs := hs.le m4
  have fp := fp.le hm
  have hm := hm.trans m4
  refine Stop.go ?_
  (replace hb0 := true_and True); refine Go1.mk ?_; repeat' ((first | (with_reducible refine Go1.go ?_) | ((with_reducible first | refine brv_mk ?_ ?_ | refine gsplitD ?_ ?_ | refine gsplitG ?_ ?_) <;> intro h <;> (try simp only [Bool.not_eq_true', Bool.not_eq_false'] at h) <;> replace hb0 := h) | ((first | (with_reducible refine isCall (f := 51) ?_; refine callA_nil (by kernel_rfl) ?_) | (with_reducible refine isCall0 (f := 51) ?_; refine callA0_nil (by kernel_rfl) ?_)); refine (exact_ok ws wp _ _ hs hp (by omega) (by omega) t0 (fun w1 w2 M5 m5 h1 h2 f1 f2 => Stop.mk ?_))) | ((with_reducible refine isDraw [some 15, some 16, some 17, some 18, some 19, some 20, some 21, some 22, some 23, some 24, some 25, some 26, some 27, none, some 5] (by decide) ?_); refine draw_rule [(0, []), (1, []), (2, [1]), (3, [1]), (5, [1, 3]), (6, [1, 3]), (7, [1, 3, 6]), (8, [1, 3, 6]), (4, [6, 8]), (9, []), (10, []), (11, []), (12, []), (13, []), (14, [])] [[], [0], [], [2], [0, 1, 2, 3], [], [5], [], [7], [0, 1, 2, 3, 4, 5, 6, 7, 8], [0, 1, 2, 3, 4, 5, 6, 7, 8, 9], [0, 1, 2, 3, 4, 5, 6, 7, 8, 9, 10], [0, 1, 2, 3, 4, 5, 6, 7, 8, 9, 10], [0, 1, 2, 3, 4, 5, 6, 7, 8, 9, 10, 11, 12], [0, 1, 2, 3, 4, 5, 6, 7, 8, 9, 10, 11, 12, 13]] [15, 16, 17, 18, 19, 20, 21, 22, 23, 26, 27] [] (by kernel_rfl) (by kernel_rfl) (by kernel_rfl) (by kernel_rfl) (by exact trivial) ?_) | (refine And.intro ?ob ?_; case ob => ((try simp only [sxO, ne_eq, maxLen] at *); omega)) | fail) <;> (try simp (config := { maxSteps := 1000000 }) only [hb0, hn1.one, hd1.one, hn2.one, hd2.one, hs.one, hp.one, ↓hold_pre, awayP, runOps, regK, step1, newK, genR, appR, obl, buildR, Value.cells, closeK, keepH, outV, retK, ret1, retC, RetV, Option.getD, runD, stepD, afterK, undef, simprocAttr, sxB, ↓sxD, sxE, sxTab]))
  have m5 : Mem.le M4 M5 := m5
  have hn1 := hn1.le m5
  have hd1 := hd1.le m5
  have hn2 := hn2.le m5
  have hd2 := hd2.le m5
  have hs := hs.le m5
  have hp := hp.le m5
  have f1 := f1.le hm
  have f2 := f2.le hm
  have hm := hm.trans m5
  refine Stop.go ?_
  (replace hb0 := true_and True); refine Go1.mk ?_; repeat' ((first | (with_reducible refine Go1.go ?_) | ((with_reducible first | refine brv_mk ?_ ?_ | refine gsplitD ?_ ?_ | refine gsplitG ?_ ?_) <;> intro h <;> (try simp only [Bool.not_eq_true', Bool.not_eq_false'] at h) <;> replace hb0 := h) | (refine And.intro ?ob ?_; case ob => ((try simp only [sxO, ne_eq, maxLen] at *); omega)) | fail) <;> (try simp (config := { maxSteps := 1000000 }) only [hb0, hn1.one, hd1.one, hn2.one, hd2.one, hs.one, hp.one, h1.one, h2.one, ↓hold_pre, awayP, runOps, regK, step1, newK, genR, appR, obl, buildR, Value.cells, closeK, keepH, outV, retK, ret1, retC, RetV, Option.getD, runD, stepD, afterK, undef, simprocAttr, sxB, ↓sxD, sxE, sxTab]))
  exact hK _ _ _ hm h1 h2 f1 f2
theorem fdiv_ok (ha : IsF M u1 u2 l1 l2) (hb : IsF M v1 v2 k1 k2) (hK : FracK M K (divF l1 l2 k1 k2)) : CallS Tryd.prog 28 [.ext (.agg #[u1, u2]), .ext (.agg #[v1, v2])] [] M [] K := by
  refine inlS (cs := []) Tryd.mixed Tryd.func28 rfl (by kernel_rfl) 0 rfl rfl ?_
  simp only [Tryd.f28]
  unfold divF at hK
  (replace hb0 := true_and True); refine Go1.mk ?_; repeat' ((first | (with_reducible refine Go1.go ?_) | ((with_reducible first | refine brv_mk ?_ ?_ | refine gsplitD ?_ ?_ | refine gsplitG ?_ ?_) <;> intro h <;> (try simp only [Bool.not_eq_true', Bool.not_eq_false'] at h) <;> replace hb0 := h) | ((first | (with_reducible refine isCall (f := 16) ?_; refine callA_nil (by kernel_rfl) ?_) | (with_reducible refine isCall0 (f := 16) ?_; refine callA0_nil (by kernel_rfl) ?_)); refine (fcheck_ok ha.n ha.d ha.on ha.od ha.bn ha.bd (fun M1 m1 => Stop.mk ?_))) | (refine And.intro ?ob ?_; case ob => ((try simp only [sxO, ne_eq, maxLen] at *); omega)) | fail) <;> (try simp (config := { maxSteps := 1000000 }) only [hb0, ha.n.one, ha.d.one, hb.n.one, hb.d.one, ↓hold_pre, awayP, runOps, regK, step1, newK, genR, appR, obl, buildR, Value.cells, closeK, keepH, outV, retK, ret1, retC, RetV, Option.getD, runD, stepD, afterK, undef, simprocAttr, sxB, ↓sxD, sxE, sxTab]))
  have m1 : Mem.le M M1 := m1
  have ha1 := ha.le m1
  have hb1 := hb.le m1
  refine Stop.go ?_
  cases hc1 : chkF l1 l2 with
  | false =>
    rw [hc1] at hK
    (replace hb0 := true_and True); refine Go1.mk ?_; repeat' ((first | (with_reducible refine Go1.go ?_) | ((with_reducible first | refine brv_mk ?_ ?_ | refine gsplitD ?_ ?_ | refine gsplitG ?_ ?_) <;> intro h <;> (try simp only [Bool.not_eq_true', Bool.not_eq_false'] at h) <;> replace hb0 := h) | (refine And.intro ?ob ?_; case ob => ((try simp only [sxO, ne_eq, maxLen] at *); omega)) | fail) <;> (try simp (config := { maxSteps := 1000000 }) only [hb0, ha1.n.one, ha1.d.one, hb1.n.one, hb1.d.one, ↓hold_pre, awayP, runOps, regK, step1, newK, genR, appR, obl, buildR, Value.cells, closeK, keepH, outV, retK, ret1, retC, RetV, Option.getD, runD, stepD, afterK, undef, simprocAttr, sxB, ↓sxD, sxE, sxTab]))
    exact hK.err _ m1
  | true =>
  (replace hb0 := true_and True); refine Go1.mk ?_; repeat' ((first | (with_reducible refine Go1.go ?_) | ((with_reducible first | refine brv_mk ?_ ?_ | refine gsplitD ?_ ?_ | refine gsplitG ?_ ?_) <;> intro h <;> (try simp only [Bool.not_eq_true', Bool.not_eq_false'] at h) <;> replace hb0 := h) | ((first | (with_reducible refine isCall (f := 16) ?_; refine callA_nil (by kernel_rfl) ?_) | (with_reducible refine isCall0 (f := 16) ?_; refine callA0_nil (by kernel_rfl) ?_)); refine (fcheck_ok hb1.n hb1.d hb1.on hb1.od hb1.bn hb1.bd (fun M2 m2 => Stop.mk ?_))) | (refine And.intro ?ob ?_; case ob => ((try simp only [sxO, ne_eq, maxLen] at *); omega)) | fail) <;> (try simp (config := { maxSteps := 1000000 }) only [hb0, ha1.n.one, ha1.d.one, hb1.n.one, hb1.d.one, ↓hold_pre, awayP, runOps, regK, step1, newK, genR, appR, obl, buildR, Value.cells, closeK, keepH, outV, retK, ret1, retC, RetV, Option.getD, runD, stepD, afterK, undef, simprocAttr, sxB, ↓sxD, sxE, sxTab]))
  have m2 : Mem.le M1 M2 := m2
  have ha2 := ha1.le m2
  have hb2 := hb1.le m2
  have hm := m1.trans m2
  refine Stop.go ?_
  cases hc2 : chkF k1 k2 with
  | false =>
    rw [hc1, hc2] at hK
    (replace hb0 := true_and True); refine Go1.mk ?_; repeat' ((first | (with_reducible refine Go1.go ?_) | ((with_reducible first | refine brv_mk ?_ ?_ | refine gsplitD ?_ ?_ | refine gsplitG ?_ ?_) <;> intro h <;> (try simp only [Bool.not_eq_true', Bool.not_eq_false'] at h) <;> replace hb0 := h) | (refine And.intro ?ob ?_; case ob => ((try simp only [sxO, ne_eq, maxLen] at *); omega)) | fail) <;> (try simp (config := { maxSteps := 1000000 }) only [hb0, ha2.n.one, ha2.d.one, hb2.n.one, hb2.d.one, ↓hold_pre, awayP, runOps, regK, step1, newK, genR, appR, obl, buildR, Value.cells, closeK, keepH, outV, retK, ret1, retC, RetV, Option.getD, runD, stepD, afterK, undef, simprocAttr, sxB, ↓sxD, sxE, sxTab]))
    exact hK.err _ hm
  | true =>
  rw [hc1, hc2, Bool.and_self, if_pos rfl] at hK
  obtain ⟨n1, d1, hn1, hd1, e1, e2, q1, q2, q3⟩ := ha2.num hc1
  obtain ⟨n2, d2, hn2, hd2, e3, e4, r1, r2, r3⟩ := hb2.num hc2
  rw [e1, e2, e3, e4] at hK
  have t1 := mul_len n1 d2
  have t2 := mul_len n2 d1
  have t3 := mul_len d1 d2
  have t4 := mul_len n1 n2
  have t0 : 0 < d1 * d2 := Nat.mul_pos q3 r3
  by_cases hz : n2 = 0
  · have z1 : decide (((ofN n2).length : Int) = 0) = true := by rw [hz, ofN_zero]; rfl
    rw [if_pos hz] at hK
    (replace hb0 := true_and True); refine Go1.mk ?_; repeat' ((first | (with_reducible refine Go1.go ?_) | ((with_reducible first | refine brv_mk ?_ ?_ | refine gsplitD ?_ ?_ | refine gsplitG ?_ ?_) <;> intro h <;> (try simp only [Bool.not_eq_true', Bool.not_eq_false'] at h) <;> replace hb0 := h) | (refine And.intro ?ob ?_; case ob => ((try simp only [sxO, ne_eq, maxLen] at *); omega)) | fail) <;> (try simp (config := { maxSteps := 1000000 }) only [hb0, hn1.one, hd1.one, hn2.one, hn2.len, hn2.sl, hd2.one, z1, ↓hold_pre, awayP, runOps, regK, step1, newK, genR, appR, obl, buildR, Value.cells, closeK, keepH, outV, retK, ret1, retC, RetV, Option.getD, runD, stepD, afterK, undef, simprocAttr, sxB, ↓sxD, sxE, sxTab]))
    exact hK.err _ hm
  rw [if_neg hz] at hK
  have z1 : decide (((ofN n2).length : Int) = 0) = false := by
    rw [decide_eq_false_iff_not]
    intro h
    exact hz (ofN_nil.1 (List.length_eq_zero_iff.1 (by omega)))
  have z0 : 0 < n2 * d1 := Nat.mul_pos (by omega) q3
  (replace hb0 := true_and True); refine Go1.mk ?_; repeat' ((first | (with_reducible refine Go1.go ?_) | ((with_reducible first | refine brv_mk ?_ ?_ | refine gsplitD ?_ ?_ | refine gsplitG ?_ ?_) <;> intro h <;> (try simp only [Bool.not_eq_true', Bool.not_eq_false'] at h) <;> replace hb0 := h) | ((first | (with_reducible refine isCall (f := 61) ?_; refine callA_nil (by kernel_rfl) ?_) | (with_reducible refine isCall0 (f := 61) ?_; refine callA0_nil (by kernel_rfl) ?_)); refine (cross_ok hn1 hd1 hn2 hd2 (by omega) (by omega) (by omega) (by omega) (fun wx wy M3 m3 hx hy fx fy => Stop.mk ?_))) | (refine And.intro ?ob ?_; case ob => ((try simp only [sxO, ne_eq, maxLen] at *); omega)) | fail) <;> (try simp (config := { maxSteps := 1000000 }) only [hb0, hn1.one, hd1.one, hn2.one, hd2.one, hn2.len, hn2.sl, z1, ↓hold_pre, awayP, runOps, regK, step1, newK, genR, appR, obl, buildR, Value.cells, closeK, keepH, outV, retK, ret1, retC, RetV, Option.getD, runD, stepD, afterK, undef, simprocAttr, sxB, ↓sxD, sxE, sxTab]))
  have m3 : Mem.le M2 M3 := m3
  have hn1 := hn1.le m3
  have hd1 := hd1.le m3
  have hn2 := hn2.le m3
  have hd2 := hd2.le m3
  have fx := fx.le hm
  have fy := fy.le hm
  have hm := hm.trans m3
  refine Stop.go ?_
  (replace hb0 := true_and True); refine Go1.mk ?_; repeat' ((first | (with_reducible refine Go1.go ?_) | ((with_reducible first | refine brv_mk ?_ ?_ | refine gsplitD ?_ ?_ | refine gsplitG ?_ ?_) <;> intro h <;> (try simp only [Bool.not_eq_true', Bool.not_eq_false'] at h) <;> replace hb0 := h) | ((first | (with_reducible refine isCall (f := 51) ?_; refine callA_nil (by kernel_rfl) ?_) | (with_reducible refine isCall0 (f := 51) ?_; refine callA0_nil (by kernel_rfl) ?_)); refine (exact_ok wx wy _ _ hx hy (by omega) (by omega) z0 (fun w1 w2 M4 m4 h1 h2 f1 f2 => Stop.mk ?_))) | (refine And.intro ?ob ?_; case ob => ((try simp only [sxO, ne_eq, maxLen] at *); omega)) | fail) <;> (try simp (config := { maxSteps := 1000000 }) only [hb0, hn1.one, hd1.one, hn2.one, hd2.one, hx.one, hy.one, ↓hold_pre, awayP, runOps, regK, step1, newK, genR, appR, obl, buildR, Value.cells, closeK, keepH, outV, retK, ret1, retC, RetV, Option.getD, runD, stepD, afterK, undef, simprocAttr, sxB, ↓sxD, sxE, sxTab]))
  have m4 : Mem.le M3 M4 := m4
  have hn1 := hn1.le m4
  have hd1 := hd1.le m4
  have hn2 := hn2.le m4
  have hd2 := hd2.le m4
  have hx := hx.le m4
  have hy := hy.le m4
  have f1 := f1.le hm
  have f2 := f2.le hm
  have hm := hm.trans m4
  refine Stop.go ?_
  (replace hb0 := true_and True); refine Go1.mk ?_; repeat' ((first | (with_reducible refine Go1.go ?_) | ((with_reducible first | refine brv_mk ?_ ?_ | refine gsplitD ?_ ?_ | refine gsplitG ?_ ?_) <;> intro h <;> (try simp only [Bool.not_eq_true', Bool.not_eq_false'] at h) <;> replace hb0 := h) | (refine And.intro ?ob ?_; case ob => ((try simp only [sxO, ne_eq, maxLen] at *); omega)) | fail) <;> (try simp (config := { maxSteps := 1000000 }) only [hb0, hn1.one, hd1.one, hn2.one, hd2.one, hx.one, hy.one, h1.one, h2.one, ↓hold_pre, awayP, runOps, regK, step1, newK, genR, appR, obl, buildR, Value.cells, closeK, keepH, outV, retK, ret1, retC, RetV, Option.getD, runD, stepD, afterK, undef, simprocAttr, sxB, ↓sxD, sxE, sxTab]))
  exact hK _ _ _ hm h1 h2 f1 f2
theorem fsub_ok (ha : IsF M u1 u2 l1 l2) (hb : IsF M v1 v2 k1 k2) (hK : FracK M K (subF l1 l2 k1 k2)) : CallS Tryd.prog 24 [.ext (.agg #[u1, u2]), .ext (.agg #[v1, v2])] [] M [] K := by
  refine inlS (cs := []) Tryd.mixed Tryd.func24 rfl (by kernel_rfl) 0 rfl rfl ?_
  simp only [Tryd.f24]
  unfold subF at hK
  (replace hb0 := true_and True); refine Go1.mk ?_; repeat' ((first | (with_reducible refine Go1.go ?_) | ((with_reducible first | refine brv_mk ?_ ?_ | refine gsplitD ?_ ?_ | refine gsplitG ?_ ?_) <;> intro h <;> (try simp only [Bool.not_eq_true', Bool.not_eq_false'] at h) <;> replace hb0 := h) | ((first | (with_reducible refine isCall (f := 16) ?_; refine callA_nil (by kernel_rfl) ?_) | (with_reducible refine isCall0 (f := 16) ?_; refine callA0_nil (by kernel_rfl) ?_)); refine (fcheck_ok ha.n ha.d ha.on ha.od ha.bn ha.bd (fun M1 m1 => Stop.mk ?_))) | (refine And.intro ?ob ?_; case ob => ((try simp only [sxO, ne_eq, maxLen] at *); omega)) | fail) <;> (try simp (config := { maxSteps := 1000000 }) only [hb0, ha.n.one, ha.d.one, hb.n.one, hb.d.one, ↓hold_pre, awayP, runOps, regK, step1, newK, genR, appR, obl, buildR, Value.cells, closeK, keepH, outV, retK, ret1, retC, RetV, Option.getD, runD, stepD, afterK, undef, simprocAttr, sxB, ↓sxD, sxE, sxTab]))
  have m1 : Mem.le M M1 := m1
  have ha1 := ha.le m1
  have hb1 := hb.le m1
  refine Stop.go ?_
  cases hc1 : chkF l1 l2 with
  | false =>
    rw [hc1] at hK
    (replace hb0 := true_and True); refine Go1.mk ?_; repeat' ((first | (with_reducible refine Go1.go ?_) | ((with_reducible first | refine brv_mk ?_ ?_ | refine gsplitD ?_ ?_ | refine gsplitG ?_ ?_) <;> intro h <;> (try simp only [Bool.not_eq_true', Bool.not_eq_false'] at h) <;> replace hb0 := h) | (refine And.intro ?ob ?_; case ob => ((try simp only [sxO, ne_eq, maxLen] at *); omega)) | fail) <;> (try simp (config := { maxSteps := 1000000 }) only [hb0, ha1.n.one, ha1.d.one, hb1.n.one, hb1.d.one, ↓hold_pre, awayP, runOps, regK, step1, newK, genR, appR, obl, buildR, Value.cells, closeK, keepH, outV, retK, ret1, retC, RetV, Option.getD, runD, stepD, afterK, undef, simprocAttr, sxB, ↓sxD, sxE, sxTab]))
    exact hK.err _ m1
  | true =>
  (replace hb0 := true_and True); refine Go1.mk ?_; repeat' ((first | (with_reducible refine Go1.go ?_) | ((with_reducible first | refine brv_mk ?_ ?_ | refine gsplitD ?_ ?_ | refine gsplitG ?_ ?_) <;> intro h <;> (try simp only [Bool.not_eq_true', Bool.not_eq_false'] at h) <;> replace hb0 := h) | ((first | (with_reducible refine isCall (f := 16) ?_; refine callA_nil (by kernel_rfl) ?_) | (with_reducible refine isCall0 (f := 16) ?_; refine callA0_nil (by kernel_rfl) ?_)); refine (fcheck_ok hb1.n hb1.d hb1.on hb1.od hb1.bn hb1.bd (fun M2 m2 => Stop.mk ?_))) | (refine And.intro ?ob ?_; case ob => ((try simp only [sxO, ne_eq, maxLen] at *); omega)) | fail) <;> (try simp (config := { maxSteps := 1000000 }) only [hb0, ha1.n.one, ha1.d.one, hb1.n.one, hb1.d.one, ↓hold_pre, awayP, runOps, regK, step1, newK, genR, appR, obl, buildR, Value.cells, closeK, keepH, outV, retK, ret1, retC, RetV, Option.getD, runD, stepD, afterK, undef, simprocAttr, sxB, ↓sxD, sxE, sxTab]))
  have m2 : Mem.le M1 M2 := m2
  have ha2 := ha1.le m2
  have hb2 := hb1.le m2
  have hm := m1.trans m2
  refine Stop.go ?_
  cases hc2 : chkF k1 k2 with
  | false =>
    rw [hc1, hc2] at hK
    (replace hb0 := true_and True); refine Go1.mk ?_; repeat' ((first | (with_reducible refine Go1.go ?_) | ((with_reducible first | refine brv_mk ?_ ?_ | refine gsplitD ?_ ?_ | refine gsplitG ?_ ?_) <;> intro h <;> (try simp only [Bool.not_eq_true', Bool.not_eq_false'] at h) <;> replace hb0 := h) | (refine And.intro ?ob ?_; case ob => ((try simp only [sxO, ne_eq, maxLen] at *); omega)) | fail) <;> (try simp (config := { maxSteps := 1000000 }) only [hb0, ha2.n.one, ha2.d.one, hb2.n.one, hb2.d.one, ↓hold_pre, awayP, runOps, regK, step1, newK, genR, appR, obl, buildR, Value.cells, closeK, keepH, outV, retK, ret1, retC, RetV, Option.getD, runD, stepD, afterK, undef, simprocAttr, sxB, ↓sxD, sxE, sxTab]))
    exact hK.err _ hm
  | true =>
  rw [hc1, hc2, Bool.and_self, if_pos rfl] at hK
  obtain ⟨n1, d1, hn1, hd1, e1, e2, q1, q2, q3⟩ := ha2.num hc1
  obtain ⟨n2, d2, hn2, hd2, e3, e4, r1, r2, r3⟩ := hb2.num hc2
  rw [e1, e2, e3, e4] at hK
  have t1 := mul_len n1 d2
  have t2 := mul_len n2 d1
  have t3 := mul_len d1 d2
  have t4 := mul_len n1 n2
  have t0 : 0 < d1 * d2 := Nat.mul_pos q3 r3
  (replace hb0 := true_and True); refine Go1.mk ?_; repeat' ((first | (with_reducible refine Go1.go ?_) | ((with_reducible first | refine brv_mk ?_ ?_ | refine gsplitD ?_ ?_ | refine gsplitG ?_ ?_) <;> intro h <;> (try simp only [Bool.not_eq_true', Bool.not_eq_false'] at h) <;> replace hb0 := h) | ((first | (with_reducible refine isCall (f := 61) ?_; refine callA_nil (by kernel_rfl) ?_) | (with_reducible refine isCall0 (f := 61) ?_; refine callA0_nil (by kernel_rfl) ?_)); refine (cross_ok hn1 hd1 hn2 hd2 (by omega) (by omega) (by omega) (by omega) (fun wx wy M3 m3 hx hy fx fy => Stop.mk ?_))) | ((with_reducible refine isDraw [some 28, some 29, some 30, some 31, some 32, some 33, some 34, some 35, some 36, some 37, some 38, none, some 5] (by decide) ?_); refine draw_rule [(0, []), (1, []), (3, []), (4, []), (5, [4]), (6, [4]), (2, [4, 6]), (7, []), (8, []), (9, []), (10, []), (11, []), (12, [])] [[], [], [0, 1], [], [3], [], [5], [0, 1, 2, 3, 4, 5, 6], [0, 1, 2, 3, 4, 5, 6, 7], [0, 1, 2, 3, 4, 5, 6, 7, 8], [0, 1, 2, 3, 4, 5, 6, 7, 8], [0, 1, 2, 3, 4, 5, 6, 7, 8, 9, 10], [0, 1, 2, 3, 4, 5, 6, 7, 8, 9, 10, 11]] [28, 29, 30, 31, 32, 33, 34, 37, 38] [] (by kernel_rfl) (by kernel_rfl) (by kernel_rfl) (by kernel_rfl) (by exact trivial) ?_) | (refine And.intro ?ob ?_; case ob => ((try simp only [sxO, ne_eq, maxLen] at *); omega)) | fail) <;> (try simp (config := { maxSteps := 1000000 }) only [hb0, hn1.one, hd1.one, hn2.one, hd2.one, ↓hold_pre, awayP, runOps, regK, step1, newK, genR, appR, obl, buildR, Value.cells, closeK, keepH, outV, retK, ret1, retC, RetV, Option.getD, runD, stepD, afterK, undef, simprocAttr, sxB, ↓sxD, sxE, sxTab]))
  have m3 : Mem.le M2 M3 := m3
  have hn1 := hn1.le m3
  have hd1 := hd1.le m3
  have hn2 := hn2.le m3
  have hd2 := hd2.le m3
  have fx := fx.le hm
  have fy := fy.le hm
  have hm := hm.trans m3
  refine Stop.go ?_
  by_cases hlt : n1 * d2 < n2 * d1
  · have z1 : decide (cmpN (n1 * d2) (n2 * d1) < 0) = true := by rw [cmpN_lt hlt]; decide
    rw [if_pos hlt] at hK
    (replace hb0 := true_and True); refine Go1.mk ?_; repeat' ((first | (with_reducible refine Go1.go ?_) | ((with_reducible first | refine brv_mk ?_ ?_ | refine gsplitD ?_ ?_ | refine gsplitG ?_ ?_) <;> intro h <;> (try simp only [Bool.not_eq_true', Bool.not_eq_false'] at h) <;> replace hb0 := h) | ((first | (with_reducible refine isCall (f := 60) ?_; refine callA_nil (by kernel_rfl) ?_) | (with_reducible refine isCall0 (f := 60) ?_; refine callA0_nil (by kernel_rfl) ?_)); refine (compare_ok wx wy _ _ hx hy (by omega) (by omega) ?_)) | (refine And.intro ?ob ?_; case ob => ((try simp only [sxO, ne_eq, maxLen] at *); omega)) | fail) <;> (try simp (config := { maxSteps := 1000000 }) only [hb0, hn1.one, hd1.one, hn2.one, hd2.one, hx.one, hy.one, z1, ↓hold_pre, awayP, runOps, regK, step1, newK, genR, appR, obl, buildR, Value.cells, closeK, keepH, outV, retK, ret1, retC, RetV, Option.getD, runD, stepD, afterK, undef, simprocAttr, sxB, ↓sxD, sxE, sxTab]))
    exact hK.err _ hm
  have z1 : decide (cmpN (n1 * d2) (n2 * d1) < 0) = false := by
    rw [decide_eq_false_iff_not]; unfold cmpN; rw [if_neg hlt]; split <;> omega
  rw [if_neg hlt] at hK
  have t5 := len_mono (show n1 * d2 - n2 * d1 ≤ n1 * d2 by omega)
  (replace hb0 := true_and True); refine Go1.mk ?_; repeat' ((first | (with_reducible refine Go1.go ?_) | ((with_reducible first | refine brv_mk ?_ ?_ | refine gsplitD ?_ ?_ | refine gsplitG ?_ ?_) <;> intro h <;> (try simp only [Bool.not_eq_true', Bool.not_eq_false'] at h) <;> replace hb0 := h) | ((first | (with_reducible refine isCall (f := 60) ?_; refine callA_nil (by kernel_rfl) ?_) | (with_reducible refine isCall0 (f := 60) ?_; refine callA0_nil (by kernel_rfl) ?_)); refine (compare_ok wx wy _ _ hx hy (by omega) (by omega) ?_)) | ((first | (with_reducible refine isCall (f := 67) ?_; refine callA_nil (by kernel_rfl) ?_) | (with_reducible refine isCall0 (f := 67) ?_; refine callA0_nil (by kernel_rfl) ?_)); refine (sub_ok wx wy _ _ hx hy (by omega) (by omega) (fun ws M4 m4 hs fs => Stop.mk ?_))) | ((with_reducible refine isDraw [some 28, some 29, some 30, some 31, some 32, some 33, some 34, some 35, some 36, some 37, some 38, none, some 5] (by decide) ?_); refine draw_rule [(0, []), (1, []), (3, []), (4, []), (5, [4]), (6, [4]), (2, [4, 6]), (7, []), (8, []), (9, []), (10, []), (11, []), (12, [])] [[], [], [0, 1], [], [3], [], [5], [0, 1, 2, 3, 4, 5, 6], [0, 1, 2, 3, 4, 5, 6, 7], [0, 1, 2, 3, 4, 5, 6, 7, 8], [0, 1, 2, 3, 4, 5, 6, 7, 8], [0, 1, 2, 3, 4, 5, 6, 7, 8, 9, 10], [0, 1, 2, 3, 4, 5, 6, 7, 8, 9, 10, 11]] [28, 29, 30, 31, 32, 33, 34, 37, 38] [] (by kernel_rfl) (by kernel_rfl) (by kernel_rfl) (by kernel_rfl) (by exact trivial) ?_) | (refine And.intro ?ob ?_; case ob => ((try simp only [sxO, ne_eq, maxLen] at *); omega)) | fail) <;> (try simp (config := { maxSteps := 1000000 }) only [hb0, hn1.one, hd1.one, hn2.one, hd2.one, hx.one, hy.one, z1, ↓hold_pre, awayP, runOps, regK, step1, newK, genR, appR, obl, buildR, Value.cells, closeK, keepH, outV, retK, ret1, retC, RetV, Option.getD, runD, stepD, afterK, undef, simprocAttr, sxB, ↓sxD, sxE, sxTab]))
  have m4 : Mem.le M3 M4 := m4
  have hn1 := hn1.le m4
  have hd1 := hd1.le m4
  have hn2 := hn2.le m4
  have hd2 := hd2.le m4
  have hx := hx.le m4
  have hy := hy.le m4
  have fs := fs.le hm
  have hm := hm.trans m4
  refine Stop.go ?_
  (replace hb0 := true_and True); refine Go1.mk ?_; repeat' ((first | (with_reducible refine Go1.go ?_) | ((with_reducible first | refine brv_mk ?_ ?_ | refine gsplitD ?_ ?_ | refine gsplitG ?_ ?_) <;> intro h <;> (try simp only [Bool.not_eq_true', Bool.not_eq_false'] at h) <;> replace hb0 := h) | ((first | (with_reducible refine isCall (f := 64) ?_; refine callA_nil (by kernel_rfl) ?_) | (with_reducible refine isCall0 (f := 64) ?_; refine callA0_nil (by kernel_rfl) ?_)); refine (mul_ok u2 v2 d1 d2 hd1 hd2 (by omega) (by omega) (fun wp M5 m5 hp fp => Stop.mk ?_))) | ((with_reducible refine isDraw [some 28, some 29, some 30, some 31, some 32, some 33, some 34, some 35, some 36, some 37, some 38, none, some 5] (by decide) ?_); refine draw_rule [(0, []), (1, []), (3, []), (4, []), (5, [4]), (6, [4]), (2, [4, 6]), (7, []), (8, []), (9, []), (10, []), (11, []), (12, [])] [[], [], [0, 1], [], [3], [], [5], [0, 1, 2, 3, 4, 5, 6], [0, 1, 2, 3, 4, 5, 6, 7], [0, 1, 2, 3, 4, 5, 6, 7, 8], [0, 1, 2, 3, 4, 5, 6, 7, 8], [0, 1, 2, 3, 4, 5, 6, 7, 8, 9, 10], [0, 1, 2, 3, 4, 5, 6, 7, 8, 9, 10, 11]] [28, 29, 30, 31, 32, 33, 34, 37, 38] [] (by kernel_rfl) (by kernel_rfl) (by kernel_rfl) (by kernel_rfl) (by exact trivial) ?_) | (refine And.intro ?ob ?_; case ob => ((try simp only [sxO, ne_eq, maxLen] at *); omega)) | fail) <;> (try simp (config := { maxSteps := 1000000 }) only [hb0, hn1.one, hd1.one, hn2.one, hd2.one, hx.one, hy.one, hs.one, ↓hold_pre, awayP, runOps, regK, step1, newK, genR, appR, obl, buildR, Value.cells, closeK, keepH, outV, retK, ret1, retC, RetV, Option.getD, runD, stepD, afterK, undef, simprocAttr, sxB, ↓sxD, sxE, sxTab]))
  have m5 : Mem.le M4 M5 := m5
  have hn1 := hn1.le m5
  have hd1 := hd1.le m5
  have hn2 := hn2.le m5
  have hd2 := hd2.le m5
  have hx := hx.le m5
  have hy := hy.le m5
  have hs := hs.le m5
  have fp := fp.le hm
  have hm := hm.trans m5
  refine Stop.go ?_
  (replace hb0 := true_and True); refine Go1.mk ?_; repeat' ((first | (with_reducible refine Go1.go ?_) | ((with_reducible first | refine brv_mk ?_ ?_ | refine gsplitD ?_ ?_ | refine gsplitG ?_ ?_) <;> intro h <;> (try simp only [Bool.not_eq_true', Bool.not_eq_false'] at h) <;> replace hb0 := h) | ((first | (with_reducible refine isCall (f := 51) ?_; refine callA_nil (by kernel_rfl) ?_) | (with_reducible refine isCall0 (f := 51) ?_; refine callA0_nil (by kernel_rfl) ?_)); refine (exact_ok ws wp _ _ hs hp (by omega) (by omega) t0 (fun w1 w2 M6 m6 h1 h2 f1 f2 => Stop.mk ?_))) | ((with_reducible refine isDraw [some 28, some 29, some 30, some 31, some 32, some 33, some 34, some 35, some 36, some 37, some 38, none, some 5] (by decide) ?_); refine draw_rule [(0, []), (1, []), (3, []), (4, []), (5, [4]), (6, [4]), (2, [4, 6]), (7, []), (8, []), (9, []), (10, []), (11, []), (12, [])] [[], [], [0, 1], [], [3], [], [5], [0, 1, 2, 3, 4, 5, 6], [0, 1, 2, 3, 4, 5, 6, 7], [0, 1, 2, 3, 4, 5, 6, 7, 8], [0, 1, 2, 3, 4, 5, 6, 7, 8], [0, 1, 2, 3, 4, 5, 6, 7, 8, 9, 10], [0, 1, 2, 3, 4, 5, 6, 7, 8, 9, 10, 11]] [28, 29, 30, 31, 32, 33, 34, 37, 38] [] (by kernel_rfl) (by kernel_rfl) (by kernel_rfl) (by kernel_rfl) (by exact trivial) ?_) | (refine And.intro ?ob ?_; case ob => ((try simp only [sxO, ne_eq, maxLen] at *); omega)) | fail) <;> (try simp (config := { maxSteps := 1000000 }) only [hb0, hn1.one, hd1.one, hn2.one, hd2.one, hx.one, hy.one, hs.one, hp.one, ↓hold_pre, awayP, runOps, regK, step1, newK, genR, appR, obl, buildR, Value.cells, closeK, keepH, outV, retK, ret1, retC, RetV, Option.getD, runD, stepD, afterK, undef, simprocAttr, sxB, ↓sxD, sxE, sxTab]))
  have m6 : Mem.le M5 M6 := m6
  have hn1 := hn1.le m6
  have hd1 := hd1.le m6
  have hn2 := hn2.le m6
  have hd2 := hd2.le m6
  have hx := hx.le m6
  have hy := hy.le m6
  have hs := hs.le m6
  have hp := hp.le m6
  have f1 := f1.le hm
  have f2 := f2.le hm
  have hm := hm.trans m6
  refine Stop.go ?_
  (replace hb0 := true_and True); refine Go1.mk ?_; repeat' ((first | (with_reducible refine Go1.go ?_) | ((with_reducible first | refine brv_mk ?_ ?_ | refine gsplitD ?_ ?_ | refine gsplitG ?_ ?_) <;> intro h <;> (try simp only [Bool.not_eq_true', Bool.not_eq_false'] at h) <;> replace hb0 := h) | (refine And.intro ?ob ?_; case ob => ((try simp only [sxO, ne_eq, maxLen] at *); omega)) | fail) <;> (try simp (config := { maxSteps := 1000000 }) only [hb0, hn1.one, hd1.one, hn2.one, hd2.one, hx.one, hy.one, hs.one, hp.one, h1.one, h2.one, ↓hold_pre, awayP, runOps, regK, step1, newK, genR, appR, obl, buildR, Value.cells, closeK, keepH, outV, retK, ret1, retC, RetV, Option.getD, runD, stepD, afterK, undef, simprocAttr, sxB, ↓sxD, sxE, sxTab]))
  exact hK _ _ _ hm h1 h2 f1 f2
end
end Go.Proofs.YtamghpnjdohnjaaDoor.Sx
