import Derived.Test.YtamghpnjdohnjaaDoorFrC
/- Fractions: their order, sums, differences, products and quotients, as the reference computes them. -/
namespace Go.Proofs.YtamghpnjdohnjaaDoor.Sx
open Go Go.RowKit
set_option linter.unusedVariables false
set_option linter.unusedSimpArgs false
set_option maxRecDepth 100000
set_option maxHeartbeats 8000000
attribute [local congr] fin_congr finG_congr stepG_congr step1_congr runOps_congr brv_congr obl_congr condK_congr LoopK_congr seqK_congr CutK_congr vc_congr DrawK_congr regK_congr CallK_congr AskK_congr newK_congr retC_congr ret1_congr retK_congr outV_congr closeK_congr genR_congr appR_congr finD_congr finGD_congr stepGD_congr stepD_congr CallK0_congr runD_congr okR_congr CallS_congr vcX_congr
attribute [local congr] Stop_congr
section
variable {M : Mem} {K : AV → Hp → Mem → Prop} {u1 u2 v1 v2 : Value} {l1 l2 k1 k2 : List Nat}
theorem rfcmp_ok (ha : IsF M u1 u2 l1 l2) (hb : IsF M v1 v2 k1 k2) (hK : ∀ M', Mem.le M M' → K (.ext (.int .i64 (cmpF l1 l2 k1 k2))) [] M') : CallS Tryd.prog 21 [.ext (.agg #[u1, u2]), .ext (.agg #[v1, v2])] [] M [] K := by
  refine inlS (cs := []) Tryd.mixed Tryd.func21 rfl (by kernel_rfl) 0 rfl rfl ?_
  simp only [Tryd.f21]
  unfold cmpF at hK
  (replace hb0 := true_and True); refine Go1.mk ?_; repeat' ((first | (with_reducible refine Go1.go ?_) | ((with_reducible first | refine brv_mk ?_ ?_ | refine gsplitD ?_ ?_ | refine gsplitG ?_ ?_) <;> intro h <;> (try simp only [Bool.not_eq_true', Bool.not_eq_false'] at h) <;> replace hb0 := h) | ((first | (with_reducible refine isCall (f := 17) ?_; refine callA_nil (by kernel_rfl) ?_) | (with_reducible refine isCall0 (f := 17) ?_; refine callA0_nil (by kernel_rfl) ?_)); refine (rfcheck_ok ha.n ha.d ha.on ha.od ha.bn ha.bd (fun M1 m1 => Stop.mk ?_))) | (refine And.intro ?ob ?_; case ob => ((try simp only [sxO, ne_eq, maxLen] at *); omega)) | fail) <;> (try simp (config := { maxSteps := 1000000 }) only [hb0, ha.n.one, ha.d.one, hb.n.one, hb.d.one, ↓hold_pre, awayP, runOps, regK, step1, newK, genR, appR, obl, buildR, Value.cells, closeK, keepH, outV, retK, ret1, retC, RetV, Option.getD, runD, stepD, afterK, undef, simprocAttr, sxB, ↓sxD, sxE, sxTab]))
  have m1 : Mem.le M M1 := m1
  have ha1 := ha.le m1
  have hb1 := hb.le m1
  refine Stop.go ?_
  cases hc1 : chkF l1 l2 with
  | false =>
    rw [hc1] at hK
    (replace hb0 := true_and True); refine Go1.mk ?_; repeat' ((first | (with_reducible refine Go1.go ?_) | ((with_reducible first | refine brv_mk ?_ ?_ | refine gsplitD ?_ ?_ | refine gsplitG ?_ ?_) <;> intro h <;> (try simp only [Bool.not_eq_true', Bool.not_eq_false'] at h) <;> replace hb0 := h) | (refine And.intro ?ob ?_; case ob => ((try simp only [sxO, ne_eq, maxLen] at *); omega)) | fail) <;> (try simp (config := { maxSteps := 1000000 }) only [hb0, ha1.n.one, ha1.d.one, hb1.n.one, hb1.d.one, ↓hold_pre, awayP, runOps, regK, step1, newK, genR, appR, obl, buildR, Value.cells, closeK, keepH, outV, retK, ret1, retC, RetV, Option.getD, runD, stepD, afterK, undef, simprocAttr, sxB, ↓sxD, sxE, sxTab]))
    exact hK _ m1
  | true =>
  (replace hb0 := true_and True); refine Go1.mk ?_; repeat' ((first | (with_reducible refine Go1.go ?_) | ((with_reducible first | refine brv_mk ?_ ?_ | refine gsplitD ?_ ?_ | refine gsplitG ?_ ?_) <;> intro h <;> (try simp only [Bool.not_eq_true', Bool.not_eq_false'] at h) <;> replace hb0 := h) | ((first | (with_reducible refine isCall (f := 17) ?_; refine callA_nil (by kernel_rfl) ?_) | (with_reducible refine isCall0 (f := 17) ?_; refine callA0_nil (by kernel_rfl) ?_)); refine (rfcheck_ok hb1.n hb1.d hb1.on hb1.od hb1.bn hb1.bd (fun M2 m2 => Stop.mk ?_))) | (refine And.intro ?ob ?_; case ob => ((try simp only [sxO, ne_eq, maxLen] at *); omega)) | fail) <;> (try simp (config := { maxSteps := 1000000 }) only [hb0, ha1.n.one, ha1.d.one, hb1.n.one, hb1.d.one, ↓hold_pre, awayP, runOps, regK, step1, newK, genR, appR, obl, buildR, Value.cells, closeK, keepH, outV, retK, ret1, retC, RetV, Option.getD, runD, stepD, afterK, undef, simprocAttr, sxB, ↓sxD, sxE, sxTab]))
  have m2 : Mem.le M1 M2 := m2
  have ha2 := ha1.le m2
  have hb2 := hb1.le m2
  have hm := m1.trans m2
  refine Stop.go ?_
  cases hc2 : chkF k1 k2 with
  | false =>
    rw [hc1, hc2] at hK
    (replace hb0 := true_and True); refine Go1.mk ?_; repeat' ((first | (with_reducible refine Go1.go ?_) | ((with_reducible first | refine brv_mk ?_ ?_ | refine gsplitD ?_ ?_ | refine gsplitG ?_ ?_) <;> intro h <;> (try simp only [Bool.not_eq_true', Bool.not_eq_false'] at h) <;> replace hb0 := h) | (refine And.intro ?ob ?_; case ob => ((try simp only [sxO, ne_eq, maxLen] at *); omega)) | fail) <;> (try simp (config := { maxSteps := 1000000 }) only [hb0, ha2.n.one, ha2.d.one, hb2.n.one, hb2.d.one, ↓hold_pre, awayP, runOps, regK, step1, newK, genR, appR, obl, buildR, Value.cells, closeK, keepH, outV, retK, ret1, retC, RetV, Option.getD, runD, stepD, afterK, undef, simprocAttr, sxB, ↓sxD, sxE, sxTab]))
    exact hK _ hm
  | true =>
  rw [hc1, hc2, Bool.and_self, if_pos rfl] at hK
  obtain ⟨n1, d1, hn1, hd1, e1, e2, q1, q2, q3⟩ := ha2.num hc1
  obtain ⟨n2, d2, hn2, hd2, e3, e4, r1, r2, r3⟩ := hb2.num hc2
  rw [e1, e2, e3, e4] at hK
  have t1 := mul_len n1 d2
  have t2 := mul_len n2 d1
  have t3 := mul_len d1 d2
  have t4 := mul_len n1 n2
  have t0 : 0 < d1 * d2 := Nat.mul_pos q3 r3
  (replace hb0 := true_and True); refine Go1.mk ?_; repeat' ((first | (with_reducible refine Go1.go ?_) | ((with_reducible first | refine brv_mk ?_ ?_ | refine gsplitD ?_ ?_ | refine gsplitG ?_ ?_) <;> intro h <;> (try simp only [Bool.not_eq_true', Bool.not_eq_false'] at h) <;> replace hb0 := h) | ((first | (with_reducible refine isCall (f := 62) ?_; refine callA_nil (by kernel_rfl) ?_) | (with_reducible refine isCall0 (f := 62) ?_; refine callA0_nil (by kernel_rfl) ?_)); refine (rforder_ok hn1 hd1 hn2 hd2 (by omega) (by omega) (by omega) (by omega) (fun M3 m3 => Stop.mk ?_))) | (refine And.intro ?ob ?_; case ob => ((try simp only [sxO, ne_eq, maxLen] at *); omega)) | fail) <;> (try simp (config := { maxSteps := 1000000 }) only [hb0, hn1.one, hd1.one, hn2.one, hd2.one, ↓hold_pre, awayP, runOps, regK, step1, newK, genR, appR, obl, buildR, Value.cells, closeK, keepH, outV, retK, ret1, retC, RetV, Option.getD, runD, stepD, afterK, undef, simprocAttr, sxB, ↓sxD, sxE, sxTab]))
  refine Stop.go ?_
  (replace hb0 := true_and True); refine Go1.mk ?_; repeat' ((first | (with_reducible refine Go1.go ?_) | ((with_reducible first | refine brv_mk ?_ ?_ | refine gsplitD ?_ ?_ | refine gsplitG ?_ ?_) <;> intro h <;> (try simp only [Bool.not_eq_true', Bool.not_eq_false'] at h) <;> replace hb0 := h) | (refine And.intro ?ob ?_; case ob => ((try simp only [sxO, ne_eq, maxLen] at *); omega)) | fail) <;> (try simp (config := { maxSteps := 1000000 }) only [hb0, hn1.one, hd1.one, hn2.one, hd2.one, ↓hold_pre, awayP, runOps, regK, step1, newK, genR, appR, obl, buildR, Value.cells, closeK, keepH, outV, retK, ret1, retC, RetV, Option.getD, runD, stepD, afterK, undef, simprocAttr, sxB, ↓sxD, sxE, sxTab]))
  exact hK _ (hm.trans m3)
theorem rfadd_ok (ha : IsF M u1 u2 l1 l2) (hb : IsF M v1 v2 k1 k2) (hK : FracK M K (addF l1 l2 k1 k2)) : CallS Tryd.prog 23 [.ext (.agg #[u1, u2]), .ext (.agg #[v1, v2])] [] M [] K := by
  refine inlS (cs := []) Tryd.mixed Tryd.func23 rfl (by kernel_rfl) 0 rfl rfl ?_
  simp only [Tryd.f23]
  unfold addF at hK
  (replace hb0 := true_and True); refine Go1.mk ?_; repeat' ((first | (with_reducible refine Go1.go ?_) | ((with_reducible first | refine brv_mk ?_ ?_ | refine gsplitD ?_ ?_ | refine gsplitG ?_ ?_) <;> intro h <;> (try simp only [Bool.not_eq_true', Bool.not_eq_false'] at h) <;> replace hb0 := h) | ((first | (with_reducible refine isCall (f := 17) ?_; refine callA_nil (by kernel_rfl) ?_) | (with_reducible refine isCall0 (f := 17) ?_; refine callA0_nil (by kernel_rfl) ?_)); refine (rfcheck_ok ha.n ha.d ha.on ha.od ha.bn ha.bd (fun M1 m1 => Stop.mk ?_))) | (refine And.intro ?ob ?_; case ob => ((try simp only [sxO, ne_eq, maxLen] at *); omega)) | fail) <;> (try simp (config := { maxSteps := 1000000 }) only [hb0, ha.n.one, ha.d.one, hb.n.one, hb.d.one, ↓hold_pre, awayP, runOps, regK, step1, newK, genR, appR, obl, buildR, Value.cells, closeK, keepH, outV, retK, ret1, retC, RetV, Option.getD, runD, stepD, afterK, undef, simprocAttr, sxB, ↓sxD, sxE, sxTab]))
  have m1 : Mem.le M M1 := m1
  have ha1 := ha.le m1
  have hb1 := hb.le m1
  refine Stop.go ?_
  cases hc1 : chkF l1 l2 with
  | false =>
    rw [hc1] at hK
    (replace hb0 := true_and True); refine Go1.mk ?_; repeat' ((first | (with_reducible refine Go1.go ?_) | ((with_reducible first | refine brv_mk ?_ ?_ | refine gsplitD ?_ ?_ | refine gsplitG ?_ ?_) <;> intro h <;> (try simp only [Bool.not_eq_true', Bool.not_eq_false'] at h) <;> replace hb0 := h) | (refine And.intro ?ob ?_; case ob => ((try simp only [sxO, ne_eq, maxLen] at *); omega)) | fail) <;> (try simp (config := { maxSteps := 1000000 }) only [hb0, ha1.n.one, ha1.d.one, hb1.n.one, hb1.d.one, ↓hold_pre, awayP, runOps, regK, step1, newK, genR, appR, obl, buildR, Value.cells, closeK, keepH, outV, retK, ret1, retC, RetV, Option.getD, runD, stepD, afterK, undef, simprocAttr, sxB, ↓sxD, sxE, sxTab]))
    exact hK.err _ m1
  | true =>
  (replace hb0 := true_and True); refine Go1.mk ?_; repeat' ((first | (with_reducible refine Go1.go ?_) | ((with_reducible first | refine brv_mk ?_ ?_ | refine gsplitD ?_ ?_ | refine gsplitG ?_ ?_) <;> intro h <;> (try simp only [Bool.not_eq_true', Bool.not_eq_false'] at h) <;> replace hb0 := h) | ((first | (with_reducible refine isCall (f := 17) ?_; refine callA_nil (by kernel_rfl) ?_) | (with_reducible refine isCall0 (f := 17) ?_; refine callA0_nil (by kernel_rfl) ?_)); refine (rfcheck_ok hb1.n hb1.d hb1.on hb1.od hb1.bn hb1.bd (fun M2 m2 => Stop.mk ?_))) | (refine And.intro ?ob ?_; case ob => ((try simp only [sxO, ne_eq, maxLen] at *); omega)) | fail) <;> (try simp (config := { maxSteps := 1000000 }) only [hb0, ha1.n.one, ha1.d.one, hb1.n.one, hb1.d.one, ↓hold_pre, awayP, runOps, regK, step1, newK, genR, appR, obl, buildR, Value.cells, closeK, keepH, outV, retK, ret1, retC, RetV, Option.getD, runD, stepD, afterK, undef, simprocAttr, sxB, ↓sxD, sxE, sxTab]))
  have m2 : Mem.le M1 M2 := m2
  have ha2 := ha1.le m2
  have hb2 := hb1.le m2
  have hm := m1.trans m2
  refine Stop.go ?_
  cases hc2 : chkF k1 k2 with
  | false =>
    rw [hc1, hc2] at hK
    (replace hb0 := true_and True); refine Go1.mk ?_; repeat' ((first | (with_reducible refine Go1.go ?_) | ((with_reducible first | refine brv_mk ?_ ?_ | refine gsplitD ?_ ?_ | refine gsplitG ?_ ?_) <;> intro h <;> (try simp only [Bool.not_eq_true', Bool.not_eq_false'] at h) <;> replace hb0 := h) | (refine And.intro ?ob ?_; case ob => ((try simp only [sxO, ne_eq, maxLen] at *); omega)) | fail) <;> (try simp (config := { maxSteps := 1000000 }) only [hb0, ha2.n.one, ha2.d.one, hb2.n.one, hb2.d.one, ↓hold_pre, awayP, runOps, regK, step1, newK, genR, appR, obl, buildR, Value.cells, closeK, keepH, outV, retK, ret1, retC, RetV, Option.getD, runD, stepD, afterK, undef, simprocAttr, sxB, ↓sxD, sxE, sxTab]))
    exact hK.err _ hm
  | true =>
  rw [hc1, hc2, Bool.and_self, if_pos rfl] at hK
  obtain ⟨n1, d1, hn1, hd1, e1, e2, q1, q2, q3⟩ := ha2.num hc1
  obtain ⟨n2, d2, hn2, hd2, e3, e4, r1, r2, r3⟩ := hb2.num hc2
  rw [e1, e2, e3, e4] at hK
  have t1 := mul_len n1 d2
  have t2 := mul_len n2 d1
  have t3 := mul_len d1 d2
  have t4 := mul_len n1 n2
  have t0 : 0 < d1 * d2 := Nat.mul_pos q3 r3
  (replace hb0 := true_and True); refine Go1.mk ?_; repeat' ((first | (with_reducible refine Go1.go ?_) | ((with_reducible first | refine brv_mk ?_ ?_ | refine gsplitD ?_ ?_ | refine gsplitG ?_ ?_) <;> intro h <;> (try simp only [Bool.not_eq_true', Bool.not_eq_false'] at h) <;> replace hb0 := h) | ((first | (with_reducible refine isCall (f := 66) ?_; refine callA_nil (by kernel_rfl) ?_) | (with_reducible refine isCall0 (f := 66) ?_; refine callA0_nil (by kernel_rfl) ?_)); refine (rfplus_ok hn1 hd1 hn2 hd2 (by omega) (by omega) (by omega) (by omega) q3 r3 (fun w1 w2 M3 m3 h1 h2 f1 f2 => Stop.mk ?_))) | (refine And.intro ?ob ?_; case ob => ((try simp only [sxO, ne_eq, maxLen] at *); omega)) | fail) <;> (try simp (config := { maxSteps := 1000000 }) only [hb0, hn1.one, hd1.one, hn2.one, hd2.one, ↓hold_pre, awayP, runOps, regK, step1, newK, genR, appR, obl, buildR, Value.cells, closeK, keepH, outV, retK, ret1, retC, RetV, Option.getD, runD, stepD, afterK, undef, simprocAttr, sxB, ↓sxD, sxE, sxTab]))
  have m3 : Mem.le M2 M3 := m3
  have hn1 := hn1.le m3
  have hd1 := hd1.le m3
  have hn2 := hn2.le m3
  have hd2 := hd2.le m3
  have f1 := f1.le hm
  have f2 := f2.le hm
  have hm := hm.trans m3
  refine Stop.go ?_
  by_cases hl1 : (ofN ((n1 * d2 + n2 * d1) / Nat.gcd ((n1 * d2 + n2 * d1)) ((d1 * d2)))).length ≤ 128
  · by_cases hl2 : (ofN ((d1 * d2) / Nat.gcd ((n1 * d2 + n2 * d1)) ((d1 * d2)))).length ≤ 128
    · unfold exF at hK
      rw [if_pos ⟨hl1, hl2⟩] at hK
      (replace hb0 := true_and True); refine Go1.mk ?_; repeat' ((first | (with_reducible refine Go1.go ?_) | ((with_reducible first | refine brv_mk ?_ ?_ | refine gsplitD ?_ ?_ | refine gsplitG ?_ ?_) <;> intro h <;> (try simp only [Bool.not_eq_true', Bool.not_eq_false'] at h) <;> replace hb0 := h) | ((first | (with_reducible refine isCall (f := 65) ?_; refine callA_nil (by kernel_rfl) ?_) | (with_reducible refine isCall0 (f := 65) ?_; refine callA0_nil (by kernel_rfl) ?_)); refine (rflimited_ok h1 h2 (fun _ _ => ?_) (fun h => absurd h (fun h => h.elim (fun h => by omega) (fun h => by omega))))) | (refine And.intro ?ob ?_; case ob => ((try simp only [sxO, ne_eq, maxLen] at *); omega)) | fail) <;> (try simp (config := { maxSteps := 1000000 }) only [hb0, h1.one, h2.one, ↓hold_pre, awayP, runOps, regK, step1, newK, genR, appR, obl, buildR, Value.cells, closeK, keepH, outV, retK, ret1, retC, RetV, Option.getD, runD, stepD, afterK, undef, simprocAttr, sxB, ↓sxD, sxE, sxTab]))
      exact hK _ _ _ hm h1 h2 f1 f2
    · unfold exF at hK
      rw [if_neg (fun h => hl2 h.2)] at hK
      (replace hb0 := true_and True); refine Go1.mk ?_; repeat' ((first | (with_reducible refine Go1.go ?_) | ((with_reducible first | refine brv_mk ?_ ?_ | refine gsplitD ?_ ?_ | refine gsplitG ?_ ?_) <;> intro h <;> (try simp only [Bool.not_eq_true', Bool.not_eq_false'] at h) <;> replace hb0 := h) | ((first | (with_reducible refine isCall (f := 65) ?_; refine callA_nil (by kernel_rfl) ?_) | (with_reducible refine isCall0 (f := 65) ?_; refine callA0_nil (by kernel_rfl) ?_)); refine (rflimited_ok h1 h2 (fun _ h => absurd h hl2) (fun _ => ?_))) | (refine And.intro ?ob ?_; case ob => ((try simp only [sxO, ne_eq, maxLen] at *); omega)) | fail) <;> (try simp (config := { maxSteps := 1000000 }) only [hb0, h1.one, h2.one, ↓hold_pre, awayP, runOps, regK, step1, newK, genR, appR, obl, buildR, Value.cells, closeK, keepH, outV, retK, ret1, retC, RetV, Option.getD, runD, stepD, afterK, undef, simprocAttr, sxB, ↓sxD, sxE, sxTab]))
      exact hK.err _ hm
  · unfold exF at hK
    rw [if_neg (fun h => hl1 h.1)] at hK
    (replace hb0 := true_and True); refine Go1.mk ?_; repeat' ((first | (with_reducible refine Go1.go ?_) | ((with_reducible first | refine brv_mk ?_ ?_ | refine gsplitD ?_ ?_ | refine gsplitG ?_ ?_) <;> intro h <;> (try simp only [Bool.not_eq_true', Bool.not_eq_false'] at h) <;> replace hb0 := h) | ((first | (with_reducible refine isCall (f := 65) ?_; refine callA_nil (by kernel_rfl) ?_) | (with_reducible refine isCall0 (f := 65) ?_; refine callA0_nil (by kernel_rfl) ?_)); refine (rflimited_ok h1 h2 (fun h _ => absurd h hl1) (fun _ => ?_))) | (refine And.intro ?ob ?_; case ob => ((try simp only [sxO, ne_eq, maxLen] at *); omega)) | fail) <;> (try simp (config := { maxSteps := 1000000 }) only [hb0, h1.one, h2.one, ↓hold_pre, awayP, runOps, regK, step1, newK, genR, appR, obl, buildR, Value.cells, closeK, keepH, outV, retK, ret1, retC, RetV, Option.getD, runD, stepD, afterK, undef, simprocAttr, sxB, ↓sxD, sxE, sxTab]))
    exact hK.err _ hm
theorem rfmul_ok (ha : IsF M u1 u2 l1 l2) (hb : IsF M v1 v2 k1 k2) (hK : FracK M K (mulF l1 l2 k1 k2)) : CallS Tryd.prog 27 [.ext (.agg #[u1, u2]), .ext (.agg #[v1, v2])] [] M [] K := by
  refine inlS (cs := []) Tryd.mixed Tryd.func27 rfl (by kernel_rfl) 0 rfl rfl ?_
  simp only [Tryd.f27]
  unfold mulF at hK
  (replace hb0 := true_and True); refine Go1.mk ?_; repeat' ((first | (with_reducible refine Go1.go ?_) | ((with_reducible first | refine brv_mk ?_ ?_ | refine gsplitD ?_ ?_ | refine gsplitG ?_ ?_) <;> intro h <;> (try simp only [Bool.not_eq_true', Bool.not_eq_false'] at h) <;> replace hb0 := h) | ((first | (with_reducible refine isCall (f := 17) ?_; refine callA_nil (by kernel_rfl) ?_) | (with_reducible refine isCall0 (f := 17) ?_; refine callA0_nil (by kernel_rfl) ?_)); refine (rfcheck_ok ha.n ha.d ha.on ha.od ha.bn ha.bd (fun M1 m1 => Stop.mk ?_))) | (refine And.intro ?ob ?_; case ob => ((try simp only [sxO, ne_eq, maxLen] at *); omega)) | fail) <;> (try simp (config := { maxSteps := 1000000 }) only [hb0, ha.n.one, ha.d.one, hb.n.one, hb.d.one, ↓hold_pre, awayP, runOps, regK, step1, newK, genR, appR, obl, buildR, Value.cells, closeK, keepH, outV, retK, ret1, retC, RetV, Option.getD, runD, stepD, afterK, undef, simprocAttr, sxB, ↓sxD, sxE, sxTab]))
  have m1 : Mem.le M M1 := m1
  have ha1 := ha.le m1
  have hb1 := hb.le m1
  refine Stop.go ?_
  cases hc1 : chkF l1 l2 with
  | false =>
    rw [hc1] at hK
    (replace hb0 := true_and True); refine Go1.mk ?_; repeat' ((first | (with_reducible refine Go1.go ?_) | ((with_reducible first | refine brv_mk ?_ ?_ | refine gsplitD ?_ ?_ | refine gsplitG ?_ ?_) <;> intro h <;> (try simp only [Bool.not_eq_true', Bool.not_eq_false'] at h) <;> replace hb0 := h) | (refine And.intro ?ob ?_; case ob => ((try simp only [sxO, ne_eq, maxLen] at *); omega)) | fail) <;> (try simp (config := { maxSteps := 1000000 }) only [hb0, ha1.n.one, ha1.d.one, hb1.n.one, hb1.d.one, ↓hold_pre, awayP, runOps, regK, step1, newK, genR, appR, obl, buildR, Value.cells, closeK, keepH, outV, retK, ret1, retC, RetV, Option.getD, runD, stepD, afterK, undef, simprocAttr, sxB, ↓sxD, sxE, sxTab]))
    exact hK.err _ m1
  | true =>
  (replace hb0 := true_and True); refine Go1.mk ?_; repeat' ((first | (with_reducible refine Go1.go ?_) | ((with_reducible first | refine brv_mk ?_ ?_ | refine gsplitD ?_ ?_ | refine gsplitG ?_ ?_) <;> intro h <;> (try simp only [Bool.not_eq_true', Bool.not_eq_false'] at h) <;> replace hb0 := h) | ((first | (with_reducible refine isCall (f := 17) ?_; refine callA_nil (by kernel_rfl) ?_) | (with_reducible refine isCall0 (f := 17) ?_; refine callA0_nil (by kernel_rfl) ?_)); refine (rfcheck_ok hb1.n hb1.d hb1.on hb1.od hb1.bn hb1.bd (fun M2 m2 => Stop.mk ?_))) | (refine And.intro ?ob ?_; case ob => ((try simp only [sxO, ne_eq, maxLen] at *); omega)) | fail) <;> (try simp (config := { maxSteps := 1000000 }) only [hb0, ha1.n.one, ha1.d.one, hb1.n.one, hb1.d.one, ↓hold_pre, awayP, runOps, regK, step1, newK, genR, appR, obl, buildR, Value.cells, closeK, keepH, outV, retK, ret1, retC, RetV, Option.getD, runD, stepD, afterK, undef, simprocAttr, sxB, ↓sxD, sxE, sxTab]))
  have m2 : Mem.le M1 M2 := m2
  have ha2 := ha1.le m2
  have hb2 := hb1.le m2
  have hm := m1.trans m2
  refine Stop.go ?_
  cases hc2 : chkF k1 k2 with
  | false =>
    rw [hc1, hc2] at hK
    (replace hb0 := true_and True); refine Go1.mk ?_; repeat' ((first | (with_reducible refine Go1.go ?_) | ((with_reducible first | refine brv_mk ?_ ?_ | refine gsplitD ?_ ?_ | refine gsplitG ?_ ?_) <;> intro h <;> (try simp only [Bool.not_eq_true', Bool.not_eq_false'] at h) <;> replace hb0 := h) | (refine And.intro ?ob ?_; case ob => ((try simp only [sxO, ne_eq, maxLen] at *); omega)) | fail) <;> (try simp (config := { maxSteps := 1000000 }) only [hb0, ha2.n.one, ha2.d.one, hb2.n.one, hb2.d.one, ↓hold_pre, awayP, runOps, regK, step1, newK, genR, appR, obl, buildR, Value.cells, closeK, keepH, outV, retK, ret1, retC, RetV, Option.getD, runD, stepD, afterK, undef, simprocAttr, sxB, ↓sxD, sxE, sxTab]))
    exact hK.err _ hm
  | true =>
  rw [hc1, hc2, Bool.and_self, if_pos rfl] at hK
  obtain ⟨n1, d1, hn1, hd1, e1, e2, q1, q2, q3⟩ := ha2.num hc1
  obtain ⟨n2, d2, hn2, hd2, e3, e4, r1, r2, r3⟩ := hb2.num hc2
  rw [e1, e2, e3, e4] at hK
  have t1 := mul_len n1 d2
  have t2 := mul_len n2 d1
  have t3 := mul_len d1 d2
  have t4 := mul_len n1 n2
  have t0 : 0 < d1 * d2 := Nat.mul_pos q3 r3
  (replace hb0 := true_and True); refine Go1.mk ?_; repeat' ((first | (with_reducible refine Go1.go ?_) | ((with_reducible first | refine brv_mk ?_ ?_ | refine gsplitD ?_ ?_ | refine gsplitG ?_ ?_) <;> intro h <;> (try simp only [Bool.not_eq_true', Bool.not_eq_false'] at h) <;> replace hb0 := h) | ((first | (with_reducible refine isCall (f := 69) ?_; refine callA_nil (by kernel_rfl) ?_) | (with_reducible refine isCall0 (f := 69) ?_; refine callA0_nil (by kernel_rfl) ?_)); refine (times_ok u1 v1 n1 n2 hn1 hn2 (by omega) (by omega) (fun ws M3 m3 hs fs => Stop.mk ?_))) | ((with_reducible refine isDraw [some 15, some 16, some 17, some 18, some 19, some 20, some 21, some 22, some 23, some 24, some 25, some 26, some 27, some 28, none, some 5] (by decide) ?_); refine draw_rule [(0, []), (1, []), (2, [1]), (3, [1]), (5, [1, 3]), (6, [1, 3]), (7, [1, 3, 6]), (8, [1, 3, 6]), (4, [6, 8]), (9, []), (10, []), (11, []), (12, []), (13, []), (14, []), (15, [])] [[], [0], [], [2], [0, 1, 2, 3], [], [5], [], [7], [0, 1, 2, 3, 4, 5, 6, 7, 8], [0, 1, 2, 3, 4, 5, 6, 7, 8, 9], [0, 1, 2, 3, 4, 5, 6, 7, 8, 9, 10], [0, 1, 2, 3, 4, 5, 6, 7, 8, 9, 10, 11], [0, 1, 2, 3, 4, 5, 6, 7, 8, 9, 10, 11], [0, 1, 2, 3, 4, 5, 6, 7, 8, 9, 10, 11, 12, 13], [0, 1, 2, 3, 4, 5, 6, 7, 8, 9, 10, 11, 12, 13, 14]] [15, 16, 17, 18, 19, 20, 21, 22, 23, 27, 28] [] (by kernel_rfl) (by kernel_rfl) (by kernel_rfl) (by kernel_rfl) (by exact trivial) ?_) | (refine And.intro ?ob ?_; case ob => ((try simp only [sxO, ne_eq, maxLen] at *); omega)) | fail) <;> (try simp (config := { maxSteps := 1000000 }) only [hb0, hn1.one, hd1.one, hn2.one, hd2.one, ↓hold_pre, awayP, runOps, regK, step1, newK, genR, appR, obl, buildR, Value.cells, closeK, keepH, outV, retK, ret1, retC, RetV, Option.getD, runD, stepD, afterK, undef, simprocAttr, sxB, ↓sxD, sxE, sxTab]))
  have m3 : Mem.le M2 M3 := m3
  have hn1 := hn1.le m3
  have hd1 := hd1.le m3
  have hn2 := hn2.le m3
  have hd2 := hd2.le m3
  have fs := fs.le hm
  have hm := hm.trans m3
  refine Stop.go ?_
  (replace hb0 := true_and True); refine Go1.mk ?_; repeat' ((first | (with_reducible refine Go1.go ?_) | ((with_reducible first | refine brv_mk ?_ ?_ | refine gsplitD ?_ ?_ | refine gsplitG ?_ ?_) <;> intro h <;> (try simp only [Bool.not_eq_true', Bool.not_eq_false'] at h) <;> replace hb0 := h) | ((first | (with_reducible refine isCall (f := 69) ?_; refine callA_nil (by kernel_rfl) ?_) | (with_reducible refine isCall0 (f := 69) ?_; refine callA0_nil (by kernel_rfl) ?_)); refine (times_ok u2 v2 d1 d2 hd1 hd2 (by omega) (by omega) (fun wp M4 m4 hp fp => Stop.mk ?_))) | ((with_reducible refine isDraw [some 15, some 16, some 17, some 18, some 19, some 20, some 21, some 22, some 23, some 24, some 25, some 26, some 27, some 28, none, some 5] (by decide) ?_); refine draw_rule [(0, []), (1, []), (2, [1]), (3, [1]), (5, [1, 3]), (6, [1, 3]), (7, [1, 3, 6]), (8, [1, 3, 6]), (4, [6, 8]), (9, []), (10, []), (11, []), (12, []), (13, []), (14, []), (15, [])] [[], [0], [], [2], [0, 1, 2, 3], [], [5], [], [7], [0, 1, 2, 3, 4, 5, 6, 7, 8], [0, 1, 2, 3, 4, 5, 6, 7, 8, 9], [0, 1, 2, 3, 4, 5, 6, 7, 8, 9, 10], [0, 1, 2, 3, 4, 5, 6, 7, 8, 9, 10, 11], [0, 1, 2, 3, 4, 5, 6, 7, 8, 9, 10, 11], [0, 1, 2, 3, 4, 5, 6, 7, 8, 9, 10, 11, 12, 13], [0, 1, 2, 3, 4, 5, 6, 7, 8, 9, 10, 11, 12, 13, 14]] [15, 16, 17, 18, 19, 20, 21, 22, 23, 27, 28] [] (by kernel_rfl) (by kernel_rfl) (by kernel_rfl) (by kernel_rfl) (by exact trivial) ?_) | (refine And.intro ?ob ?_; case ob => ((try simp only [sxO, ne_eq, maxLen] at *); omega)) | fail) <;> (try simp (config := { maxSteps := 1000000 }) only [hb0, hn1.one, hd1.one, hn2.one, hd2.one, hs.one, ↓hold_pre, awayP, runOps, regK, step1, newK, genR, appR, obl, buildR, Value.cells, closeK, keepH, outV, retK, ret1, retC, RetV, Option.getD, runD, stepD, afterK, undef, simprocAttr, sxB, ↓sxD, sxE, sxTab]))
  have m4 : Mem.le M3 M4 := m4
  have hn1 := hn1.le m4
  have hd1 := hd1.le m4
  have hn2 := hn2.le m4
  have hd2 := hd2.le m4
  have hs := hs.le m4
  have fp := fp.le hm
  have hm := hm.trans m4
  refine Stop.go ?_
  (replace hb0 := true_and True); refine Go1.mk ?_; repeat' ((first | (with_reducible refine Go1.go ?_) | ((with_reducible first | refine brv_mk ?_ ?_ | refine gsplitD ?_ ?_ | refine gsplitG ?_ ?_) <;> intro h <;> (try simp only [Bool.not_eq_true', Bool.not_eq_false'] at h) <;> replace hb0 := h) | ((first | (with_reducible refine isCall (f := 53) ?_; refine callA_nil (by kernel_rfl) ?_) | (with_reducible refine isCall0 (f := 53) ?_; refine callA0_nil (by kernel_rfl) ?_)); refine (rlowest_ok ws wp _ _ hs hp (by omega) (by omega) t0 (fun w1 w2 M5 m5 h1 h2 f1 f2 => Stop.mk ?_))) | ((with_reducible refine isDraw [some 15, some 16, some 17, some 18, some 19, some 20, some 21, some 22, some 23, some 24, some 25, some 26, some 27, some 28, none, some 5] (by decide) ?_); refine draw_rule [(0, []), (1, []), (2, [1]), (3, [1]), (5, [1, 3]), (6, [1, 3]), (7, [1, 3, 6]), (8, [1, 3, 6]), (4, [6, 8]), (9, []), (10, []), (11, []), (12, []), (13, []), (14, []), (15, [])] [[], [0], [], [2], [0, 1, 2, 3], [], [5], [], [7], [0, 1, 2, 3, 4, 5, 6, 7, 8], [0, 1, 2, 3, 4, 5, 6, 7, 8, 9], [0, 1, 2, 3, 4, 5, 6, 7, 8, 9, 10], [0, 1, 2, 3, 4, 5, 6, 7, 8, 9, 10, 11], [0, 1, 2, 3, 4, 5, 6, 7, 8, 9, 10, 11], [0, 1, 2, 3, 4, 5, 6, 7, 8, 9, 10, 11, 12, 13], [0, 1, 2, 3, 4, 5, 6, 7, 8, 9, 10, 11, 12, 13, 14]] [15, 16, 17, 18, 19, 20, 21, 22, 23, 27, 28] [] (by kernel_rfl) (by kernel_rfl) (by kernel_rfl) (by kernel_rfl) (by exact trivial) ?_) | (refine And.intro ?ob ?_; case ob => ((try simp only [sxO, ne_eq, maxLen] at *); omega)) | fail) <;> (try simp (config := { maxSteps := 1000000 }) only [hb0, hn1.one, hd1.one, hn2.one, hd2.one, hs.one, hp.one, ↓hold_pre, awayP, runOps, regK, step1, newK, genR, appR, obl, buildR, Value.cells, closeK, keepH, outV, retK, ret1, retC, RetV, Option.getD, runD, stepD, afterK, undef, simprocAttr, sxB, ↓sxD, sxE, sxTab]))
  have m5 : Mem.le M4 M5 := m5
  have hn1 := hn1.le m5
  have hd1 := hd1.le m5
  have hn2 := hn2.le m5
  have hd2 := hd2.le m5
  have hs := hs.le m5
  have hp := hp.le m5
  have f1 := f1.le hm
  have f2 := f2.le hm
  have hm := hm.trans m5
  refine Stop.go ?_
  by_cases hl1 : (ofN ((n1 * n2) / Nat.gcd ((n1 * n2)) ((d1 * d2)))).length ≤ 128
  · by_cases hl2 : (ofN ((d1 * d2) / Nat.gcd ((n1 * n2)) ((d1 * d2)))).length ≤ 128
    · unfold exF at hK
      rw [if_pos ⟨hl1, hl2⟩] at hK
      (replace hb0 := true_and True); refine Go1.mk ?_; repeat' ((first | (with_reducible refine Go1.go ?_) | ((with_reducible first | refine brv_mk ?_ ?_ | refine gsplitD ?_ ?_ | refine gsplitG ?_ ?_) <;> intro h <;> (try simp only [Bool.not_eq_true', Bool.not_eq_false'] at h) <;> replace hb0 := h) | ((first | (with_reducible refine isCall (f := 65) ?_; refine callA_nil (by kernel_rfl) ?_) | (with_reducible refine isCall0 (f := 65) ?_; refine callA0_nil (by kernel_rfl) ?_)); refine (rflimited_ok h1 h2 (fun _ _ => ?_) (fun h => absurd h (fun h => h.elim (fun h => by omega) (fun h => by omega))))) | (refine And.intro ?ob ?_; case ob => ((try simp only [sxO, ne_eq, maxLen] at *); omega)) | fail) <;> (try simp (config := { maxSteps := 1000000 }) only [hb0, h1.one, h2.one, ↓hold_pre, awayP, runOps, regK, step1, newK, genR, appR, obl, buildR, Value.cells, closeK, keepH, outV, retK, ret1, retC, RetV, Option.getD, runD, stepD, afterK, undef, simprocAttr, sxB, ↓sxD, sxE, sxTab]))
      exact hK _ _ _ hm h1 h2 f1 f2
    · unfold exF at hK
      rw [if_neg (fun h => hl2 h.2)] at hK
      (replace hb0 := true_and True); refine Go1.mk ?_; repeat' ((first | (with_reducible refine Go1.go ?_) | ((with_reducible first | refine brv_mk ?_ ?_ | refine gsplitD ?_ ?_ | refine gsplitG ?_ ?_) <;> intro h <;> (try simp only [Bool.not_eq_true', Bool.not_eq_false'] at h) <;> replace hb0 := h) | ((first | (with_reducible refine isCall (f := 65) ?_; refine callA_nil (by kernel_rfl) ?_) | (with_reducible refine isCall0 (f := 65) ?_; refine callA0_nil (by kernel_rfl) ?_)); refine (rflimited_ok h1 h2 (fun _ h => absurd h hl2) (fun _ => ?_))) | (refine And.intro ?ob ?_; case ob => ((try simp only [sxO, ne_eq, maxLen] at *); omega)) | fail) <;> (try simp (config := { maxSteps := 1000000 }) only [hb0, h1.one, h2.one, ↓hold_pre, awayP, runOps, regK, step1, newK, genR, appR, obl, buildR, Value.cells, closeK, keepH, outV, retK, ret1, retC, RetV, Option.getD, runD, stepD, afterK, undef, simprocAttr, sxB, ↓sxD, sxE, sxTab]))
      exact hK.err _ hm
  · unfold exF at hK
    rw [if_neg (fun h => hl1 h.1)] at hK
    (replace hb0 := true_and True); refine Go1.mk ?_; repeat' ((first | (with_reducible refine Go1.go ?_) | ((with_reducible first | refine brv_mk ?_ ?_ | refine gsplitD ?_ ?_ | refine gsplitG ?_ ?_) <;> intro h <;> (try simp only [Bool.not_eq_true', Bool.not_eq_false'] at h) <;> replace hb0 := h) | ((first | (with_reducible refine isCall (f := 65) ?_; refine callA_nil (by kernel_rfl) ?_) | (with_reducible refine isCall0 (f := 65) ?_; refine callA0_nil (by kernel_rfl) ?_)); refine (rflimited_ok h1 h2 (fun h _ => absurd h hl1) (fun _ => ?_))) | (refine And.intro ?ob ?_; case ob => ((try simp only [sxO, ne_eq, maxLen] at *); omega)) | fail) <;> (try simp (config := { maxSteps := 1000000 }) only [hb0, h1.one, h2.one, ↓hold_pre, awayP, runOps, regK, step1, newK, genR, appR, obl, buildR, Value.cells, closeK, keepH, outV, retK, ret1, retC, RetV, Option.getD, runD, stepD, afterK, undef, simprocAttr, sxB, ↓sxD, sxE, sxTab]))
    exact hK.err _ hm
theorem rfdiv_ok (ha : IsF M u1 u2 l1 l2) (hb : IsF M v1 v2 k1 k2) (hK : FracK M K (divF l1 l2 k1 k2)) : CallS Tryd.prog 29 [.ext (.agg #[u1, u2]), .ext (.agg #[v1, v2])] [] M [] K := by
  refine inlS (cs := []) Tryd.mixed Tryd.func29 rfl (by kernel_rfl) 0 rfl rfl ?_
  simp only [Tryd.f29]
  unfold divF at hK
  (replace hb0 := true_and True); refine Go1.mk ?_; repeat' ((first | (with_reducible refine Go1.go ?_) | ((with_reducible first | refine brv_mk ?_ ?_ | refine gsplitD ?_ ?_ | refine gsplitG ?_ ?_) <;> intro h <;> (try simp only [Bool.not_eq_true', Bool.not_eq_false'] at h) <;> replace hb0 := h) | ((first | (with_reducible refine isCall (f := 17) ?_; refine callA_nil (by kernel_rfl) ?_) | (with_reducible refine isCall0 (f := 17) ?_; refine callA0_nil (by kernel_rfl) ?_)); refine (rfcheck_ok ha.n ha.d ha.on ha.od ha.bn ha.bd (fun M1 m1 => Stop.mk ?_))) | (refine And.intro ?ob ?_; case ob => ((try simp only [sxO, ne_eq, maxLen] at *); omega)) | fail) <;> (try simp (config := { maxSteps := 1000000 }) only [hb0, ha.n.one, ha.d.one, hb.n.one, hb.d.one, ↓hold_pre, awayP, runOps, regK, step1, newK, genR, appR, obl, buildR, Value.cells, closeK, keepH, outV, retK, ret1, retC, RetV, Option.getD, runD, stepD, afterK, undef, simprocAttr, sxB, ↓sxD, sxE, sxTab]))
  have m1 : Mem.le M M1 := m1
  have ha1 := ha.le m1
  have hb1 := hb.le m1
  refine Stop.go ?_
  cases hc1 : chkF l1 l2 with
  | false =>
    rw [hc1] at hK
    (replace hb0 := true_and True); refine Go1.mk ?_; repeat' ((first | (with_reducible refine Go1.go ?_) | ((with_reducible first | refine brv_mk ?_ ?_ | refine gsplitD ?_ ?_ | refine gsplitG ?_ ?_) <;> intro h <;> (try simp only [Bool.not_eq_true', Bool.not_eq_false'] at h) <;> replace hb0 := h) | (refine And.intro ?ob ?_; case ob => ((try simp only [sxO, ne_eq, maxLen] at *); omega)) | fail) <;> (try simp (config := { maxSteps := 1000000 }) only [hb0, ha1.n.one, ha1.d.one, hb1.n.one, hb1.d.one, ↓hold_pre, awayP, runOps, regK, step1, newK, genR, appR, obl, buildR, Value.cells, closeK, keepH, outV, retK, ret1, retC, RetV, Option.getD, runD, stepD, afterK, undef, simprocAttr, sxB, ↓sxD, sxE, sxTab]))
    exact hK.err _ m1
  | true =>
  (replace hb0 := true_and True); refine Go1.mk ?_; repeat' ((first | (with_reducible refine Go1.go ?_) | ((with_reducible first | refine brv_mk ?_ ?_ | refine gsplitD ?_ ?_ | refine gsplitG ?_ ?_) <;> intro h <;> (try simp only [Bool.not_eq_true', Bool.not_eq_false'] at h) <;> replace hb0 := h) | ((first | (with_reducible refine isCall (f := 17) ?_; refine callA_nil (by kernel_rfl) ?_) | (with_reducible refine isCall0 (f := 17) ?_; refine callA0_nil (by kernel_rfl) ?_)); refine (rfcheck_ok hb1.n hb1.d hb1.on hb1.od hb1.bn hb1.bd (fun M2 m2 => Stop.mk ?_))) | (refine And.intro ?ob ?_; case ob => ((try simp only [sxO, ne_eq, maxLen] at *); omega)) | fail) <;> (try simp (config := { maxSteps := 1000000 }) only [hb0, ha1.n.one, ha1.d.one, hb1.n.one, hb1.d.one, ↓hold_pre, awayP, runOps, regK, step1, newK, genR, appR, obl, buildR, Value.cells, closeK, keepH, outV, retK, ret1, retC, RetV, Option.getD, runD, stepD, afterK, undef, simprocAttr, sxB, ↓sxD, sxE, sxTab]))
  have m2 : Mem.le M1 M2 := m2
  have ha2 := ha1.le m2
  have hb2 := hb1.le m2
  have hm := m1.trans m2
  refine Stop.go ?_
  cases hc2 : chkF k1 k2 with
  | false =>
    rw [hc1, hc2] at hK
    (replace hb0 := true_and True); refine Go1.mk ?_; repeat' ((first | (with_reducible refine Go1.go ?_) | ((with_reducible first | refine brv_mk ?_ ?_ | refine gsplitD ?_ ?_ | refine gsplitG ?_ ?_) <;> intro h <;> (try simp only [Bool.not_eq_true', Bool.not_eq_false'] at h) <;> replace hb0 := h) | (refine And.intro ?ob ?_; case ob => ((try simp only [sxO, ne_eq, maxLen] at *); omega)) | fail) <;> (try simp (config := { maxSteps := 1000000 }) only [hb0, ha2.n.one, ha2.d.one, hb2.n.one, hb2.d.one, ↓hold_pre, awayP, runOps, regK, step1, newK, genR, appR, obl, buildR, Value.cells, closeK, keepH, outV, retK, ret1, retC, RetV, Option.getD, runD, stepD, afterK, undef, simprocAttr, sxB, ↓sxD, sxE, sxTab]))
    exact hK.err _ hm
  | true =>
  rw [hc1, hc2, Bool.and_self, if_pos rfl] at hK
  obtain ⟨n1, d1, hn1, hd1, e1, e2, q1, q2, q3⟩ := ha2.num hc1
  obtain ⟨n2, d2, hn2, hd2, e3, e4, r1, r2, r3⟩ := hb2.num hc2
  rw [e1, e2, e3, e4] at hK
  have t1 := mul_len n1 d2
  have t2 := mul_len n2 d1
  have t3 := mul_len d1 d2
  have t4 := mul_len n1 n2
  have t0 : 0 < d1 * d2 := Nat.mul_pos q3 r3
  by_cases hz : n2 = 0
  · have z1 : decide (((ofN n2).length : Int) = 0) = true := by rw [hz, ofN_zero]; rfl
    rw [if_pos hz] at hK
    (replace hb0 := true_and True); refine Go1.mk ?_; repeat' ((first | (with_reducible refine Go1.go ?_) | ((with_reducible first | refine brv_mk ?_ ?_ | refine gsplitD ?_ ?_ | refine gsplitG ?_ ?_) <;> intro h <;> (try simp only [Bool.not_eq_true', Bool.not_eq_false'] at h) <;> replace hb0 := h) | (refine And.intro ?ob ?_; case ob => ((try simp only [sxO, ne_eq, maxLen] at *); omega)) | fail) <;> (try simp (config := { maxSteps := 1000000 }) only [hb0, hn1.one, hd1.one, hn2.one, hn2.len, hn2.sl, hd2.one, z1, ↓hold_pre, awayP, runOps, regK, step1, newK, genR, appR, obl, buildR, Value.cells, closeK, keepH, outV, retK, ret1, retC, RetV, Option.getD, runD, stepD, afterK, undef, simprocAttr, sxB, ↓sxD, sxE, sxTab]))
    exact hK.err _ hm
  rw [if_neg hz, Nat.mul_comm n2 d1] at hK
  have z1 : decide (((ofN n2).length : Int) = 0) = false := by
    rw [decide_eq_false_iff_not]
    intro h
    exact hz (ofN_nil.1 (List.length_eq_zero_iff.1 (by omega)))
  have z0 : 0 < d1 * n2 := Nat.mul_pos q3 (by omega)
  rw [Nat.mul_comm n2 d1] at t2
  (replace hb0 := true_and True); refine Go1.mk ?_; repeat' ((first | (with_reducible refine Go1.go ?_) | ((with_reducible first | refine brv_mk ?_ ?_ | refine gsplitD ?_ ?_ | refine gsplitG ?_ ?_) <;> intro h <;> (try simp only [Bool.not_eq_true', Bool.not_eq_false'] at h) <;> replace hb0 := h) | ((first | (with_reducible refine isCall (f := 69) ?_; refine callA_nil (by kernel_rfl) ?_) | (with_reducible refine isCall0 (f := 69) ?_; refine callA0_nil (by kernel_rfl) ?_)); refine (times_ok u1 v2 n1 d2 hn1 hd2 (by omega) (by omega) (fun ws M3 m3 hs fs => Stop.mk ?_))) | ((with_reducible refine isDraw [some 20, some 21, some 22, some 23, some 24, some 25, some 26, some 27, some 28, some 29, some 30, some 31, some 32, some 33, none, some 5] (by decide) ?_); refine draw_rule [(0, []), (1, []), (2, [1]), (3, [1]), (5, [1, 3]), (6, [1, 3]), (7, [1, 3, 6]), (8, [1, 3, 6]), (4, [6, 8]), (9, []), (10, []), (11, []), (12, []), (13, []), (14, []), (15, [])] [[], [0], [], [2], [0, 1, 2, 3], [], [5], [], [7], [0, 1, 2, 3, 4, 5, 6, 7, 8], [0, 1, 2, 3, 4, 5, 6, 7, 8, 9], [0, 1, 2, 3, 4, 5, 6, 7, 8, 9, 10], [0, 1, 2, 3, 4, 5, 6, 7, 8, 9, 10, 11], [0, 1, 2, 3, 4, 5, 6, 7, 8, 9, 10, 11], [0, 1, 2, 3, 4, 5, 6, 7, 8, 9, 10, 11, 12, 13], [0, 1, 2, 3, 4, 5, 6, 7, 8, 9, 10, 11, 12, 13, 14]] [20, 21, 22, 23, 24, 25, 26, 27, 28, 32, 33] [] (by kernel_rfl) (by kernel_rfl) (by kernel_rfl) (by kernel_rfl) (by exact trivial) ?_) | (refine And.intro ?ob ?_; case ob => ((try simp only [sxO, ne_eq, maxLen] at *); omega)) | fail) <;> (try simp (config := { maxSteps := 1000000 }) only [hb0, hn1.one, hd1.one, hn2.one, hd2.one, hn2.len, hn2.sl, z1, ↓hold_pre, awayP, runOps, regK, step1, newK, genR, appR, obl, buildR, Value.cells, closeK, keepH, outV, retK, ret1, retC, RetV, Option.getD, runD, stepD, afterK, undef, simprocAttr, sxB, ↓sxD, sxE, sxTab]))
  have m3 : Mem.le M2 M3 := m3
  have hn1 := hn1.le m3
  have hd1 := hd1.le m3
  have hn2 := hn2.le m3
  have hd2 := hd2.le m3
  have fs := fs.le hm
  have hm := hm.trans m3
  refine Stop.go ?_
  (replace hb0 := true_and True); refine Go1.mk ?_; repeat' ((first | (with_reducible refine Go1.go ?_) | ((with_reducible first | refine brv_mk ?_ ?_ | refine gsplitD ?_ ?_ | refine gsplitG ?_ ?_) <;> intro h <;> (try simp only [Bool.not_eq_true', Bool.not_eq_false'] at h) <;> replace hb0 := h) | ((first | (with_reducible refine isCall (f := 69) ?_; refine callA_nil (by kernel_rfl) ?_) | (with_reducible refine isCall0 (f := 69) ?_; refine callA0_nil (by kernel_rfl) ?_)); refine (times_ok u2 v1 d1 n2 hd1 hn2 (by omega) (by omega) (fun wp M4 m4 hp fp => Stop.mk ?_))) | ((with_reducible refine isDraw [some 20, some 21, some 22, some 23, some 24, some 25, some 26, some 27, some 28, some 29, some 30, some 31, some 32, some 33, none, some 5] (by decide) ?_); refine draw_rule [(0, []), (1, []), (2, [1]), (3, [1]), (5, [1, 3]), (6, [1, 3]), (7, [1, 3, 6]), (8, [1, 3, 6]), (4, [6, 8]), (9, []), (10, []), (11, []), (12, []), (13, []), (14, []), (15, [])] [[], [0], [], [2], [0, 1, 2, 3], [], [5], [], [7], [0, 1, 2, 3, 4, 5, 6, 7, 8], [0, 1, 2, 3, 4, 5, 6, 7, 8, 9], [0, 1, 2, 3, 4, 5, 6, 7, 8, 9, 10], [0, 1, 2, 3, 4, 5, 6, 7, 8, 9, 10, 11], [0, 1, 2, 3, 4, 5, 6, 7, 8, 9, 10, 11], [0, 1, 2, 3, 4, 5, 6, 7, 8, 9, 10, 11, 12, 13], [0, 1, 2, 3, 4, 5, 6, 7, 8, 9, 10, 11, 12, 13, 14]] [20, 21, 22, 23, 24, 25, 26, 27, 28, 32, 33] [] (by kernel_rfl) (by kernel_rfl) (by kernel_rfl) (by kernel_rfl) (by exact trivial) ?_) | (refine And.intro ?ob ?_; case ob => ((try simp only [sxO, ne_eq, maxLen] at *); omega)) | fail) <;> (try simp (config := { maxSteps := 1000000 }) only [hb0, hn1.one, hd1.one, hn2.one, hd2.one, hs.one, ↓hold_pre, awayP, runOps, regK, step1, newK, genR, appR, obl, buildR, Value.cells, closeK, keepH, outV, retK, ret1, retC, RetV, Option.getD, runD, stepD, afterK, undef, simprocAttr, sxB, ↓sxD, sxE, sxTab]))
  have m4 : Mem.le M3 M4 := m4
  have hn1 := hn1.le m4
  have hd1 := hd1.le m4
  have hn2 := hn2.le m4
  have hd2 := hd2.le m4
  have hs := hs.le m4
  have fp := fp.le hm
  have hm := hm.trans m4
  refine Stop.go ?_
  (replace hb0 := true_and True); refine Go1.mk ?_; repeat' ((first | (with_reducible refine Go1.go ?_) | ((with_reducible first | refine brv_mk ?_ ?_ | refine gsplitD ?_ ?_ | refine gsplitG ?_ ?_) <;> intro h <;> (try simp only [Bool.not_eq_true', Bool.not_eq_false'] at h) <;> replace hb0 := h) | ((first | (with_reducible refine isCall (f := 53) ?_; refine callA_nil (by kernel_rfl) ?_) | (with_reducible refine isCall0 (f := 53) ?_; refine callA0_nil (by kernel_rfl) ?_)); refine (rlowest_ok ws wp _ _ hs hp (by omega) (by omega) z0 (fun w1 w2 M5 m5 h1 h2 f1 f2 => Stop.mk ?_))) | ((with_reducible refine isDraw [some 20, some 21, some 22, some 23, some 24, some 25, some 26, some 27, some 28, some 29, some 30, some 31, some 32, some 33, none, some 5] (by decide) ?_); refine draw_rule [(0, []), (1, []), (2, [1]), (3, [1]), (5, [1, 3]), (6, [1, 3]), (7, [1, 3, 6]), (8, [1, 3, 6]), (4, [6, 8]), (9, []), (10, []), (11, []), (12, []), (13, []), (14, []), (15, [])] [[], [0], [], [2], [0, 1, 2, 3], [], [5], [], [7], [0, 1, 2, 3, 4, 5, 6, 7, 8], [0, 1, 2, 3, 4, 5, 6, 7, 8, 9], [0, 1, 2, 3, 4, 5, 6, 7, 8, 9, 10], [0, 1, 2, 3, 4, 5, 6, 7, 8, 9, 10, 11], [0, 1, 2, 3, 4, 5, 6, 7, 8, 9, 10, 11], [0, 1, 2, 3, 4, 5, 6, 7, 8, 9, 10, 11, 12, 13], [0, 1, 2, 3, 4, 5, 6, 7, 8, 9, 10, 11, 12, 13, 14]] [20, 21, 22, 23, 24, 25, 26, 27, 28, 32, 33] [] (by kernel_rfl) (by kernel_rfl) (by kernel_rfl) (by kernel_rfl) (by exact trivial) ?_) | (refine And.intro ?ob ?_; case ob => ((try simp only [sxO, ne_eq, maxLen] at *); omega)) | fail) <;> (try simp (config := { maxSteps := 1000000 }) only [hb0, hn1.one, hd1.one, hn2.one, hd2.one, hs.one, hp.one, ↓hold_pre, awayP, runOps, regK, step1, newK, genR, appR, obl, buildR, Value.cells, closeK, keepH, outV, retK, ret1, retC, RetV, Option.getD, runD, stepD, afterK, undef, simprocAttr, sxB, ↓sxD, sxE, sxTab]))
  have m5 : Mem.le M4 M5 := m5
  have hn1 := hn1.le m5
  have hd1 := hd1.le m5
  have hn2 := hn2.le m5
  have hd2 := hd2.le m5
  have hs := hs.le m5
  have hp := hp.le m5
  have f1 := f1.le hm
  have f2 := f2.le hm
  have hm := hm.trans m5
  refine Stop.go ?_
  by_cases hl1 : (ofN ((n1 * d2) / Nat.gcd ((n1 * d2)) ((d1 * n2)))).length ≤ 128
  · by_cases hl2 : (ofN ((d1 * n2) / Nat.gcd ((n1 * d2)) ((d1 * n2)))).length ≤ 128
    · unfold exF at hK
      rw [if_pos ⟨hl1, hl2⟩] at hK
      (replace hb0 := true_and True); refine Go1.mk ?_; repeat' ((first | (with_reducible refine Go1.go ?_) | ((with_reducible first | refine brv_mk ?_ ?_ | refine gsplitD ?_ ?_ | refine gsplitG ?_ ?_) <;> intro h <;> (try simp only [Bool.not_eq_true', Bool.not_eq_false'] at h) <;> replace hb0 := h) | ((first | (with_reducible refine isCall (f := 65) ?_; refine callA_nil (by kernel_rfl) ?_) | (with_reducible refine isCall0 (f := 65) ?_; refine callA0_nil (by kernel_rfl) ?_)); refine (rflimited_ok h1 h2 (fun _ _ => ?_) (fun h => absurd h (fun h => h.elim (fun h => by omega) (fun h => by omega))))) | (refine And.intro ?ob ?_; case ob => ((try simp only [sxO, ne_eq, maxLen] at *); omega)) | fail) <;> (try simp (config := { maxSteps := 1000000 }) only [hb0, h1.one, h2.one, ↓hold_pre, awayP, runOps, regK, step1, newK, genR, appR, obl, buildR, Value.cells, closeK, keepH, outV, retK, ret1, retC, RetV, Option.getD, runD, stepD, afterK, undef, simprocAttr, sxB, ↓sxD, sxE, sxTab]))
      exact hK _ _ _ hm h1 h2 f1 f2
    · unfold exF at hK
      rw [if_neg (fun h => hl2 h.2)] at hK
      (replace hb0 := true_and True); refine Go1.mk ?_; repeat' ((first | (with_reducible refine Go1.go ?_) | ((with_reducible first | refine brv_mk ?_ ?_ | refine gsplitD ?_ ?_ | refine gsplitG ?_ ?_) <;> intro h <;> (try simp only [Bool.not_eq_true', Bool.not_eq_false'] at h) <;> replace hb0 := h) | ((first | (with_reducible refine isCall (f := 65) ?_; refine callA_nil (by kernel_rfl) ?_) | (with_reducible refine isCall0 (f := 65) ?_; refine callA0_nil (by kernel_rfl) ?_)); refine (rflimited_ok h1 h2 (fun _ h => absurd h hl2) (fun _ => ?_))) | (refine And.intro ?ob ?_; case ob => ((try simp only [sxO, ne_eq, maxLen] at *); omega)) | fail) <;> (try simp (config := { maxSteps := 1000000 }) only [hb0, h1.one, h2.one, ↓hold_pre, awayP, runOps, regK, step1, newK, genR, appR, obl, buildR, Value.cells, closeK, keepH, outV, retK, ret1, retC, RetV, Option.getD, runD, stepD, afterK, undef, simprocAttr, sxB, ↓sxD, sxE, sxTab]))
      exact hK.err _ hm
  · unfold exF at hK
    rw [if_neg (fun h => hl1 h.1)] at hK
    (replace hb0 := true_and True); refine Go1.mk ?_; repeat' ((first | (with_reducible refine Go1.go ?_) | ((with_reducible first | refine brv_mk ?_ ?_ | refine gsplitD ?_ ?_ | refine gsplitG ?_ ?_) <;> intro h <;> (try simp only [Bool.not_eq_true', Bool.not_eq_false'] at h) <;> replace hb0 := h) | ((first | (with_reducible refine isCall (f := 65) ?_; refine callA_nil (by kernel_rfl) ?_) | (with_reducible refine isCall0 (f := 65) ?_; refine callA0_nil (by kernel_rfl) ?_)); refine (rflimited_ok h1 h2 (fun h _ => absurd h hl1) (fun _ => ?_))) | (refine And.intro ?ob ?_; case ob => ((try simp only [sxO, ne_eq, maxLen] at *); omega)) | fail) <;> (try simp (config := { maxSteps := 1000000 }) only [hb0, h1.one, h2.one, ↓hold_pre, awayP, runOps, regK, step1, newK, genR, appR, obl, buildR, Value.cells, closeK, keepH, outV, retK, ret1, retC, RetV, Option.getD, runD, stepD, afterK, undef, simprocAttr, sxB, ↓sxD, sxE, sxTab]))
    exact hK.err _ hm
theorem rfsub_ok (ha : IsF M u1 u2 l1 l2) (hb : IsF M v1 v2 k1 k2) (hK : FracK M K (subF l1 l2 k1 k2)) : CallS Tryd.prog 25 [.ext (.agg #[u1, u2]), .ext (.agg #[v1, v2])] [] M [] K := by
  refine inlS (cs := []) Tryd.mixed Tryd.func25 rfl (by kernel_rfl) 0 rfl rfl ?_
  simp only [Tryd.f25]
  unfold subF at hK
  (replace hb0 := true_and True); refine Go1.mk ?_; repeat' ((first | (with_reducible refine Go1.go ?_) | ((with_reducible first | refine brv_mk ?_ ?_ | refine gsplitD ?_ ?_ | refine gsplitG ?_ ?_) <;> intro h <;> (try simp only [Bool.not_eq_true', Bool.not_eq_false'] at h) <;> replace hb0 := h) | ((first | (with_reducible refine isCall (f := 17) ?_; refine callA_nil (by kernel_rfl) ?_) | (with_reducible refine isCall0 (f := 17) ?_; refine callA0_nil (by kernel_rfl) ?_)); refine (rfcheck_ok ha.n ha.d ha.on ha.od ha.bn ha.bd (fun M1 m1 => Stop.mk ?_))) | (refine And.intro ?ob ?_; case ob => ((try simp only [sxO, ne_eq, maxLen] at *); omega)) | fail) <;> (try simp (config := { maxSteps := 1000000 }) only [hb0, ha.n.one, ha.d.one, hb.n.one, hb.d.one, ↓hold_pre, awayP, runOps, regK, step1, newK, genR, appR, obl, buildR, Value.cells, closeK, keepH, outV, retK, ret1, retC, RetV, Option.getD, runD, stepD, afterK, undef, simprocAttr, sxB, ↓sxD, sxE, sxTab]))
  have m1 : Mem.le M M1 := m1
  have ha1 := ha.le m1
  have hb1 := hb.le m1
  refine Stop.go ?_
  cases hc1 : chkF l1 l2 with
  | false =>
    rw [hc1] at hK
    (replace hb0 := true_and True); refine Go1.mk ?_; repeat' ((first | (with_reducible refine Go1.go ?_) | ((with_reducible first | refine brv_mk ?_ ?_ | refine gsplitD ?_ ?_ | refine gsplitG ?_ ?_) <;> intro h <;> (try simp only [Bool.not_eq_true', Bool.not_eq_false'] at h) <;> replace hb0 := h) | (refine And.intro ?ob ?_; case ob => ((try simp only [sxO, ne_eq, maxLen] at *); omega)) | fail) <;> (try simp (config := { maxSteps := 1000000 }) only [hb0, ha1.n.one, ha1.d.one, hb1.n.one, hb1.d.one, ↓hold_pre, awayP, runOps, regK, step1, newK, genR, appR, obl, buildR, Value.cells, closeK, keepH, outV, retK, ret1, retC, RetV, Option.getD, runD, stepD, afterK, undef, simprocAttr, sxB, ↓sxD, sxE, sxTab]))
    exact hK.err _ m1
  | true =>
  (replace hb0 := true_and True); refine Go1.mk ?_; repeat' ((first | (with_reducible refine Go1.go ?_) | ((with_reducible first | refine brv_mk ?_ ?_ | refine gsplitD ?_ ?_ | refine gsplitG ?_ ?_) <;> intro h <;> (try simp only [Bool.not_eq_true', Bool.not_eq_false'] at h) <;> replace hb0 := h) | ((first | (with_reducible refine isCall (f := 17) ?_; refine callA_nil (by kernel_rfl) ?_) | (with_reducible refine isCall0 (f := 17) ?_; refine callA0_nil (by kernel_rfl) ?_)); refine (rfcheck_ok hb1.n hb1.d hb1.on hb1.od hb1.bn hb1.bd (fun M2 m2 => Stop.mk ?_))) | (refine And.intro ?ob ?_; case ob => ((try simp only [sxO, ne_eq, maxLen] at *); omega)) | fail) <;> (try simp (config := { maxSteps := 1000000 }) only [hb0, ha1.n.one, ha1.d.one, hb1.n.one, hb1.d.one, ↓hold_pre, awayP, runOps, regK, step1, newK, genR, appR, obl, buildR, Value.cells, closeK, keepH, outV, retK, ret1, retC, RetV, Option.getD, runD, stepD, afterK, undef, simprocAttr, sxB, ↓sxD, sxE, sxTab]))
  have m2 : Mem.le M1 M2 := m2
  have ha2 := ha1.le m2
  have hb2 := hb1.le m2
  have hm := m1.trans m2
  refine Stop.go ?_
  cases hc2 : chkF k1 k2 with
  | false =>
    rw [hc1, hc2] at hK
    (replace hb0 := true_and True); refine Go1.mk ?_; repeat' ((first | (with_reducible refine Go1.go ?_) | ((with_reducible first | refine brv_mk ?_ ?_ | refine gsplitD ?_ ?_ | refine gsplitG ?_ ?_) <;> intro h <;> (try simp only [Bool.not_eq_true', Bool.not_eq_false'] at h) <;> replace hb0 := h) | (refine And.intro ?ob ?_; case ob => ((try simp only [sxO, ne_eq, maxLen] at *); omega)) | fail) <;> (try simp (config := { maxSteps := 1000000 }) only [hb0, ha2.n.one, ha2.d.one, hb2.n.one, hb2.d.one, ↓hold_pre, awayP, runOps, regK, step1, newK, genR, appR, obl, buildR, Value.cells, closeK, keepH, outV, retK, ret1, retC, RetV, Option.getD, runD, stepD, afterK, undef, simprocAttr, sxB, ↓sxD, sxE, sxTab]))
    exact hK.err _ hm
  | true =>
  rw [hc1, hc2, Bool.and_self, if_pos rfl] at hK
  obtain ⟨n1, d1, hn1, hd1, e1, e2, q1, q2, q3⟩ := ha2.num hc1
  obtain ⟨n2, d2, hn2, hd2, e3, e4, r1, r2, r3⟩ := hb2.num hc2
  rw [e1, e2, e3, e4] at hK
  have t1 := mul_len n1 d2
  have t2 := mul_len n2 d1
  have t3 := mul_len d1 d2
  have t4 := mul_len n1 n2
  have t0 : 0 < d1 * d2 := Nat.mul_pos q3 r3
  by_cases hlt : n1 * d2 < n2 * d1
  · have z1 : decide (cmpN (n1 * d2) (n2 * d1) < 0) = true := by rw [cmpN_lt hlt]; decide
    rw [if_pos hlt] at hK
    (replace hb0 := true_and True); refine Go1.mk ?_; repeat' ((first | (with_reducible refine Go1.go ?_) | ((with_reducible first | refine brv_mk ?_ ?_ | refine gsplitD ?_ ?_ | refine gsplitG ?_ ?_) <;> intro h <;> (try simp only [Bool.not_eq_true', Bool.not_eq_false'] at h) <;> replace hb0 := h) | ((first | (with_reducible refine isCall (f := 62) ?_; refine callA_nil (by kernel_rfl) ?_) | (with_reducible refine isCall0 (f := 62) ?_; refine callA0_nil (by kernel_rfl) ?_)); refine (rforder_ok hn1 hd1 hn2 hd2 (by omega) (by omega) (by omega) (by omega) (fun M3 m3 => Stop.mk ?_))) | (refine And.intro ?ob ?_; case ob => ((try simp only [sxO, ne_eq, maxLen] at *); omega)) | fail) <;> (try simp (config := { maxSteps := 1000000 }) only [hb0, hn1.one, hd1.one, hn2.one, hd2.one, z1, ↓hold_pre, awayP, runOps, regK, step1, newK, genR, appR, obl, buildR, Value.cells, closeK, keepH, outV, retK, ret1, retC, RetV, Option.getD, runD, stepD, afterK, undef, simprocAttr, sxB, ↓sxD, sxE, sxTab]))
    refine Stop.go ?_
    (replace hb0 := true_and True); refine Go1.mk ?_; repeat' ((first | (with_reducible refine Go1.go ?_) | ((with_reducible first | refine brv_mk ?_ ?_ | refine gsplitD ?_ ?_ | refine gsplitG ?_ ?_) <;> intro h <;> (try simp only [Bool.not_eq_true', Bool.not_eq_false'] at h) <;> replace hb0 := h) | (refine And.intro ?ob ?_; case ob => ((try simp only [sxO, ne_eq, maxLen] at *); omega)) | fail) <;> (try simp (config := { maxSteps := 1000000 }) only [hb0, hn1.one, hd1.one, hn2.one, hd2.one, z1, ↓hold_pre, awayP, runOps, regK, step1, newK, genR, appR, obl, buildR, Value.cells, closeK, keepH, outV, retK, ret1, retC, RetV, Option.getD, runD, stepD, afterK, undef, simprocAttr, sxB, ↓sxD, sxE, sxTab]))
    exact hK.err _ (hm.trans m3)
  have z1 : decide (cmpN (n1 * d2) (n2 * d1) < 0) = false := by
    rw [decide_eq_false_iff_not]; unfold cmpN; rw [if_neg hlt]; split <;> omega
  rw [if_neg hlt] at hK
  have t5 := len_mono (show n1 * d2 - n2 * d1 ≤ n1 * d2 by omega)
  (replace hb0 := true_and True); refine Go1.mk ?_; repeat' ((first | (with_reducible refine Go1.go ?_) | ((with_reducible first | refine brv_mk ?_ ?_ | refine gsplitD ?_ ?_ | refine gsplitG ?_ ?_) <;> intro h <;> (try simp only [Bool.not_eq_true', Bool.not_eq_false'] at h) <;> replace hb0 := h) | ((first | (with_reducible refine isCall (f := 62) ?_; refine callA_nil (by kernel_rfl) ?_) | (with_reducible refine isCall0 (f := 62) ?_; refine callA0_nil (by kernel_rfl) ?_)); refine (rforder_ok hn1 hd1 hn2 hd2 (by omega) (by omega) (by omega) (by omega) (fun M3 m3 => Stop.mk ?_))) | (refine And.intro ?ob ?_; case ob => ((try simp only [sxO, ne_eq, maxLen] at *); omega)) | fail) <;> (try simp (config := { maxSteps := 1000000 }) only [hb0, hn1.one, hd1.one, hn2.one, hd2.one, z1, ↓hold_pre, awayP, runOps, regK, step1, newK, genR, appR, obl, buildR, Value.cells, closeK, keepH, outV, retK, ret1, retC, RetV, Option.getD, runD, stepD, afterK, undef, simprocAttr, sxB, ↓sxD, sxE, sxTab]))
  have m3 : Mem.le M2 M3 := m3
  have hn1 := hn1.le m3
  have hd1 := hd1.le m3
  have hn2 := hn2.le m3
  have hd2 := hd2.le m3
  have hm := hm.trans m3
  refine Stop.go ?_
  (replace hb0 := true_and True); refine Go1.mk ?_; repeat' ((first | (with_reducible refine Go1.go ?_) | ((with_reducible first | refine brv_mk ?_ ?_ | refine gsplitD ?_ ?_ | refine gsplitG ?_ ?_) <;> intro h <;> (try simp only [Bool.not_eq_true', Bool.not_eq_false'] at h) <;> replace hb0 := h) | ((first | (with_reducible refine isCall (f := 69) ?_; refine callA_nil (by kernel_rfl) ?_) | (with_reducible refine isCall0 (f := 69) ?_; refine callA0_nil (by kernel_rfl) ?_)); refine (times_ok u1 v2 n1 d2 hn1 hd2 (by omega) (by omega) (fun wx M4 m4 hx fx => Stop.mk ?_))) | ((with_reducible refine isDraw [some 20, some 21, some 22, some 23, some 24, some 25, some 26, some 27, some 28, some 29, some 30, some 31, some 32, some 33, some 34, some 35, some 36, some 37, some 38, some 39, none, some 5] (by decide) ?_); refine draw_rule [(0, []), (1, []), (2, [1]), (3, [1]), (5, [1, 3]), (6, [1, 3]), (7, [1, 3, 6]), (8, [1, 3, 6]), (11, [1, 3, 6, 8]), (12, [1, 3, 6, 8]), (13, [1, 3, 6, 8, 12]), (14, [1, 3, 6, 8, 12]), (4, [6, 8, 12, 14]), (9, [12, 14]), (10, [12, 14]), (15, []), (16, []), (17, []), (18, []), (19, []), (20, []), (21, [])] [[], [0], [], [2], [0, 1, 2, 3], [], [5], [], [7], [0, 1, 2, 3, 4, 5, 6, 7, 8], [0, 1, 2, 3, 4, 5, 6, 7, 8, 9], [], [11], [], [13], [0, 1, 2, 3, 4, 5, 6, 7, 8, 9, 10, 11, 12, 13, 14], [0, 1, 2, 3, 4, 5, 6, 7, 8, 9, 10, 11, 12, 13, 14, 15], [0, 1, 2, 3, 4, 5, 6, 7, 8, 9, 10, 11, 12, 13, 14, 15, 16], [0, 1, 2, 3, 4, 5, 6, 7, 8, 9, 10, 11, 12, 13, 14, 15, 16, 17], [0, 1, 2, 3, 4, 5, 6, 7, 8, 9, 10, 11, 12, 13, 14, 15, 16, 17], [0, 1, 2, 3, 4, 5, 6, 7, 8, 9, 10, 11, 12, 13, 14, 15, 16, 17, 18, 19], [0, 1, 2, 3, 4, 5, 6, 7, 8, 9, 10, 11, 12, 13, 14, 15, 16, 17, 18, 19, 20]] [20, 21, 22, 23, 24, 25, 26, 27, 28, 29, 30, 31, 32, 33, 34, 38, 39] [] (by kernel_rfl) (by kernel_rfl) (by kernel_rfl) (by kernel_rfl) (by exact trivial) ?_) | (refine And.intro ?ob ?_; case ob => ((try simp only [sxO, ne_eq, maxLen] at *); omega)) | fail) <;> (try simp (config := { maxSteps := 1000000 }) only [hb0, hn1.one, hd1.one, hn2.one, hd2.one, z1, ↓hold_pre, awayP, runOps, regK, step1, newK, genR, appR, obl, buildR, Value.cells, closeK, keepH, outV, retK, ret1, retC, RetV, Option.getD, runD, stepD, afterK, undef, simprocAttr, sxB, ↓sxD, sxE, sxTab]))
  have m4 : Mem.le M3 M4 := m4
  have hn1 := hn1.le m4
  have hd1 := hd1.le m4
  have hn2 := hn2.le m4
  have hd2 := hd2.le m4
  have fx := fx.le hm
  have hm := hm.trans m4
  refine Stop.go ?_
  (replace hb0 := true_and True); refine Go1.mk ?_; repeat' ((first | (with_reducible refine Go1.go ?_) | ((with_reducible first | refine brv_mk ?_ ?_ | refine gsplitD ?_ ?_ | refine gsplitG ?_ ?_) <;> intro h <;> (try simp only [Bool.not_eq_true', Bool.not_eq_false'] at h) <;> replace hb0 := h) | ((first | (with_reducible refine isCall (f := 69) ?_; refine callA_nil (by kernel_rfl) ?_) | (with_reducible refine isCall0 (f := 69) ?_; refine callA0_nil (by kernel_rfl) ?_)); refine (times_ok v1 u2 n2 d1 hn2 hd1 (by omega) (by omega) (fun wy M5 m5 hy fy => Stop.mk ?_))) | ((with_reducible refine isDraw [some 20, some 21, some 22, some 23, some 24, some 25, some 26, some 27, some 28, some 29, some 30, some 31, some 32, some 33, some 34, some 35, some 36, some 37, some 38, some 39, none, some 5] (by decide) ?_); refine draw_rule [(0, []), (1, []), (2, [1]), (3, [1]), (5, [1, 3]), (6, [1, 3]), (7, [1, 3, 6]), (8, [1, 3, 6]), (11, [1, 3, 6, 8]), (12, [1, 3, 6, 8]), (13, [1, 3, 6, 8, 12]), (14, [1, 3, 6, 8, 12]), (4, [6, 8, 12, 14]), (9, [12, 14]), (10, [12, 14]), (15, []), (16, []), (17, []), (18, []), (19, []), (20, []), (21, [])] [[], [0], [], [2], [0, 1, 2, 3], [], [5], [], [7], [0, 1, 2, 3, 4, 5, 6, 7, 8], [0, 1, 2, 3, 4, 5, 6, 7, 8, 9], [], [11], [], [13], [0, 1, 2, 3, 4, 5, 6, 7, 8, 9, 10, 11, 12, 13, 14], [0, 1, 2, 3, 4, 5, 6, 7, 8, 9, 10, 11, 12, 13, 14, 15], [0, 1, 2, 3, 4, 5, 6, 7, 8, 9, 10, 11, 12, 13, 14, 15, 16], [0, 1, 2, 3, 4, 5, 6, 7, 8, 9, 10, 11, 12, 13, 14, 15, 16, 17], [0, 1, 2, 3, 4, 5, 6, 7, 8, 9, 10, 11, 12, 13, 14, 15, 16, 17], [0, 1, 2, 3, 4, 5, 6, 7, 8, 9, 10, 11, 12, 13, 14, 15, 16, 17, 18, 19], [0, 1, 2, 3, 4, 5, 6, 7, 8, 9, 10, 11, 12, 13, 14, 15, 16, 17, 18, 19, 20]] [20, 21, 22, 23, 24, 25, 26, 27, 28, 29, 30, 31, 32, 33, 34, 38, 39] [] (by kernel_rfl) (by kernel_rfl) (by kernel_rfl) (by kernel_rfl) (by exact trivial) ?_) | (refine And.intro ?ob ?_; case ob => ((try simp only [sxO, ne_eq, maxLen] at *); omega)) | fail) <;> (try simp (config := { maxSteps := 1000000 }) only [hb0, hn1.one, hd1.one, hn2.one, hd2.one, hx.one, ↓hold_pre, awayP, runOps, regK, step1, newK, genR, appR, obl, buildR, Value.cells, closeK, keepH, outV, retK, ret1, retC, RetV, Option.getD, runD, stepD, afterK, undef, simprocAttr, sxB, ↓sxD, sxE, sxTab]))
  have m5 : Mem.le M4 M5 := m5
  have hn1 := hn1.le m5
  have hd1 := hd1.le m5
  have hn2 := hn2.le m5
  have hd2 := hd2.le m5
  have hx := hx.le m5
  have fy := fy.le hm
  have hm := hm.trans m5
  refine Stop.go ?_
  (replace hb0 := true_and True); refine Go1.mk ?_; repeat' ((first | (with_reducible refine Go1.go ?_) | ((with_reducible first | refine brv_mk ?_ ?_ | refine gsplitD ?_ ?_ | refine gsplitG ?_ ?_) <;> intro h <;> (try simp only [Bool.not_eq_true', Bool.not_eq_false'] at h) <;> replace hb0 := h) | ((first | (with_reducible refine isCall (f := 68) ?_; refine callA_nil (by kernel_rfl) ?_) | (with_reducible refine isCall0 (f := 68) ?_; refine callA0_nil (by kernel_rfl) ?_)); refine (minus_ok wx wy _ _ hx hy (by omega) (by omega) (fun ws M6 m6 hs fs => Stop.mk ?_))) | ((with_reducible refine isDraw [some 20, some 21, some 22, some 23, some 24, some 25, some 26, some 27, some 28, some 29, some 30, some 31, some 32, some 33, some 34, some 35, some 36, some 37, some 38, some 39, none, some 5] (by decide) ?_); refine draw_rule [(0, []), (1, []), (2, [1]), (3, [1]), (5, [1, 3]), (6, [1, 3]), (7, [1, 3, 6]), (8, [1, 3, 6]), (11, [1, 3, 6, 8]), (12, [1, 3, 6, 8]), (13, [1, 3, 6, 8, 12]), (14, [1, 3, 6, 8, 12]), (4, [6, 8, 12, 14]), (9, [12, 14]), (10, [12, 14]), (15, []), (16, []), (17, []), (18, []), (19, []), (20, []), (21, [])] [[], [0], [], [2], [0, 1, 2, 3], [], [5], [], [7], [0, 1, 2, 3, 4, 5, 6, 7, 8], [0, 1, 2, 3, 4, 5, 6, 7, 8, 9], [], [11], [], [13], [0, 1, 2, 3, 4, 5, 6, 7, 8, 9, 10, 11, 12, 13, 14], [0, 1, 2, 3, 4, 5, 6, 7, 8, 9, 10, 11, 12, 13, 14, 15], [0, 1, 2, 3, 4, 5, 6, 7, 8, 9, 10, 11, 12, 13, 14, 15, 16], [0, 1, 2, 3, 4, 5, 6, 7, 8, 9, 10, 11, 12, 13, 14, 15, 16, 17], [0, 1, 2, 3, 4, 5, 6, 7, 8, 9, 10, 11, 12, 13, 14, 15, 16, 17], [0, 1, 2, 3, 4, 5, 6, 7, 8, 9, 10, 11, 12, 13, 14, 15, 16, 17, 18, 19], [0, 1, 2, 3, 4, 5, 6, 7, 8, 9, 10, 11, 12, 13, 14, 15, 16, 17, 18, 19, 20]] [20, 21, 22, 23, 24, 25, 26, 27, 28, 29, 30, 31, 32, 33, 34, 38, 39] [] (by kernel_rfl) (by kernel_rfl) (by kernel_rfl) (by kernel_rfl) (by exact trivial) ?_) | (refine And.intro ?ob ?_; case ob => ((try simp only [sxO, ne_eq, maxLen] at *); omega)) | fail) <;> (try simp (config := { maxSteps := 1000000 }) only [hb0, hn1.one, hd1.one, hn2.one, hd2.one, hx.one, hy.one, ↓hold_pre, awayP, runOps, regK, step1, newK, genR, appR, obl, buildR, Value.cells, closeK, keepH, outV, retK, ret1, retC, RetV, Option.getD, runD, stepD, afterK, undef, simprocAttr, sxB, ↓sxD, sxE, sxTab]))
  have m6 : Mem.le M5 M6 := m6
  have hn1 := hn1.le m6
  have hd1 := hd1.le m6
  have hn2 := hn2.le m6
  have hd2 := hd2.le m6
  have hx := hx.le m6
  have hy := hy.le m6
  have fs := fs.le hm
  have hm := hm.trans m6
  refine Stop.go ?_
  (replace hb0 := true_and True); refine Go1.mk ?_; repeat' ((first | (with_reducible refine Go1.go ?_) | ((with_reducible first | refine brv_mk ?_ ?_ | refine gsplitD ?_ ?_ | refine gsplitG ?_ ?_) <;> intro h <;> (try simp only [Bool.not_eq_true', Bool.not_eq_false'] at h) <;> replace hb0 := h) | ((first | (with_reducible refine isCall (f := 69) ?_; refine callA_nil (by kernel_rfl) ?_) | (with_reducible refine isCall0 (f := 69) ?_; refine callA0_nil (by kernel_rfl) ?_)); refine (times_ok u2 v2 d1 d2 hd1 hd2 (by omega) (by omega) (fun wp M7 m7 hp fp => Stop.mk ?_))) | ((with_reducible refine isDraw [some 20, some 21, some 22, some 23, some 24, some 25, some 26, some 27, some 28, some 29, some 30, some 31, some 32, some 33, some 34, some 35, some 36, some 37, some 38, some 39, none, some 5] (by decide) ?_); refine draw_rule [(0, []), (1, []), (2, [1]), (3, [1]), (5, [1, 3]), (6, [1, 3]), (7, [1, 3, 6]), (8, [1, 3, 6]), (11, [1, 3, 6, 8]), (12, [1, 3, 6, 8]), (13, [1, 3, 6, 8, 12]), (14, [1, 3, 6, 8, 12]), (4, [6, 8, 12, 14]), (9, [12, 14]), (10, [12, 14]), (15, []), (16, []), (17, []), (18, []), (19, []), (20, []), (21, [])] [[], [0], [], [2], [0, 1, 2, 3], [], [5], [], [7], [0, 1, 2, 3, 4, 5, 6, 7, 8], [0, 1, 2, 3, 4, 5, 6, 7, 8, 9], [], [11], [], [13], [0, 1, 2, 3, 4, 5, 6, 7, 8, 9, 10, 11, 12, 13, 14], [0, 1, 2, 3, 4, 5, 6, 7, 8, 9, 10, 11, 12, 13, 14, 15], [0, 1, 2, 3, 4, 5, 6, 7, 8, 9, 10, 11, 12, 13, 14, 15, 16], [0, 1, 2, 3, 4, 5, 6, 7, 8, 9, 10, 11, 12, 13, 14, 15, 16, 17], [0, 1, 2, 3, 4, 5, 6, 7, 8, 9, 10, 11, 12, 13, 14, 15, 16, 17], [0, 1, 2, 3, 4, 5, 6, 7, 8, 9, 10, 11, 12, 13, 14, 15, 16, 17, 18, 19], [0, 1, 2, 3, 4, 5, 6, 7, 8, 9, 10, 11, 12, 13, 14, 15, 16, 17, 18, 19, 20]] [20, 21, 22, 23, 24, 25, 26, 27, 28, 29, 30, 31, 32, 33, 34, 38, 39] [] (by kernel_rfl) (by kernel_rfl) (by kernel_rfl) (by kernel_rfl) (by exact trivial) ?_) | (refine And.intro ?ob ?_; case ob => ((try simp only [sxO, ne_eq, maxLen] at *); omega)) | fail) <;> (try simp (config := { maxSteps := 1000000 }) only [hb0, hn1.one, hd1.one, hn2.one, hd2.one, hx.one, hy.one, hs.one, ↓hold_pre, awayP, runOps, regK, step1, newK, genR, appR, obl, buildR, Value.cells, closeK, keepH, outV, retK, ret1, retC, RetV, Option.getD, runD, stepD, afterK, undef, simprocAttr, sxB, ↓sxD, sxE, sxTab]))
  have m7 : Mem.le M6 M7 := m7
  have hn1 := hn1.le m7
  have hd1 := hd1.le m7
  have hn2 := hn2.le m7
  have hd2 := hd2.le m7
  have hx := hx.le m7
  have hy := hy.le m7
  have hs := hs.le m7
  have fp := fp.le hm
  have hm := hm.trans m7
  refine Stop.go ?_
  (replace hb0 := true_and True); refine Go1.mk ?_; repeat' ((first | (with_reducible refine Go1.go ?_) | ((with_reducible first | refine brv_mk ?_ ?_ | refine gsplitD ?_ ?_ | refine gsplitG ?_ ?_) <;> intro h <;> (try simp only [Bool.not_eq_true', Bool.not_eq_false'] at h) <;> replace hb0 := h) | ((first | (with_reducible refine isCall (f := 53) ?_; refine callA_nil (by kernel_rfl) ?_) | (with_reducible refine isCall0 (f := 53) ?_; refine callA0_nil (by kernel_rfl) ?_)); refine (rlowest_ok ws wp _ _ hs hp (by omega) (by omega) t0 (fun w1 w2 M8 m8 h1 h2 f1 f2 => Stop.mk ?_))) | ((with_reducible refine isDraw [some 20, some 21, some 22, some 23, some 24, some 25, some 26, some 27, some 28, some 29, some 30, some 31, some 32, some 33, some 34, some 35, some 36, some 37, some 38, some 39, none, some 5] (by decide) ?_); refine draw_rule [(0, []), (1, []), (2, [1]), (3, [1]), (5, [1, 3]), (6, [1, 3]), (7, [1, 3, 6]), (8, [1, 3, 6]), (11, [1, 3, 6, 8]), (12, [1, 3, 6, 8]), (13, [1, 3, 6, 8, 12]), (14, [1, 3, 6, 8, 12]), (4, [6, 8, 12, 14]), (9, [12, 14]), (10, [12, 14]), (15, []), (16, []), (17, []), (18, []), (19, []), (20, []), (21, [])] [[], [0], [], [2], [0, 1, 2, 3], [], [5], [], [7], [0, 1, 2, 3, 4, 5, 6, 7, 8], [0, 1, 2, 3, 4, 5, 6, 7, 8, 9], [], [11], [], [13], [0, 1, 2, 3, 4, 5, 6, 7, 8, 9, 10, 11, 12, 13, 14], [0, 1, 2, 3, 4, 5, 6, 7, 8, 9, 10, 11, 12, 13, 14, 15], [0, 1, 2, 3, 4, 5, 6, 7, 8, 9, 10, 11, 12, 13, 14, 15, 16], [0, 1, 2, 3, 4, 5, 6, 7, 8, 9, 10, 11, 12, 13, 14, 15, 16, 17], [0, 1, 2, 3, 4, 5, 6, 7, 8, 9, 10, 11, 12, 13, 14, 15, 16, 17], [0, 1, 2, 3, 4, 5, 6, 7, 8, 9, 10, 11, 12, 13, 14, 15, 16, 17, 18, 19], [0, 1, 2, 3, 4, 5, 6, 7, 8, 9, 10, 11, 12, 13, 14, 15, 16, 17, 18, 19, 20]] [20, 21, 22, 23, 24, 25, 26, 27, 28, 29, 30, 31, 32, 33, 34, 38, 39] [] (by kernel_rfl) (by kernel_rfl) (by kernel_rfl) (by kernel_rfl) (by exact trivial) ?_) | (refine And.intro ?ob ?_; case ob => ((try simp only [sxO, ne_eq, maxLen] at *); omega)) | fail) <;> (try simp (config := { maxSteps := 1000000 }) only [hb0, hn1.one, hd1.one, hn2.one, hd2.one, hx.one, hy.one, hs.one, hp.one, ↓hold_pre, awayP, runOps, regK, step1, newK, genR, appR, obl, buildR, Value.cells, closeK, keepH, outV, retK, ret1, retC, RetV, Option.getD, runD, stepD, afterK, undef, simprocAttr, sxB, ↓sxD, sxE, sxTab]))
  have m8 : Mem.le M7 M8 := m8
  have hn1 := hn1.le m8
  have hd1 := hd1.le m8
  have hn2 := hn2.le m8
  have hd2 := hd2.le m8
  have hx := hx.le m8
  have hy := hy.le m8
  have hs := hs.le m8
  have hp := hp.le m8
  have f1 := f1.le hm
  have f2 := f2.le hm
  have hm := hm.trans m8
  refine Stop.go ?_
  by_cases hl1 : (ofN ((n1 * d2 - n2 * d1) / Nat.gcd ((n1 * d2 - n2 * d1)) ((d1 * d2)))).length ≤ 128
  · by_cases hl2 : (ofN ((d1 * d2) / Nat.gcd ((n1 * d2 - n2 * d1)) ((d1 * d2)))).length ≤ 128
    · unfold exF at hK
      rw [if_pos ⟨hl1, hl2⟩] at hK
      (replace hb0 := true_and True); refine Go1.mk ?_; repeat' ((first | (with_reducible refine Go1.go ?_) | ((with_reducible first | refine brv_mk ?_ ?_ | refine gsplitD ?_ ?_ | refine gsplitG ?_ ?_) <;> intro h <;> (try simp only [Bool.not_eq_true', Bool.not_eq_false'] at h) <;> replace hb0 := h) | ((first | (with_reducible refine isCall (f := 65) ?_; refine callA_nil (by kernel_rfl) ?_) | (with_reducible refine isCall0 (f := 65) ?_; refine callA0_nil (by kernel_rfl) ?_)); refine (rflimited_ok h1 h2 (fun _ _ => ?_) (fun h => absurd h (fun h => h.elim (fun h => by omega) (fun h => by omega))))) | (refine And.intro ?ob ?_; case ob => ((try simp only [sxO, ne_eq, maxLen] at *); omega)) | fail) <;> (try simp (config := { maxSteps := 1000000 }) only [hb0, h1.one, h2.one, ↓hold_pre, awayP, runOps, regK, step1, newK, genR, appR, obl, buildR, Value.cells, closeK, keepH, outV, retK, ret1, retC, RetV, Option.getD, runD, stepD, afterK, undef, simprocAttr, sxB, ↓sxD, sxE, sxTab]))
      exact hK _ _ _ hm h1 h2 f1 f2
    · unfold exF at hK
      rw [if_neg (fun h => hl2 h.2)] at hK
      (replace hb0 := true_and True); refine Go1.mk ?_; repeat' ((first | (with_reducible refine Go1.go ?_) | ((with_reducible first | refine brv_mk ?_ ?_ | refine gsplitD ?_ ?_ | refine gsplitG ?_ ?_) <;> intro h <;> (try simp only [Bool.not_eq_true', Bool.not_eq_false'] at h) <;> replace hb0 := h) | ((first | (with_reducible refine isCall (f := 65) ?_; refine callA_nil (by kernel_rfl) ?_) | (with_reducible refine isCall0 (f := 65) ?_; refine callA0_nil (by kernel_rfl) ?_)); refine (rflimited_ok h1 h2 (fun _ h => absurd h hl2) (fun _ => ?_))) | (refine And.intro ?ob ?_; case ob => ((try simp only [sxO, ne_eq, maxLen] at *); omega)) | fail) <;> (try simp (config := { maxSteps := 1000000 }) only [hb0, h1.one, h2.one, ↓hold_pre, awayP, runOps, regK, step1, newK, genR, appR, obl, buildR, Value.cells, closeK, keepH, outV, retK, ret1, retC, RetV, Option.getD, runD, stepD, afterK, undef, simprocAttr, sxB, ↓sxD, sxE, sxTab]))
      exact hK.err _ hm
  · unfold exF at hK
    rw [if_neg (fun h => hl1 h.1)] at hK
    (replace hb0 := true_and True); refine Go1.mk ?_; repeat' ((first | (with_reducible refine Go1.go ?_) | ((with_reducible first | refine brv_mk ?_ ?_ | refine gsplitD ?_ ?_ | refine gsplitG ?_ ?_) <;> intro h <;> (try simp only [Bool.not_eq_true', Bool.not_eq_false'] at h) <;> replace hb0 := h) | ((first | (with_reducible refine isCall (f := 65) ?_; refine callA_nil (by kernel_rfl) ?_) | (with_reducible refine isCall0 (f := 65) ?_; refine callA0_nil (by kernel_rfl) ?_)); refine (rflimited_ok h1 h2 (fun h _ => absurd h hl1) (fun _ => ?_))) | (refine And.intro ?ob ?_; case ob => ((try simp only [sxO, ne_eq, maxLen] at *); omega)) | fail) <;> (try simp (config := { maxSteps := 1000000 }) only [hb0, h1.one, h2.one, ↓hold_pre, awayP, runOps, regK, step1, newK, genR, appR, obl, buildR, Value.cells, closeK, keepH, outV, retK, ret1, retC, RetV, Option.getD, runD, stepD, afterK, undef, simprocAttr, sxB, ↓sxD, sxE, sxTab]))
    exact hK.err _ hm
end
end Go.Proofs.YtamghpnjdohnjaaDoor.Sx
