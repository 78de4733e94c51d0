/- Part 2 of the texts of this claim: a symbolic executor and contracts of functions. -/
import Derived.Test.YtamghpnjdohnjaaDoorFrQP1
namespace Go.Proofs.YtamghpnjdohnjaaDoor.Sx
open Go Go.RowKit
set_option linter.unusedVariables false
set_option linter.unusedSimpArgs false
set_option maxRecDepth 100000
set_option maxHeartbeats 8000000
attribute [local congr] fin_congr finG_congr stepG_congr step1_congr runOps_congr brv_congr obl_congr condK_congr LoopK_congr seqK_congr CutK_congr vc_congr DrawK_congr regK_congr CallK_congr AskK_congr newK_congr retC_congr ret1_congr retK_congr outV_congr closeK_congr genR_congr appR_congr finD_congr finGD_congr stepGD_congr stepD_congr CallK0_congr runD_congr okR_congr CallS_congr vcX_congr
attribute [local congr] Stop_congr
theorem laws_sub {n1 d1 n3 d3 sn sd : Nat} (hd1 : 0 < d1) (h : sn * (d1 * d3) = (n1 * d3 + n3 * d1) * sd) : n3 * sd ≤ sn * d3 ∧ (sn * d3 - n3 * sd) * d1 = n1 * (sd * d3) := by
  have e : sn * d3 * d1 = n1 * (sd * d3) + n3 * sd * d1 := by grind
  have h1 : n3 * sd ≤ sn * d3 := by
    refine Nat.le_of_mul_le_mul_right ?_ hd1
    omega
  refine ⟨h1, ?_⟩
  rw [Nat.sub_mul]; omega
theorem laws_dist {n1 d1 n2 d2 n3 d3 pn pd sn sd un ud vn vd : Nat} (hd1 : 0 < d1) (hd2 : 0 < d2) (hd3 : 0 < d3) (hsd : 0 < sd) (hp : pn * (d1 * d2) = n1 * n2 * pd) (hs : sn * (d1 * d3) = (n1 * d3 + n3 * d1) * sd) (hu : un * (sd * d2) = sn * n2 * ud) (hv : vn * (d3 * d2) = n3 * n2 * vd) : (pn * vd + vn * pd) * ud = un * (pd * vd) := by
  have e1 : (pn * vd + vn * pd) * (d1 * d2 * d3) = n2 * pd * vd * (n1 * d3 + n3 * d1) := by
    have a : pn * vd * (d1 * d2 * d3) = n1 * n2 * pd * (vd * d3) := by rw [← hp]; grind
    have b : vn * pd * (d1 * d2 * d3) = n3 * n2 * vd * (pd * d1) := by rw [← hv]; grind
    rw [Nat.add_mul, a, b]; grind
  have e2 : un * (d1 * d2 * d3) = n2 * ud * (n1 * d3 + n3 * d1) := by
    refine Nat.eq_of_mul_eq_mul_right hsd ?_
    have a : un * (d1 * d2 * d3) * sd = sn * n2 * ud * (d1 * d3) := by rw [← hu]; grind
    have b : n2 * ud * (n1 * d3 + n3 * d1) * sd = n2 * ud * (sn * (d1 * d3)) := by rw [hs]; grind
    rw [a, b]; grind
  refine Nat.eq_of_mul_eq_mul_right (Nat.mul_pos (Nat.mul_pos hd1 hd2) hd3) ?_
  have a : (pn * vd + vn * pd) * ud * (d1 * d2 * d3) = n2 * pd * vd * (n1 * d3 + n3 * d1) * ud := by rw [← e1]; grind
  have b : un * (pd * vd) * (d1 * d2 * d3) = n2 * ud * (n1 * d3 + n3 * d1) * (pd * vd) := by rw [← e2]; grind
  rw [a, b]; grind
section
variable {M : Mem} {K : AV → Hp → Mem → Prop}
theorem pick23_ok (u : Value) (l : List Int) (p : Nat) (L : List Int) (hL : L.length = 9) (hu : IsL M intV64 u l) (hp : p < 1000000) (hK : ∀ x ∈ L, K (.ext (.int .i64 x)) [(23, 42, [.ext u, .ext (.int .i64 ((p + 1 : Nat) : Int))]), (29, 3, cE intV64 L)] M) :
    CallS Tryd.prog 70 [.own 23 0, .slo 29 0 9 1] [(29, 3, cE intV64 L), (23, 42, [.ext u, .ext (.int .i64 ((p : Nat) : Int))])] M [] K := by
  refine inlS (cs := []) Tryd.mixed Tryd.func70 rfl (by kernel_rfl) 30 rfl rfl ?_
  simp only [Tryd.f70]
  (replace hb0 := true_and True); refine Go1.mk ?_; repeat' ((first | (with_reducible refine Go1.go ?_) | ((with_reducible first | refine brv_mk ?_ ?_ | refine gsplitD ?_ ?_ | refine gsplitG ?_ ?_) <;> intro h <;> (try simp only [Bool.not_eq_true', Bool.not_eq_false'] at h) <;> replace hb0 := h) | ((with_reducible refine isCall (f := 36) ?_); refine callA ?_) | ((with_reducible refine isCall0 (f := 36) ?_); refine callA0 ?_) | ((with_reducible refine isCallS (f := 36) ?_); refine (nextI_ok 23 u l p 9 hu (by omega) (by omega) (by omega) (fun x hx0 hx1 => Stop.mk ?_))) | (refine And.intro ?ob ?_; case ob => ((try simp only [sxO, ne_eq, maxLen] at *); omega)) | fail) <;> (try simp (config := { maxSteps := 1000000 }) only [hb0, cE_ment, cE_len, cE_kill, hasK_nil, Nat.mul_one, hu.one, ↓hold_pre, awayP, runOps, regK, step1, newK, genR, appR, obl, buildR, Value.cells, closeK, keepH, outV, retK, ret1, retC, RetV, Option.getD, runD, stepD, afterK, undef, simprocAttr, sxB, ↓sxD, sxE, sxTab]))
  obtain ⟨j, rfl⟩ := Int.eq_ofNat_of_zero_le hx0
  have hj : j < L.length := by omega
  have hat := cE_at intV64 hj
  have hm : L[j] ∈ L := List.getElem_mem hj
  have a1 : (0 : Int) ≤ (j : Int) := by omega
  have a2 : (j : Int) < 9 := by omega
  have a3 : (j : Int) < ((9 : Nat) : Int) := by omega
  generalize L[j] = y at *
  refine Stop.go ?_
  (replace hb0 := true_and True); refine Go1.mk ?_; repeat' ((first | (with_reducible refine Go1.go ?_) | ((with_reducible first | refine brv_mk ?_ ?_ | refine gsplitD ?_ ?_ | refine gsplitG ?_ ?_) <;> intro h <;> (try simp only [Bool.not_eq_true', Bool.not_eq_false'] at h) <;> replace hb0 := h) | (refine And.intro ?ob ?_; case ob => ((try simp only [sxO, ne_eq, maxLen] at *); omega)) | fail) <;> (try simp (config := { maxSteps := 1000000 }) only [hb0, cE_ment, cE_len, cE_kill, hasK_nil, Nat.mul_one, hu.one, hat, a1, a2, a3, intV64, ↓hold_pre, awayP, runOps, regK, step1, newK, genR, appR, obl, buildR, Value.cells, closeK, keepH, outV, retK, ret1, retC, RetV, Option.getD, runD, stepD, afterK, undef, simprocAttr, sxB, ↓sxD, sxE, sxTab]))
  exact hK _ hm
theorem chance23_ok (u : Value) (l : List Int) (p : Nat) (hu : IsL M intV64 u l) (hp : p < 100000) (hK : ∀ n d w1 w2 M', Mem.le M M' → IsL M' u32V w1 (ofN n) → IsL M' u32V w2 (ofN d) → 0 < d → n ≤ d → d ≤ 1000 → Nat.gcd n d = 1 → K (.ext (.agg #[w1, w2])) [(23, 42, [.ext u, .ext (.int .i64 ((p + 2 : Nat) : Int))])] M') :
    CallS Tryd.prog 30 [.own 23 0] [(23, 42, [.ext u, .ext (.int .i64 ((p : Nat) : Int))])] M [] K := by
  refine inlS (cs := []) Tryd.mixed Tryd.func30 rfl (by kernel_rfl) 24 rfl rfl ?_
  simp only [Tryd.f30]
  have hr : ∀ x ∈ ([1, 2, 3, 4, 10, 100, 1000, 997, 7] : List Int), 1 ≤ x ∧ x ≤ 1000 := by decide
  (replace hb0 := true_and True); refine Go1.mk ?_; repeat' ((first | (with_reducible refine Go1.go ?_) | ((with_reducible first | refine brv_mk ?_ ?_ | refine gsplitD ?_ ?_ | refine gsplitG ?_ ?_) <;> intro h <;> (try simp only [Bool.not_eq_true', Bool.not_eq_false'] at h) <;> replace hb0 := h) | ((with_reducible refine isCall (f := 70) ?_); refine callA ?_) | ((with_reducible refine isCall0 (f := 70) ?_); refine callA0 ?_) | ((with_reducible refine isCallS (f := 70) ?_); refine (pick23_ok u l p [1, 2, 3, 4, 10, 100, 1000, 997, 7] rfl hu (by omega) (fun x hx => Stop.mk ?_))) | (refine And.intro ?ob ?_; case ob => ((try simp only [sxO, ne_eq, maxLen] at *); omega)) | fail) <;> (try simp (config := { maxSteps := 1000000 }) only [hb0, hu.one, ↓hold_pre, awayP, runOps, regK, step1, newK, genR, appR, obl, buildR, Value.cells, closeK, keepH, outV, retK, ret1, retC, RetV, Option.getD, runD, stepD, afterK, undef, simprocAttr, sxB, ↓sxD, sxE, sxTab]))
  obtain ⟨x0, x1⟩ := hr x hx
  obtain ⟨y, rfl⟩ := Int.eq_ofNat_of_zero_le (show 0 ≤ x by omega)
  clear hx hr
  have w1 : IntKind.i64.wrap ((y : Int) + 1) = ((y + 1 : Nat) : Int) := succ_i (by omega)
  refine Stop.go ?_
  (replace hb0 := true_and True); refine Go1.mk ?_; repeat' ((first | (with_reducible refine Go1.go ?_) | ((with_reducible first | refine brv_mk ?_ ?_ | refine gsplitD ?_ ?_ | refine gsplitG ?_ ?_) <;> intro h <;> (try simp only [Bool.not_eq_true', Bool.not_eq_false'] at h) <;> replace hb0 := h) | ((with_reducible refine isCall (f := 36) ?_); refine callA ?_) | ((with_reducible refine isCall0 (f := 36) ?_); refine callA0 ?_) | ((with_reducible refine isCallS (f := 36) ?_); refine (nextI_ok 23 u l (p + 1) ((y + 1 : Nat) : Int) hu (by omega) (by omega) (by omega) (fun z hz0 hz1 => Stop.mk ?_))) | (refine And.intro ?ob ?_; case ob => ((try simp only [sxO, ne_eq, maxLen] at *); omega)) | fail) <;> (try simp (config := { maxSteps := 1000000 }) only [hb0, cE_ment, cE_kill, hasK_nil, hu.one, w1, ↓hold_pre, awayP, runOps, regK, step1, newK, genR, appR, obl, buildR, Value.cells, closeK, keepH, outV, retK, ret1, retC, RetV, Option.getD, runD, stepD, afterK, undef, simprocAttr, sxB, ↓sxD, sxE, sxTab]))
  obtain ⟨n, rfl⟩ := Int.eq_ofNat_of_zero_le hz0
  refine Stop.go ?_
  (replace hb0 := true_and True); refine Go1.mk ?_; repeat' ((first | (with_reducible refine Go1.go ?_) | ((with_reducible first | refine brv_mk ?_ ?_ | refine gsplitD ?_ ?_ | refine gsplitG ?_ ?_) <;> intro h <;> (try simp only [Bool.not_eq_true', Bool.not_eq_false'] at h) <;> replace hb0 := h) | ((first | (with_reducible refine isCall (f := 71) ?_; refine callA_nil (by kernel_rfl) ?_) | (with_reducible refine isCall0 (f := 71) ?_; refine callA0_nil (by kernel_rfl) ?_)); refine (sml_ok n y (by omega) (by omega) (by omega) (fun v1 v2 M1 a1 a2 a3 _ _ => Stop.mk ?_))) | (refine And.intro ?ob ?_; case ob => ((try simp only [sxO, ne_eq, maxLen] at *); omega)) | fail) <;> (try simp (config := { maxSteps := 1000000 }) only [hb0, cE_ment, cE_kill, hasK_nil, hu.one, ↓hold_pre, awayP, runOps, regK, step1, newK, genR, appR, obl, buildR, Value.cells, closeK, keepH, outV, retK, ret1, retC, RetV, Option.getD, runD, stepD, afterK, undef, simprocAttr, sxB, ↓sxD, sxE, sxTab]))
  have a1 : Mem.le M M1 := a1
  have hg0 : 0 < Nat.gcd n y := Nat.gcd_pos_of_pos_right _ (by omega)
  refine Stop.go ?_
  (replace hb0 := true_and True); refine Go1.mk ?_; repeat' ((first | (with_reducible refine Go1.go ?_) | ((with_reducible first | refine brv_mk ?_ ?_ | refine gsplitD ?_ ?_ | refine gsplitG ?_ ?_) <;> intro h <;> (try simp only [Bool.not_eq_true', Bool.not_eq_false'] at h) <;> replace hb0 := h) | (refine And.intro ?ob ?_; case ob => ((try simp only [sxO, ne_eq, maxLen] at *); omega)) | fail) <;> (try simp (config := { maxSteps := 1000000 }) only [hb0, cE_ment, cE_kill, hasK_nil, hu.one, a2.one, a3.one, ↓hold_pre, awayP, runOps, regK, step1, newK, genR, appR, obl, buildR, Value.cells, closeK, keepH, outV, retK, ret1, retC, RetV, Option.getD, runD, stepD, afterK, undef, simprocAttr, sxB, ↓sxD, sxE, sxTab]))
  exact hK _ _ _ _ _ a1 a2 a3 (Nat.div_pos (Nat.gcd_le_right n (by omega)) hg0) (Nat.div_le_div_right (by omega)) (Nat.le_trans (Nat.div_le_self _ _) (by omega)) (Nat.gcd_div_gcd_div_gcd_of_pos_right (by omega))
theorem inner23_ok (u : Value) (l : List Int) (p : Nat) (hu : IsL M intV64 u l) (hp : p < 100000) (hK : ∀ n d w1 w2 M', Mem.le M M' → IsL M' u32V w1 (ofN n) → IsL M' u32V w2 (ofN d) → 0 < d → n ≤ d → d ≤ 1000 → Nat.gcd n d = 1 → 0 < n → n < d → K (.ext (.agg #[w1, w2])) [(23, 42, [.ext u, .ext (.int .i64 ((p + 2 : Nat) : Int))])] M') :
    CallS Tryd.prog 31 [.own 23 0] [(23, 42, [.ext u, .ext (.int .i64 ((p : Nat) : Int))])] M [] K := by
  refine inlS (cs := []) Tryd.mixed Tryd.func31 rfl (by kernel_rfl) 24 rfl rfl ?_
  simp only [Tryd.f31]
  have hr : ∀ x ∈ ([2, 3, 4, 5, 10, 20, 100, 1000, 997] : List Int), 2 ≤ x ∧ x ≤ 1000 := by decide
  (replace hb0 := true_and True); refine Go1.mk ?_; repeat' ((first | (with_reducible refine Go1.go ?_) | ((with_reducible first | refine brv_mk ?_ ?_ | refine gsplitD ?_ ?_ | refine gsplitG ?_ ?_) <;> intro h <;> (try simp only [Bool.not_eq_true', Bool.not_eq_false'] at h) <;> replace hb0 := h) | ((with_reducible refine isCall (f := 70) ?_); refine callA ?_) | ((with_reducible refine isCall0 (f := 70) ?_); refine callA0 ?_) | ((with_reducible refine isCallS (f := 70) ?_); refine (pick23_ok u l p [2, 3, 4, 5, 10, 20, 100, 1000, 997] rfl hu (by omega) (fun x hx => Stop.mk ?_))) | (refine And.intro ?ob ?_; case ob => ((try simp only [sxO, ne_eq, maxLen] at *); omega)) | fail) <;> (try simp (config := { maxSteps := 1000000 }) only [hb0, hu.one, ↓hold_pre, awayP, runOps, regK, step1, newK, genR, appR, obl, buildR, Value.cells, closeK, keepH, outV, retK, ret1, retC, RetV, Option.getD, runD, stepD, afterK, undef, simprocAttr, sxB, ↓sxD, sxE, sxTab]))
  obtain ⟨x0, x1⟩ := hr x hx
  obtain ⟨y, rfl⟩ := Int.eq_ofNat_of_zero_le (show 0 ≤ x by omega)
  clear hx hr
  have w1 : IntKind.i64.wrap ((y : Int) - 1) = ((y - 1 : Nat) : Int) := pred_i (by omega) (by omega)
  refine Stop.go ?_
  (replace hb0 := true_and True); refine Go1.mk ?_; repeat' ((first | (with_reducible refine Go1.go ?_) | ((with_reducible first | refine brv_mk ?_ ?_ | refine gsplitD ?_ ?_ | refine gsplitG ?_ ?_) <;> intro h <;> (try simp only [Bool.not_eq_true', Bool.not_eq_false'] at h) <;> replace hb0 := h) | ((with_reducible refine isCall (f := 36) ?_); refine callA ?_) | ((with_reducible refine isCall0 (f := 36) ?_); refine callA0 ?_) | ((with_reducible refine isCallS (f := 36) ?_); refine (nextI_ok 23 u l (p + 1) ((y - 1 : Nat) : Int) hu (by omega) (by omega) (by omega) (fun z hz0 hz1 => Stop.mk ?_))) | (refine And.intro ?ob ?_; case ob => ((try simp only [sxO, ne_eq, maxLen] at *); omega)) | fail) <;> (try simp (config := { maxSteps := 1000000 }) only [hb0, cE_ment, cE_kill, hasK_nil, hu.one, w1, ↓hold_pre, awayP, runOps, regK, step1, newK, genR, appR, obl, buildR, Value.cells, closeK, keepH, outV, retK, ret1, retC, RetV, Option.getD, runD, stepD, afterK, undef, simprocAttr, sxB, ↓sxD, sxE, sxTab]))
  obtain ⟨m, rfl⟩ := Int.eq_ofNat_of_zero_le hz0
  obtain ⟨n, hnm⟩ : ∃ n, n = m + 1 := ⟨_, rfl⟩
  have w2 : IntKind.i64.wrap (1 + (m : Int)) = (n : Int) := by rw [wrap_id (by omega) (by omega)]; omega
  refine Stop.go ?_
  (replace hb0 := true_and True); refine Go1.mk ?_; repeat' ((first | (with_reducible refine Go1.go ?_) | ((with_reducible first | refine brv_mk ?_ ?_ | refine gsplitD ?_ ?_ | refine gsplitG ?_ ?_) <;> intro h <;> (try simp only [Bool.not_eq_true', Bool.not_eq_false'] at h) <;> replace hb0 := h) | ((first | (with_reducible refine isCall (f := 71) ?_; refine callA_nil (by kernel_rfl) ?_) | (with_reducible refine isCall0 (f := 71) ?_; refine callA0_nil (by kernel_rfl) ?_)); refine (sml_ok n y (by omega) (by omega) (by omega) (fun v1 v2 M1 a1 a2 a3 _ _ => Stop.mk ?_))) | (refine And.intro ?ob ?_; case ob => ((try simp only [sxO, ne_eq, maxLen] at *); omega)) | fail) <;> (try simp (config := { maxSteps := 1000000 }) only [hb0, cE_ment, cE_kill, hasK_nil, hu.one, w2, ↓hold_pre, awayP, runOps, regK, step1, newK, genR, appR, obl, buildR, Value.cells, closeK, keepH, outV, retK, ret1, retC, RetV, Option.getD, runD, stepD, afterK, undef, simprocAttr, sxB, ↓sxD, sxE, sxTab]))
  have a1 : Mem.le M M1 := a1
  have hg0 : 0 < Nat.gcd n y := Nat.gcd_pos_of_pos_right _ (by omega)
  refine Stop.go ?_
  (replace hb0 := true_and True); refine Go1.mk ?_; repeat' ((first | (with_reducible refine Go1.go ?_) | ((with_reducible first | refine brv_mk ?_ ?_ | refine gsplitD ?_ ?_ | refine gsplitG ?_ ?_) <;> intro h <;> (try simp only [Bool.not_eq_true', Bool.not_eq_false'] at h) <;> replace hb0 := h) | (refine And.intro ?ob ?_; case ob => ((try simp only [sxO, ne_eq, maxLen] at *); omega)) | fail) <;> (try simp (config := { maxSteps := 1000000 }) only [hb0, cE_ment, cE_kill, hasK_nil, hu.one, a2.one, a3.one, ↓hold_pre, awayP, runOps, regK, step1, newK, genR, appR, obl, buildR, Value.cells, closeK, keepH, outV, retK, ret1, retC, RetV, Option.getD, runD, stepD, afterK, undef, simprocAttr, sxB, ↓sxD, sxE, sxTab]))
  exact hK _ _ _ _ _ a1 a2 a3 (Nat.div_pos (Nat.gcd_le_right n (by omega)) hg0) (Nat.div_le_div_right (by omega)) (Nat.le_trans (Nat.div_le_self _ _) (by omega)) (Nat.gcd_div_gcd_div_gcd_of_pos_right (by omega)) (Nat.div_pos (Nat.gcd_le_left y (by omega)) hg0) (low_lt (by omega))
theorem flaws_ok (u : Value) (l : List Int) (hu : IsL M intV64 u l) (hK : ∀ M', Mem.le M M' → K (.ext (.bool true)) [] M') : CallS Tryd.prog 5 [.ext u] [] M [] K := by
  refine inlS (cs := []) Tryd.mixed Tryd.func5 rfl (by kernel_rfl) 0 rfl rfl ?_
  simp only [Tryd.f5]
  (replace hb0 := true_and True); refine Go1.mk ?_; repeat' ((first | (with_reducible refine Go1.go ?_) | ((with_reducible first | refine brv_mk ?_ ?_ | refine gsplitD ?_ ?_ | refine gsplitG ?_ ?_) <;> intro h <;> (try simp only [Bool.not_eq_true', Bool.not_eq_false'] at h) <;> replace hb0 := h) | ((with_reducible refine isCall (f := 30) ?_); refine callA ?_) | ((with_reducible refine isCall0 (f := 30) ?_); refine callA0 ?_) | ((with_reducible refine isCallS (f := 30) ?_); refine (chance23_ok u l 0 hu (by decide) (fun n1 d1 wa1 wb1 M1 m1 ha1 hb1 z1 le1 b1 g1 => Stop.mk ?_))) | (refine And.intro ?ob ?_; case ob => ((try simp only [sxO, ne_eq, maxLen] at *); omega)) | fail) <;> (try simp (config := { maxSteps := 1000000 }) only [hb0, hu.one, ↓hold_pre, awayP, runOps, regK, step1, newK, genR, appR, obl, buildR, Value.cells, closeK, keepH, outV, retK, ret1, retC, RetV, Option.getD, runD, stepD, afterK, undef, simprocAttr, sxB, ↓sxD, sxE, sxTab]))
  have m1 : Mem.le M M1 := m1
  have hu := hu.le m1
  have hm := m1
  refine Stop.go ?_
  (replace hb0 := true_and True); refine Go1.mk ?_; repeat' ((first | (with_reducible refine Go1.go ?_) | ((with_reducible first | refine brv_mk ?_ ?_ | refine gsplitD ?_ ?_ | refine gsplitG ?_ ?_) <;> intro h <;> (try simp only [Bool.not_eq_true', Bool.not_eq_false'] at h) <;> replace hb0 := h) | ((with_reducible refine isCall (f := 31) ?_); refine callA ?_) | ((with_reducible refine isCall0 (f := 31) ?_); refine callA0 ?_) | ((with_reducible refine isCallS (f := 31) ?_); refine (inner23_ok u l 2 hu (by decide) (fun n2 d2 wa2 wb2 M2 m2 ha2 hb2 z2 le2 b2 g2 pos2 lt2 => Stop.mk ?_))) | (refine And.intro ?ob ?_; case ob => ((try simp only [sxO, ne_eq, maxLen] at *); omega)) | fail) <;> (try simp (config := { maxSteps := 1000000 }) only [hb0, hu.one, ha1.one, hb1.one, ↓hold_pre, awayP, runOps, regK, step1, newK, genR, appR, obl, buildR, Value.cells, closeK, keepH, outV, retK, ret1, retC, RetV, Option.getD, runD, stepD, afterK, undef, simprocAttr, sxB, ↓sxD, sxE, sxTab]))
  have m2 : Mem.le M1 M2 := m2
  have hu := hu.le m2
  have ha1 := ha1.le m2
  have hb1 := hb1.le m2
  have hm := hm.trans m2
  refine Stop.go ?_
  (replace hb0 := true_and True); refine Go1.mk ?_; repeat' ((first | (with_reducible refine Go1.go ?_) | ((with_reducible first | refine brv_mk ?_ ?_ | refine gsplitD ?_ ?_ | refine gsplitG ?_ ?_) <;> intro h <;> (try simp only [Bool.not_eq_true', Bool.not_eq_false'] at h) <;> replace hb0 := h) | ((with_reducible refine isCall (f := 30) ?_); refine callA ?_) | ((with_reducible refine isCall0 (f := 30) ?_); refine callA0 ?_) | ((with_reducible refine isCallS (f := 30) ?_); refine (chance23_ok u l 4 hu (by decide) (fun n3 d3 wa3 wb3 M3 m3 ha3 hb3 z3 le3 b3 g3 => Stop.mk ?_))) | (refine And.intro ?ob ?_; case ob => ((try simp only [sxO, ne_eq, maxLen] at *); omega)) | fail) <;> (try simp (config := { maxSteps := 1000000 }) only [hb0, hu.one, ha1.one, hb1.one, ha2.one, hb2.one, ↓hold_pre, awayP, runOps, regK, step1, newK, genR, appR, obl, buildR, Value.cells, closeK, keepH, outV, retK, ret1, retC, RetV, Option.getD, runD, stepD, afterK, undef, simprocAttr, sxB, ↓sxD, sxE, sxTab]))
  have m3 : Mem.le M2 M3 := m3
  have hu := hu.le m3
  have ha1 := ha1.le m3
  have hb1 := hb1.le m3
  have ha2 := ha2.le m3
  have hb2 := hb2.le m3
  have hm := hm.trans m3
  have l1 := len_1 (n := n1) (by omega)
  have l2 := len_1 (n := d1) (by omega)
  have l3 := len_1 (n := n2) (by omega)
  have l4 := len_1 (n := d2) (by omega)
  have l5 := len_1 (n := n3) (by omega)
  have l6 := len_1 (n := d3) (by omega)
  have c1 := chkF_of (n := n1) (d := d1) (by omega) (by omega) z1 g1
  have c2 := chkF_of (n := n2) (d := d2) (by omega) (by omega) z2 g2
  have c3 := chkF_of (n := n3) (d := d3) (by omega) (by omega) z3 g3
  have t1 := mul_len n1 n2
  have t2 := mul_len d1 d2
  obtain ⟨pn, pd, ep, xp, gp, zp, lp1, lp2⟩ := exF_low (x := n1 * n2) (y := d1 * d2) (k := 2) (Nat.mul_pos z1 z2) (by omega) (by omega) (by omega)
  have cp := chkF_of (n := pn) (d := pd) (by omega) (by omega) zp gp
  have t3 := mul_len n1 d3
  have t4 := mul_len n3 d1
  have t5 := mul_len d1 d3
  have t6 := add_len (x := n1 * d3) (y := n3 * d1) (k := 2) (by omega) (by omega)
  obtain ⟨sn, sd, es, xs, gs, zs, ls1, ls2⟩ := exF_low (x := n1 * d3 + n3 * d1) (y := d1 * d3) (k := 3) (Nat.mul_pos z1 z3) (by omega) (by omega) (by omega)
  have cs := chkF_of (n := sn) (d := sd) (by omega) (by omega) zs gs
  have t7 := mul_len sn n2
  have t8 := mul_len sd d2
  obtain ⟨un, ud, eu, hu2, gu, zu, lu1, lu2⟩ := exF_low (x := sn * n2) (y := sd * d2) (k := 4) (Nat.mul_pos zs z2) (by omega) (by omega) (by omega)
  have cu := chkF_of (n := un) (d := ud) (by omega) (by omega) zu gu
  have t9 := mul_len n3 n2
  have t10 := mul_len d3 d2
  obtain ⟨vn, vd, ev, xv, gv, zv, lv1, lv2⟩ := exF_low (x := n3 * n2) (y := d3 * d2) (k := 2) (Nat.mul_pos z3 z2) (by omega) (by omega) (by omega)
  have cv := chkF_of (n := vn) (d := vd) (by omega) (by omega) zv gv
  obtain ⟨sub1, sub2⟩ := laws_sub (n1 := n1) (n3 := n3) (d3 := d3) z1 xs
  have ep' : mulF (ofN n1) (ofN d1) (ofN n2) (ofN d2) = (0, pn, pd) := by rw [mulF_of c1 c2, ep]
  have eq' : divF (ofN pn) (ofN pd) (ofN n2) (ofN d2) = (0, n1, d1) := by
    rw [divF_of cp c2 pos2]
    exact exF_eq (Nat.mul_pos pos2 zp) z1 (by grind) g1 (by omega) (by omega)
  have es' : addF (ofN n1) (ofN d1) (ofN n3) (ofN d3) = (0, sn, sd) := by rw [addF_of c1 c3, es]
  have ed' : subF (ofN sn) (ofN sd) (ofN n3) (ofN d3) = (0, n1, d1) := by
    rw [subF_of cs c3 sub1]
    exact exF_eq (Nat.mul_pos zs z3) z1 sub2 g1 (by omega) (by omega)
  have eu' : mulF (ofN sn) (ofN sd) (ofN n2) (ofN d2) = (0, un, ud) := by rw [mulF_of cs c2, eu]
  have ev' : mulF (ofN n3) (ofN d3) (ofN n2) (ofN d2) = (0, vn, vd) := by rw [mulF_of c3 c2, ev]
  have ew' : addF (ofN pn) (ofN pd) (ofN vn) (ofN vd) = (0, un, ud) := by
    rw [addF_of cp cv]
    exact exF_eq (Nat.mul_pos zp zv) zu (laws_dist z1 z2 z3 zs xp xs hu2 xv) gu (by omega) (by omega)
  have k1 : decide (0 ≤ cmpF (ofN sn) (ofN sd) (ofN n1) (ofN d1)) = true := by
    rw [cmpF_of cs c1]
    refine cmpN_ge ?_
    refine Nat.le_of_mul_le_mul_right ?_ z3
    have e : sn * d1 * d3 = n1 * sd * d3 + n3 * d1 * sd := by grind
    omega
  have k2 : decide (cmpF (ofN pn) (ofN pd) (ofN n1) (ofN d1) ≤ 0) = true := by
    rw [cmpF_of cp c1]
    refine cmpN_le ?_
    refine Nat.le_of_mul_le_mul_right ?_ z2
    have e : pn * d1 * d2 = n1 * pd * n2 := by grind
    rw [e]
    exact Nat.mul_le_mul_left _ (Nat.le_of_lt lt2)
  refine Stop.go ?_
  (replace hb0 := true_and True); refine Go1.mk ?_; repeat' ((first | (with_reducible refine Go1.go ?_) | ((with_reducible first | refine brv_mk ?_ ?_ | refine gsplitD ?_ ?_ | refine gsplitG ?_ ?_) <;> intro h <;> (try simp only [Bool.not_eq_true', Bool.not_eq_false'] at h) <;> replace hb0 := h) | ((first | (with_reducible refine isCall (f := 26) ?_; refine callA_nil (by kernel_rfl) ?_) | (with_reducible refine isCall0 (f := 26) ?_; refine callA0_nil (by kernel_rfl) ?_)); refine (fmul_ok ⟨ha1, hb1, okN_ofN _, okN_ofN _, by omega, by omega⟩ ⟨ha2, hb2, okN_ofN _, okN_ofN _, by omega, by omega⟩ (fun wp wP M4 m4 hp hP fp fP => Stop.mk ?_))) | (refine And.intro ?ob ?_; case ob => ((try simp only [sxO, ne_eq, maxLen] at *); omega)) | fail) <;> (try simp (config := { maxSteps := 1000000 }) only [hb0, ha1.one, hb1.one, ha2.one, hb2.one, ha3.one, hb3.one, ↓hold_pre, awayP, runOps, regK, step1, newK, genR, appR, obl, buildR, Value.cells, closeK, keepH, outV, retK, ret1, retC, RetV, Option.getD, runD, stepD, afterK, undef, simprocAttr, sxB, ↓sxD, sxE, sxTab]))
  have m4 : Mem.le M3 M4 := m4
  have ha1 := ha1.le m4
  have hb1 := hb1.le m4
  have ha2 := ha2.le m4
  have hb2 := hb2.le m4
  have ha3 := ha3.le m4
  have hb3 := hb3.le m4
  have fp := fp.le hm
  have fP := fP.le hm
  have hm := hm.trans m4
  rw [ep'] at hp hP ⊢
  have hp : IsL M4 u32V wp (ofN pn) := hp
  have hP : IsL M4 u32V wP (ofN pd) := hP
  refine Stop.go ?_
  (replace hb0 := true_and True); refine Go1.mk ?_; repeat' ((first | (with_reducible refine Go1.go ?_) | ((with_reducible first | refine brv_mk ?_ ?_ | refine gsplitD ?_ ?_ | refine gsplitG ?_ ?_) <;> intro h <;> (try simp only [Bool.not_eq_true', Bool.not_eq_false'] at h) <;> replace hb0 := h) | ((first | (with_reducible refine isCall (f := 28) ?_; refine callA_nil (by kernel_rfl) ?_) | (with_reducible refine isCall0 (f := 28) ?_; refine callA0_nil (by kernel_rfl) ?_)); refine (fdiv_ok ⟨hp, hP, okN_ofN _, okN_ofN _, by omega, by omega⟩ ⟨ha2, hb2, okN_ofN _, okN_ofN _, by omega, by omega⟩ (fun wq wQ M5 m5 hq hQ fq fQ => Stop.mk ?_))) | (refine And.intro ?ob ?_; case ob => ((try simp only [sxO, ne_eq, maxLen] at *); omega)) | fail) <;> (try simp (config := { maxSteps := 1000000 }) only [hb0, ha1.one, hb1.one, ha2.one, hb2.one, ha3.one, hb3.one, hp.one, hP.one, ↓hold_pre, awayP, runOps, regK, step1, newK, genR, appR, obl, buildR, Value.cells, closeK, keepH, outV, retK, ret1, retC, RetV, Option.getD, runD, stepD, afterK, undef, simprocAttr, sxB, ↓sxD, sxE, sxTab]))
  have m5 : Mem.le M4 M5 := m5
  have ha1 := ha1.le m5
  have hb1 := hb1.le m5
  have ha2 := ha2.le m5
  have hb2 := hb2.le m5
  have ha3 := ha3.le m5
  have hb3 := hb3.le m5
  have hp := hp.le m5
  have hP := hP.le m5
  have fq := fq.le hm
  have fQ := fQ.le hm
  have hm := hm.trans m5
  rw [eq'] at hq hQ ⊢
  have hq : IsL M5 u32V wq (ofN n1) := hq
  have hQ : IsL M5 u32V wQ (ofN d1) := hQ
  refine Stop.go ?_
  (replace hb0 := true_and True); refine Go1.mk ?_; repeat' ((first | (with_reducible refine Go1.go ?_) | ((with_reducible first | refine brv_mk ?_ ?_ | refine gsplitD ?_ ?_ | refine gsplitG ?_ ?_) <;> intro h <;> (try simp only [Bool.not_eq_true', Bool.not_eq_false'] at h) <;> replace hb0 := h) | ((first | (with_reducible refine isCall (f := 22) ?_; refine callA_nil (by kernel_rfl) ?_) | (with_reducible refine isCall0 (f := 22) ?_; refine callA0_nil (by kernel_rfl) ?_)); refine (fadd_ok ⟨ha1, hb1, okN_ofN _, okN_ofN _, by omega, by omega⟩ ⟨ha3, hb3, okN_ofN _, okN_ofN _, by omega, by omega⟩ (fun ws wS M6 m6 hs hS fs fS => Stop.mk ?_))) | (refine And.intro ?ob ?_; case ob => ((try simp only [sxO, ne_eq, maxLen] at *); omega)) | fail) <;> (try simp (config := { maxSteps := 1000000 }) only [hb0, ha1.one, hb1.one, ha2.one, hb2.one, ha3.one, hb3.one, hp.one, hP.one, hq.one, hQ.one, ↓hold_pre, awayP, runOps, regK, step1, newK, genR, appR, obl, buildR, Value.cells, closeK, keepH, outV, retK, ret1, retC, RetV, Option.getD, runD, stepD, afterK, undef, simprocAttr, sxB, ↓sxD, sxE, sxTab]))
  have m6 : Mem.le M5 M6 := m6
  have ha1 := ha1.le m6
  have hb1 := hb1.le m6
  have ha2 := ha2.le m6
  have hb2 := hb2.le m6
  have ha3 := ha3.le m6
  have hb3 := hb3.le m6
  have hp := hp.le m6
  have hP := hP.le m6
  have hq := hq.le m6
  have hQ := hQ.le m6
  have fs := fs.le hm
  have fS := fS.le hm
  have hm := hm.trans m6
  rw [es'] at hs hS ⊢
  have hs : IsL M6 u32V ws (ofN sn) := hs
  have hS : IsL M6 u32V wS (ofN sd) := hS
  refine Stop.go ?_
  (replace hb0 := true_and True); refine Go1.mk ?_; repeat' ((first | (with_reducible refine Go1.go ?_) | ((with_reducible first | refine brv_mk ?_ ?_ | refine gsplitD ?_ ?_ | refine gsplitG ?_ ?_) <;> intro h <;> (try simp only [Bool.not_eq_true', Bool.not_eq_false'] at h) <;> replace hb0 := h) | ((first | (with_reducible refine isCall (f := 24) ?_; refine callA_nil (by kernel_rfl) ?_) | (with_reducible refine isCall0 (f := 24) ?_; refine callA0_nil (by kernel_rfl) ?_)); refine (fsub_ok ⟨hs, hS, okN_ofN _, okN_ofN _, by omega, by omega⟩ ⟨ha3, hb3, okN_ofN _, okN_ofN _, by omega, by omega⟩ (fun wd wD M7 m7 hd hD fd fD => Stop.mk ?_))) | (refine And.intro ?ob ?_; case ob => ((try simp only [sxO, ne_eq, maxLen] at *); omega)) | fail) <;> (try simp (config := { maxSteps := 1000000 }) only [hb0, ha1.one, hb1.one, ha2.one, hb2.one, ha3.one, hb3.one, hp.one, hP.one, hq.one, hQ.one, hs.one, hS.one, ↓hold_pre, awayP, runOps, regK, step1, newK, genR, appR, obl, buildR, Value.cells, closeK, keepH, outV, retK, ret1, retC, RetV, Option.getD, runD, stepD, afterK, undef, simprocAttr, sxB, ↓sxD, sxE, sxTab]))
  have m7 : Mem.le M6 M7 := m7
  have ha1 := ha1.le m7
  have hb1 := hb1.le m7
  have ha2 := ha2.le m7
  have hb2 := hb2.le m7
  have ha3 := ha3.le m7
  have hb3 := hb3.le m7
  have hp := hp.le m7
  have hP := hP.le m7
  have hq := hq.le m7
  have hQ := hQ.le m7
  have hs := hs.le m7
  have hS := hS.le m7
  have fd := fd.le hm
  have fD := fD.le hm
  have hm := hm.trans m7
  rw [ed'] at hd hD ⊢
  have hd : IsL M7 u32V wd (ofN n1) := hd
  have hD : IsL M7 u32V wD (ofN d1) := hD
  refine Stop.go ?_
  (replace hb0 := true_and True); refine Go1.mk ?_; repeat' ((first | (with_reducible refine Go1.go ?_) | ((with_reducible first | refine brv_mk ?_ ?_ | refine gsplitD ?_ ?_ | refine gsplitG ?_ ?_) <;> intro h <;> (try simp only [Bool.not_eq_true', Bool.not_eq_false'] at h) <;> replace hb0 := h) | ((first | (with_reducible refine isCall (f := 26) ?_; refine callA_nil (by kernel_rfl) ?_) | (with_reducible refine isCall0 (f := 26) ?_; refine callA0_nil (by kernel_rfl) ?_)); refine (fmul_ok ⟨hs, hS, okN_ofN _, okN_ofN _, by omega, by omega⟩ ⟨ha2, hb2, okN_ofN _, okN_ofN _, by omega, by omega⟩ (fun wu wU M8 m8 hu hU fu fU => Stop.mk ?_))) | (refine And.intro ?ob ?_; case ob => ((try simp only [sxO, ne_eq, maxLen] at *); omega)) | fail) <;> (try simp (config := { maxSteps := 1000000 }) only [hb0, ha1.one, hb1.one, ha2.one, hb2.one, ha3.one, hb3.one, hp.one, hP.one, hq.one, hQ.one, hs.one, hS.one, hd.one, hD.one, ↓hold_pre, awayP, runOps, regK, step1, newK, genR, appR, obl, buildR, Value.cells, closeK, keepH, outV, retK, ret1, retC, RetV, Option.getD, runD, stepD, afterK, undef, simprocAttr, sxB, ↓sxD, sxE, sxTab]))
  have m8 : Mem.le M7 M8 := m8
  have ha1 := ha1.le m8
  have hb1 := hb1.le m8
  have ha2 := ha2.le m8
  have hb2 := hb2.le m8
  have ha3 := ha3.le m8
  have hb3 := hb3.le m8
  have hp := hp.le m8
  have hP := hP.le m8
  have hq := hq.le m8
  have hQ := hQ.le m8
  have hs := hs.le m8
  have hS := hS.le m8
  have hd := hd.le m8
  have hD := hD.le m8
  have fu := fu.le hm
  have fU := fU.le hm
  have hm := hm.trans m8
  rw [eu'] at hu hU ⊢
  have hu : IsL M8 u32V wu (ofN un) := hu
  have hU : IsL M8 u32V wU (ofN ud) := hU
  refine Stop.go ?_
  (replace hb0 := true_and True); refine Go1.mk ?_; repeat' ((first | (with_reducible refine Go1.go ?_) | ((with_reducible first | refine brv_mk ?_ ?_ | refine gsplitD ?_ ?_ | refine gsplitG ?_ ?_) <;> intro h <;> (try simp only [Bool.not_eq_true', Bool.not_eq_false'] at h) <;> replace hb0 := h) | ((first | (with_reducible refine isCall (f := 26) ?_; refine callA_nil (by kernel_rfl) ?_) | (with_reducible refine isCall0 (f := 26) ?_; refine callA0_nil (by kernel_rfl) ?_)); refine (fmul_ok ⟨ha3, hb3, okN_ofN _, okN_ofN _, by omega, by omega⟩ ⟨ha2, hb2, okN_ofN _, okN_ofN _, by omega, by omega⟩ (fun wv wV M9 m9 hv hV fv fV => Stop.mk ?_))) | (refine And.intro ?ob ?_; case ob => ((try simp only [sxO, ne_eq, maxLen] at *); omega)) | fail) <;> (try simp (config := { maxSteps := 1000000 }) only [hb0, ha1.one, hb1.one, ha2.one, hb2.one, ha3.one, hb3.one, hp.one, hP.one, hq.one, hQ.one, hs.one, hS.one, hd.one, hD.one, hu.one, hU.one, ↓hold_pre, awayP, runOps, regK, step1, newK, genR, appR, obl, buildR, Value.cells, closeK, keepH, outV, retK, ret1, retC, RetV, Option.getD, runD, stepD, afterK, undef, simprocAttr, sxB, ↓sxD, sxE, sxTab]))
  have m9 : Mem.le M8 M9 := m9
  have ha1 := ha1.le m9
  have hb1 := hb1.le m9
  have ha2 := ha2.le m9
  have hb2 := hb2.le m9
  have ha3 := ha3.le m9
  have hb3 := hb3.le m9
  have hp := hp.le m9
  have hP := hP.le m9
  have hq := hq.le m9
  have hQ := hQ.le m9
  have hs := hs.le m9
  have hS := hS.le m9
  have hd := hd.le m9
  have hD := hD.le m9
  have hu := hu.le m9
  have hU := hU.le m9
  have fv := fv.le hm
  have fV := fV.le hm
  have hm := hm.trans m9
  rw [ev'] at hv hV ⊢
  have hv : IsL M9 u32V wv (ofN vn) := hv
  have hV : IsL M9 u32V wV (ofN vd) := hV
  refine Stop.go ?_
  (replace hb0 := true_and True); refine Go1.mk ?_; repeat' ((first | (with_reducible refine Go1.go ?_) | ((with_reducible first | refine brv_mk ?_ ?_ | refine gsplitD ?_ ?_ | refine gsplitG ?_ ?_) <;> intro h <;> (try simp only [Bool.not_eq_true', Bool.not_eq_false'] at h) <;> replace hb0 := h) | ((first | (with_reducible refine isCall (f := 22) ?_; refine callA_nil (by kernel_rfl) ?_) | (with_reducible refine isCall0 (f := 22) ?_; refine callA0_nil (by kernel_rfl) ?_)); refine (fadd_ok ⟨hp, hP, okN_ofN _, okN_ofN _, by omega, by omega⟩ ⟨hv, hV, okN_ofN _, okN_ofN _, by omega, by omega⟩ (fun ww wW M10 m10 hw hW fw fW => Stop.mk ?_))) | (refine And.intro ?ob ?_; case ob => ((try simp only [sxO, ne_eq, maxLen] at *); omega)) | fail) <;> (try simp (config := { maxSteps := 1000000 }) only [hb0, ha1.one, hb1.one, ha2.one, hb2.one, ha3.one, hb3.one, hp.one, hP.one, hq.one, hQ.one, hs.one, hS.one, hd.one, hD.one, hu.one, hU.one, hv.one, hV.one, ↓hold_pre, awayP, runOps, regK, step1, newK, genR, appR, obl, buildR, Value.cells, closeK, keepH, outV, retK, ret1, retC, RetV, Option.getD, runD, stepD, afterK, undef, simprocAttr, sxB, ↓sxD, sxE, sxTab]))
  have m10 : Mem.le M9 M10 := m10
  have ha1 := ha1.le m10
  have hb1 := hb1.le m10
  have ha2 := ha2.le m10
  have hb2 := hb2.le m10
  have ha3 := ha3.le m10
  have hb3 := hb3.le m10
  have hp := hp.le m10
  have hP := hP.le m10
  have hq := hq.le m10
  have hQ := hQ.le m10
  have hs := hs.le m10
  have hS := hS.le m10
  have hd := hd.le m10
  have hD := hD.le m10
  have hu := hu.le m10
  have hU := hU.le m10
  have hv := hv.le m10
  have hV := hV.le m10
  have fw := fw.le hm
  have fW := fW.le hm
  have hm := hm.trans m10
  rw [ew'] at hw hW ⊢
  have hw : IsL M10 u32V ww (ofN un) := hw
  have hW : IsL M10 u32V wW (ofN ud) := hW
  refine Stop.go ?_
  (replace hb0 := true_and True); refine Go1.mk ?_; repeat' ((first | (with_reducible refine Go1.go ?_) | ((with_reducible first | refine brv_mk ?_ ?_ | refine gsplitD ?_ ?_ | refine gsplitG ?_ ?_) <;> intro h <;> (try simp only [Bool.not_eq_true', Bool.not_eq_false'] at h) <;> replace hb0 := h) | ((first | (with_reducible refine isCall (f := 32) ?_; refine callA_nil (by kernel_rfl) ?_) | (with_reducible refine isCall0 (f := 32) ?_; refine callA0_nil (by kernel_rfl) ?_)); refine (sameFrac_ok hq hQ ha1 hb1 (by omega) (by omega) ?_)) | ((first | (with_reducible refine isCall (f := 32) ?_; refine callA_nil (by kernel_rfl) ?_) | (with_reducible refine isCall0 (f := 32) ?_; refine callA0_nil (by kernel_rfl) ?_)); refine (sameFrac_ok hd hD ha1 hb1 (by omega) (by omega) ?_)) | ((first | (with_reducible refine isCall (f := 32) ?_; refine callA_nil (by kernel_rfl) ?_) | (with_reducible refine isCall0 (f := 32) ?_; refine callA0_nil (by kernel_rfl) ?_)); refine (sameFrac_ok hu hU hw hW (by omega) (by omega) ?_)) | ((first | (with_reducible refine isCall (f := 20) ?_; refine callA_nil (by kernel_rfl) ?_) | (with_reducible refine isCall0 (f := 20) ?_; refine callA0_nil (by kernel_rfl) ?_)); refine (fcmp_ok ⟨hs, hS, okN_ofN _, okN_ofN _, by omega, by omega⟩ ⟨ha1, hb1, okN_ofN _, okN_ofN _, by omega, by omega⟩ (fun M11 m11 => Stop.mk ?_))) | (refine And.intro ?ob ?_; case ob => ((try simp only [sxO, ne_eq, maxLen] at *); omega)) | fail) <;> (try simp (config := { maxSteps := 1000000 }) only [hb0, ha1.one, hb1.one, ha2.one, hb2.one, ha3.one, hb3.one, hp.one, hP.one, hq.one, hQ.one, hs.one, hS.one, hd.one, hD.one, hu.one, hU.one, hv.one, hV.one, hw.one, hW.one, ↓hold_pre, awayP, runOps, regK, step1, newK, genR, appR, obl, buildR, Value.cells, closeK, keepH, outV, retK, ret1, retC, RetV, Option.getD, runD, stepD, afterK, undef, simprocAttr, sxB, ↓sxD, sxE, sxTab]))
  have m11 : Mem.le M10 M11 := m11
  have ha1 := ha1.le m11
  have hb1 := hb1.le m11
  have ha2 := ha2.le m11
  have hb2 := hb2.le m11
  have ha3 := ha3.le m11
  have hb3 := hb3.le m11
  have hp := hp.le m11
  have hP := hP.le m11
  have hq := hq.le m11
  have hQ := hQ.le m11
  have hs := hs.le m11
  have hS := hS.le m11
  have hd := hd.le m11
  have hD := hD.le m11
  have hu := hu.le m11
  have hU := hU.le m11
  have hv := hv.le m11
  have hV := hV.le m11
  have hw := hw.le m11
  have hW := hW.le m11
  have hm := hm.trans m11
  refine Stop.go ?_
  (replace hb0 := true_and True); refine Go1.mk ?_; repeat' ((first | (with_reducible refine Go1.go ?_) | ((with_reducible first | refine brv_mk ?_ ?_ | refine gsplitD ?_ ?_ | refine gsplitG ?_ ?_) <;> intro h <;> (try simp only [Bool.not_eq_true', Bool.not_eq_false'] at h) <;> replace hb0 := h) | ((first | (with_reducible refine isCall (f := 20) ?_; refine callA_nil (by kernel_rfl) ?_) | (with_reducible refine isCall0 (f := 20) ?_; refine callA0_nil (by kernel_rfl) ?_)); refine (fcmp_ok ⟨hp, hP, okN_ofN _, okN_ofN _, by omega, by omega⟩ ⟨ha1, hb1, okN_ofN _, okN_ofN _, by omega, by omega⟩ (fun M12 m12 => Stop.mk ?_))) | (refine And.intro ?ob ?_; case ob => ((try simp only [sxO, ne_eq, maxLen] at *); omega)) | fail) <;> (try simp (config := { maxSteps := 1000000 }) only [hb0, ha1.one, hb1.one, ha2.one, hb2.one, ha3.one, hb3.one, hp.one, hP.one, hq.one, hQ.one, hs.one, hS.one, hd.one, hD.one, hu.one, hU.one, hv.one, hV.one, hw.one, hW.one, k1, ↓hold_pre, awayP, runOps, regK, step1, newK, genR, appR, obl, buildR, Value.cells, closeK, keepH, outV, retK, ret1, retC, RetV, Option.getD, runD, stepD, afterK, undef, simprocAttr, sxB, ↓sxD, sxE, sxTab]))
  have m12 : Mem.le M11 M12 := m12
  have ha1 := ha1.le m12
  have hb1 := hb1.le m12
  have ha2 := ha2.le m12
  have hb2 := hb2.le m12
  have ha3 := ha3.le m12
  have hb3 := hb3.le m12
  have hp := hp.le m12
  have hP := hP.le m12
  have hq := hq.le m12
  have hQ := hQ.le m12
  have hs := hs.le m12
  have hS := hS.le m12
  have hd := hd.le m12
  have hD := hD.le m12
  have hu := hu.le m12
  have hU := hU.le m12
  have hv := hv.le m12
  have hV := hV.le m12
  have hw := hw.le m12
  have hW := hW.le m12
  have hm := hm.trans m12
  refine Stop.go ?_
  (replace hb0 := true_and True); refine Go1.mk ?_; repeat' ((first | (with_reducible refine Go1.go ?_) | ((with_reducible first | refine brv_mk ?_ ?_ | refine gsplitD ?_ ?_ | refine gsplitG ?_ ?_) <;> intro h <;> (try simp only [Bool.not_eq_true', Bool.not_eq_false'] at h) <;> replace hb0 := h) | ((first | (with_reducible refine isCall (f := 18) ?_; refine callA_nil (by kernel_rfl) ?_) | (with_reducible refine isCall0 (f := 18) ?_; refine callA0_nil (by kernel_rfl) ?_)); refine (awake02_ok (fun M13 m13 => Stop.mk ?_))) | (refine And.intro ?ob ?_; case ob => ((try simp only [sxO, ne_eq, maxLen] at *); omega)) | fail) <;> (try simp (config := { maxSteps := 1000000 }) only [hb0, ha1.one, hb1.one, ha2.one, hb2.one, ha3.one, hb3.one, hp.one, hP.one, hq.one, hQ.one, hs.one, hS.one, hd.one, hD.one, hu.one, hU.one, hv.one, hV.one, hw.one, hW.one, k2, ↓hold_pre, awayP, runOps, regK, step1, newK, genR, appR, obl, buildR, Value.cells, closeK, keepH, outV, retK, ret1, retC, RetV, Option.getD, runD, stepD, afterK, undef, simprocAttr, sxB, ↓sxD, sxE, sxTab]))
  have m13 : Mem.le M12 M13 := m13
  have ha1 := ha1.le m13
  have hb1 := hb1.le m13
  have ha2 := ha2.le m13
  have hb2 := hb2.le m13
  have ha3 := ha3.le m13
  have hb3 := hb3.le m13
  have hp := hp.le m13
  have hP := hP.le m13
  have hq := hq.le m13
  have hQ := hQ.le m13
  have hs := hs.le m13
  have hS := hS.le m13
  have hd := hd.le m13
  have hD := hD.le m13
  have hu := hu.le m13
  have hU := hU.le m13
  have hv := hv.le m13
  have hV := hV.le m13
  have hw := hw.le m13
  have hW := hW.le m13
  have hm := hm.trans m13
  refine Stop.go ?_
  (replace hb0 := true_and True); refine Go1.mk ?_; repeat' ((first | (with_reducible refine Go1.go ?_) | ((with_reducible first | refine brv_mk ?_ ?_ | refine gsplitD ?_ ?_ | refine gsplitG ?_ ?_) <;> intro h <;> (try simp only [Bool.not_eq_true', Bool.not_eq_false'] at h) <;> replace hb0 := h) | (refine And.intro ?ob ?_; case ob => ((try simp only [sxO, ne_eq, maxLen] at *); omega)) | fail) <;> (try simp (config := { maxSteps := 1000000 }) only [hb0, ha1.one, hb1.one, ha2.one, hb2.one, ha3.one, hb3.one, hp.one, hP.one, hq.one, hQ.one, hs.one, hS.one, hd.one, hD.one, hu.one, hU.one, hv.one, hV.one, hw.one, hW.one, ↓hold_pre, awayP, runOps, regK, step1, newK, genR, appR, obl, buildR, Value.cells, closeK, keepH, outV, retK, ret1, retC, RetV, Option.getD, runD, stepD, afterK, undef, simprocAttr, sxB, ↓sxD, sxE, sxTab]))
  exact hK _ hm
end
end Go.Proofs.YtamghpnjdohnjaaDoor.Sx
