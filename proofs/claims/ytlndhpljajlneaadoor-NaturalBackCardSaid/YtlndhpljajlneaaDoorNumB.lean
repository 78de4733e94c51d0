import Derived.Test.YtlndhpljajlneaaDoorNumA
/- Numbers: what the program makes of any lists of limbs. -/
namespace Go.Proofs.YtlndhpljajlneaaDoor.Sx
open Go Go.RowKit
set_option linter.unusedVariables false
set_option linter.unusedSimpArgs false
set_option maxRecDepth 100000
set_option maxHeartbeats 8000000
attribute [local congr] fin_congr finG_congr stepG_congr step1_congr runOps_congr brv_congr obl_congr condK_congr LoopK_congr seqK_congr CutK_congr vc_congr DrawK_congr regK_congr CallK_congr AskK_congr newK_congr retC_congr ret1_congr retK_congr outV_congr closeK_congr genR_congr appR_congr finD_congr finGD_congr stepGD_congr stepD_congr CallK0_congr runD_congr okR_congr CallS_congr vcX_congr
attribute [local congr] Stop_congr
def NatR (M : Mem) (K : AV → Hp → Mem → Prop) (r : Int × List Nat) : Prop := ∀ w M', Mem.le M M' → IsL M' u32V w r.2 → FreshS M w → K (.ext (.tuple #[w, .int .i64 r.1])) [] M'
def limR (n : Nat) : Int × List Nat := if (ofN n).length ≤ 128 then (0, ofN n) else (2, [])
def addR (a b : List Nat) : Int × List Nat := if chkN a && chkN b then limR (valN a + valN b) else (1, [])
def subR (a b : List Nat) : Int × List Nat := if chkN a && chkN b then (if valN a < valN b then (5, []) else (0, ofN (valN a - valN b))) else (1, [])
def mulR (a b : List Nat) : Int × List Nat := if chkN a && chkN b then limR (valN a * valN b) else (1, [])
def gcdR (a b : List Nat) : Int × List Nat := if chkN a && chkN b then (0, ofN (Nat.gcd (valN a) (valN b))) else (1, [])
def powR (a : List Nat) (n : Int) : Int × List Nat := if chkN a then (if n < 0 ∨ 65536 < n then (3, []) else limR (valN a ^ n.toNat)) else (1, [])
def divR (a b : List Nat) : Int × List Nat × List Nat := if chkN a && chkN b then (if valN b = 0 then (4, [], []) else (0, ofN (valN a / valN b), ofN (valN a % valN b))) else (1, [], [])
def cmpR (a b : List Nat) : Int := if chkN a && chkN b then cmpN (valN a) (valN b) else 0
def bitsR (a : List Nat) : Nat := if chkN a then (if a.length = 0 then 0 else 32 * (a.length - 1) + blen (a.getD (a.length - 1) 0)) else 0
def uintR (a : List Nat) : Nat × Bool := if chkN a && decide (a.length ≤ 2) then (valN a, true) else (0, false)
section
variable {M : Mem} {K : AV → Hp → Mem → Prop}
theorem NatR.err (e : Int) (h : NatR M K (e, [])) : K (.ext (.tuple #[.slice none 0 0, .int .i64 e])) [] M := h _ _ (Mem.le.refl _) (isL_nil _ _ _) (freshS_nil _ _)
theorem natOf_ok (n : Nat) (hn : n < 18446744073709551616) (hK : NatK M K n) : CallS Tryd.prog 13 [.ext (.int .u64 (n : Int))] [] M [] K := by
  refine inlS (cs := []) Tryd.mixed Tryd.func13 rfl (by kernel_rfl) 0 rfl rfl ?_
  simp only [Tryd.f13]
  (replace hb0 := true_and True); refine Go1.mk ?_; repeat' ((first | (with_reducible refine Go1.go ?_) | ((with_reducible first | refine brv_mk ?_ ?_ | refine gsplitD ?_ ?_ | refine gsplitG ?_ ?_) <;> intro h <;> (try simp only [Bool.not_eq_true', Bool.not_eq_false'] at h) <;> replace hb0 := h) | ((first | (with_reducible refine isCall (f := 40) ?_; refine callA_nil (by kernel_rfl) ?_) | (with_reducible refine isCall0 (f := 40) ?_; refine callA0_nil (by kernel_rfl) ?_)); refine (of_ok n hn (fun w M' h1 h2 h3 => Stop.mk ?_))) | (refine And.intro ?ob ?_; case ob => ((try simp only [sxO, ne_eq, maxLen] at *); omega)) | fail) <;> (try simp (config := { maxSteps := 1000000 }) only [hb0, ↓hold_pre, awayP, runOps, regK, step1, newK, genR, appR, obl, buildR, Value.cells, closeK, keepH, outV, retK, ret1, retC, RetV, Option.getD, runD, stepD, afterK, undef, simprocAttr, sxB, ↓sxD, sxE, sxTab]))
  refine Stop.go ?_
  (replace hb0 := true_and True); refine Go1.mk ?_; repeat' ((first | (with_reducible refine Go1.go ?_) | ((with_reducible first | refine brv_mk ?_ ?_ | refine gsplitD ?_ ?_ | refine gsplitG ?_ ?_) <;> intro h <;> (try simp only [Bool.not_eq_true', Bool.not_eq_false'] at h) <;> replace hb0 := h) | (refine And.intro ?ob ?_; case ob => ((try simp only [sxO, ne_eq, maxLen] at *); omega)) | fail) <;> (try simp (config := { maxSteps := 1000000 }) only [hb0, h2.one, ↓hold_pre, awayP, runOps, regK, step1, newK, genR, appR, obl, buildR, Value.cells, closeK, keepH, outV, retK, ret1, retC, RetV, Option.getD, runD, stepD, afterK, undef, simprocAttr, sxB, ↓sxD, sxE, sxTab]))
  exact hK _ _ h1 h2 h3
theorem limit_ok (w : Value) (n : Nat) (hw : IsL M u32V w (ofN n)) (hK1 : (ofN n).length ≤ 128 → K (.ext (.tuple #[w, .int .i64 0])) [] M) (hK2 : 128 < (ofN n).length → K (.ext (.tuple #[.slice none 0 0, .int .i64 2])) [] M) : CallS Tryd.prog 55 [.ext w] [] M [] K := by
  refine inlS (cs := []) Tryd.mixed Tryd.func55 rfl (by kernel_rfl) 0 rfl rfl ?_
  simp only [Tryd.f55]
  by_cases h : (ofN n).length ≤ 128
  · have d1 : decide ((128 : Int) < ((ofN n).length : Int)) = false := by simp; omega
    (replace hb0 := true_and True); refine Go1.mk ?_; repeat' ((first | (with_reducible refine Go1.go ?_) | ((with_reducible first | refine brv_mk ?_ ?_ | refine gsplitD ?_ ?_ | refine gsplitG ?_ ?_) <;> intro h <;> (try simp only [Bool.not_eq_true', Bool.not_eq_false'] at h) <;> replace hb0 := h) | (refine And.intro ?ob ?_; case ob => ((try simp only [sxO, ne_eq, maxLen] at *); omega)) | fail) <;> (try simp (config := { maxSteps := 1000000 }) only [hb0, hw.one, hw.len, hw.sl, d1, ↓hold_pre, awayP, runOps, regK, step1, newK, genR, appR, obl, buildR, Value.cells, closeK, keepH, outV, retK, ret1, retC, RetV, Option.getD, runD, stepD, afterK, undef, simprocAttr, sxB, ↓sxD, sxE, sxTab]))
    exact hK1 h
  · have d1 : decide ((128 : Int) < ((ofN n).length : Int)) = true := by simp; omega
    (replace hb0 := true_and True); refine Go1.mk ?_; repeat' ((first | (with_reducible refine Go1.go ?_) | ((with_reducible first | refine brv_mk ?_ ?_ | refine gsplitD ?_ ?_ | refine gsplitG ?_ ?_) <;> intro h <;> (try simp only [Bool.not_eq_true', Bool.not_eq_false'] at h) <;> replace hb0 := h) | (refine And.intro ?ob ?_; case ob => ((try simp only [sxO, ne_eq, maxLen] at *); omega)) | fail) <;> (try simp (config := { maxSteps := 1000000 }) only [hb0, hw.one, hw.len, hw.sl, d1, ↓hold_pre, awayP, runOps, regK, step1, newK, genR, appR, obl, buildR, Value.cells, closeK, keepH, outV, retK, ret1, retC, RetV, Option.getD, runD, stepD, afterK, undef, simprocAttr, sxB, ↓sxD, sxE, sxTab]))
    exact hK2 (by omega)
theorem NatR.lim {n : Nat} {w : Value} {M1 : Mem} {MM : Mem} {KK : AV → Hp → Mem → Prop} (h : NatR MM KK (limR n)) (h1 : Mem.le MM M1) (h2 : IsL M1 u32V w (ofN n)) (h3 : FreshS MM w) :
    ((ofN n).length ≤ 128 → KK (.ext (.tuple #[w, .int .i64 0])) [] M1) ∧ (128 < (ofN n).length → KK (.ext (.tuple #[.slice none 0 0, .int .i64 2])) [] M1) := by
  unfold limR at h
  constructor
  · intro hl; rw [if_pos hl] at h; exact h _ _ h1 h2 h3
  · intro hl; rw [if_neg (by omega)] at h; exact h _ _ h1 (isL_nil _ _ _) (freshS_nil _ _)
variable {u v : Value} {l1 l2 : List Nat}
theorem natAdd_ok (hu : IsL M u32V u l1) (hv : IsL M u32V v l2) (h1 : okN l1) (h2 : okN l2) (hb1 : l1.length < 1000000) (hb2 : l2.length < 1000000) (hK : NatR M K (addR l1 l2)) : CallS Tryd.prog 30 [.ext u, .ext v] [] M [] K := by
  refine inlS (cs := []) Tryd.mixed Tryd.func30 rfl (by kernel_rfl) 0 rfl rfl ?_
  simp only [Tryd.f30]
  unfold addR at hK
  cases hc : (chkN l1 && chkN l2) with
  | false =>
    rw [hc] at hK
    (replace hb0 := true_and True); refine Go1.mk ?_; repeat' ((first | (with_reducible refine Go1.go ?_) | ((with_reducible first | refine brv_mk ?_ ?_ | refine gsplitD ?_ ?_ | refine gsplitG ?_ ?_) <;> intro h <;> (try simp only [Bool.not_eq_true', Bool.not_eq_false'] at h) <;> replace hb0 := h) | ((with_reducible refine isCall (f := 43) ?_); refine callA ?_) | ((with_reducible refine isCall0 (f := 43) ?_); refine callA0 ?_) | ((with_reducible refine isCallS (f := 43) ?_); refine (all_ok 8 (by omega) u v l1 l2 hu hv (by omega) (by omega) ?_)) | (refine And.intro ?ob ?_; case ob => ((try simp only [sxO, ne_eq, maxLen] at *); omega)) | fail) <;> (try simp (config := { maxSteps := 1000000 }) only [hb0, cE_ment, hasK_nil, cE_kill, cE_len, u32_one, u32_app1, u32_set, Nat.mul_one, hu.one, hv.one, hc, ↓hold_pre, awayP, runOps, regK, step1, newK, genR, appR, obl, buildR, Value.cells, closeK, keepH, outV, retK, ret1, retC, RetV, Option.getD, runD, stepD, afterK, undef, simprocAttr, sxB, ↓sxD, sxE, sxTab]))
    exact NatR.err _ hK
  | true =>
    rw [hc, if_pos rfl] at hK
    obtain ⟨c1, c2⟩ := Bool.and_eq_true_iff.1 hc
    obtain ⟨e1, b1⟩ := chkN_ok h1 c1
    obtain ⟨e2, b2⟩ := chkN_ok h2 c2
    have hu' := hu
    have hv' := hv
    rw [e1] at hu'
    rw [e2] at hv'
    (replace hb0 := true_and True); refine Go1.mk ?_; repeat' ((first | (with_reducible refine Go1.go ?_) | ((with_reducible first | refine brv_mk ?_ ?_ | refine gsplitD ?_ ?_ | refine gsplitG ?_ ?_) <;> intro h <;> (try simp only [Bool.not_eq_true', Bool.not_eq_false'] at h) <;> replace hb0 := h) | ((with_reducible refine isCall (f := 43) ?_); refine callA ?_) | ((with_reducible refine isCall0 (f := 43) ?_); refine callA0 ?_) | ((with_reducible refine isCallS (f := 43) ?_); refine (all_ok 8 (by omega) u v l1 l2 hu hv (by omega) (by omega) ?_)) | ((first | (with_reducible refine isCall (f := 53) ?_; refine callA_nil (by kernel_rfl) ?_) | (with_reducible refine isCall0 (f := 53) ?_; refine callA0_nil (by kernel_rfl) ?_)); refine (add_ok u v _ _ hu' hv' (by rw [← e1]; omega) (by rw [← e2]; omega) (fun w M' a1 a2 a3 => Stop.mk ?_))) | (refine And.intro ?ob ?_; case ob => ((try simp only [sxO, ne_eq, maxLen] at *); omega)) | fail) <;> (try simp (config := { maxSteps := 1000000 }) only [hb0, cE_ment, hasK_nil, cE_kill, cE_len, u32_one, u32_app1, u32_set, Nat.mul_one, hu.one, hv.one, hc, ↓hold_pre, awayP, runOps, regK, step1, newK, genR, appR, obl, buildR, Value.cells, closeK, keepH, outV, retK, ret1, retC, RetV, Option.getD, runD, stepD, afterK, undef, simprocAttr, sxB, ↓sxD, sxE, sxTab]))
    refine Stop.go ?_
    obtain ⟨k1, k2⟩ := hK.lim a1 a2 a3
    (replace hb0 := true_and True); refine Go1.mk ?_; repeat' ((first | (with_reducible refine Go1.go ?_) | ((with_reducible first | refine brv_mk ?_ ?_ | refine gsplitD ?_ ?_ | refine gsplitG ?_ ?_) <;> intro h <;> (try simp only [Bool.not_eq_true', Bool.not_eq_false'] at h) <;> replace hb0 := h) | ((first | (with_reducible refine isCall (f := 55) ?_; refine callA_nil (by kernel_rfl) ?_) | (with_reducible refine isCall0 (f := 55) ?_; refine callA0_nil (by kernel_rfl) ?_)); refine (limit_ok w _ a2 (fun h => Stop.mk ?_) (fun h => Stop.mk ?_))) | (refine And.intro ?ob ?_; case ob => ((try simp only [sxO, ne_eq, maxLen] at *); omega)) | fail) <;> (try simp (config := { maxSteps := 1000000 }) only [hb0, cE_ment, hasK_nil, cE_kill, cE_len, u32_one, u32_app1, u32_set, Nat.mul_one, a2.one, ↓hold_pre, awayP, runOps, regK, step1, newK, genR, appR, obl, buildR, Value.cells, closeK, keepH, outV, retK, ret1, retC, RetV, Option.getD, runD, stepD, afterK, undef, simprocAttr, sxB, ↓sxD, sxE, sxTab]))
    · refine Stop.go ?_
      (replace hb0 := true_and True); refine Go1.mk ?_; repeat' ((first | (with_reducible refine Go1.go ?_) | ((with_reducible first | refine brv_mk ?_ ?_ | refine gsplitD ?_ ?_ | refine gsplitG ?_ ?_) <;> intro h <;> (try simp only [Bool.not_eq_true', Bool.not_eq_false'] at h) <;> replace hb0 := h) | (refine And.intro ?ob ?_; case ob => ((try simp only [sxO, ne_eq, maxLen] at *); omega)) | fail) <;> (try simp (config := { maxSteps := 1000000 }) only [hb0, cE_ment, hasK_nil, cE_kill, cE_len, u32_one, u32_app1, u32_set, Nat.mul_one, a2.one, ↓hold_pre, awayP, runOps, regK, step1, newK, genR, appR, obl, buildR, Value.cells, closeK, keepH, outV, retK, ret1, retC, RetV, Option.getD, runD, stepD, afterK, undef, simprocAttr, sxB, ↓sxD, sxE, sxTab]))
      exact k1 h
    · refine Stop.go ?_
      (replace hb0 := true_and True); refine Go1.mk ?_; repeat' ((first | (with_reducible refine Go1.go ?_) | ((with_reducible first | refine brv_mk ?_ ?_ | refine gsplitD ?_ ?_ | refine gsplitG ?_ ?_) <;> intro h <;> (try simp only [Bool.not_eq_true', Bool.not_eq_false'] at h) <;> replace hb0 := h) | (refine And.intro ?ob ?_; case ob => ((try simp only [sxO, ne_eq, maxLen] at *); omega)) | fail) <;> (try simp (config := { maxSteps := 1000000 }) only [hb0, cE_ment, hasK_nil, cE_kill, cE_len, u32_one, u32_app1, u32_set, Nat.mul_one, a2.one, ↓hold_pre, awayP, runOps, regK, step1, newK, genR, appR, obl, buildR, Value.cells, closeK, keepH, outV, retK, ret1, retC, RetV, Option.getD, runD, stepD, afterK, undef, simprocAttr, sxB, ↓sxD, sxE, sxTab]))
      exact k2 h
theorem natMul_ok (hu : IsL M u32V u l1) (hv : IsL M u32V v l2) (h1 : okN l1) (h2 : okN l2) (hb1 : l1.length < 1000000) (hb2 : l2.length < 1000000) (hK : NatR M K (mulR l1 l2)) : CallS Tryd.prog 34 [.ext u, .ext v] [] M [] K := by
  refine inlS (cs := []) Tryd.mixed Tryd.func34 rfl (by kernel_rfl) 0 rfl rfl ?_
  simp only [Tryd.f34]
  unfold mulR at hK
  cases hc : (chkN l1 && chkN l2) with
  | false =>
    rw [hc] at hK
    (replace hb0 := true_and True); refine Go1.mk ?_; repeat' ((first | (with_reducible refine Go1.go ?_) | ((with_reducible first | refine brv_mk ?_ ?_ | refine gsplitD ?_ ?_ | refine gsplitG ?_ ?_) <;> intro h <;> (try simp only [Bool.not_eq_true', Bool.not_eq_false'] at h) <;> replace hb0 := h) | ((with_reducible refine isCall (f := 43) ?_); refine callA ?_) | ((with_reducible refine isCall0 (f := 43) ?_); refine callA0 ?_) | ((with_reducible refine isCallS (f := 43) ?_); refine (all_ok 8 (by omega) u v l1 l2 hu hv (by omega) (by omega) ?_)) | (refine And.intro ?ob ?_; case ob => ((try simp only [sxO, ne_eq, maxLen] at *); omega)) | fail) <;> (try simp (config := { maxSteps := 1000000 }) only [hb0, cE_ment, hasK_nil, cE_kill, cE_len, u32_one, u32_app1, u32_set, Nat.mul_one, hu.one, hv.one, hc, ↓hold_pre, awayP, runOps, regK, step1, newK, genR, appR, obl, buildR, Value.cells, closeK, keepH, outV, retK, ret1, retC, RetV, Option.getD, runD, stepD, afterK, undef, simprocAttr, sxB, ↓sxD, sxE, sxTab]))
    exact NatR.err _ hK
  | true =>
    rw [hc, if_pos rfl] at hK
    obtain ⟨c1, c2⟩ := Bool.and_eq_true_iff.1 hc
    obtain ⟨e1, b1⟩ := chkN_ok h1 c1
    obtain ⟨e2, b2⟩ := chkN_ok h2 c2
    have hu' := hu
    have hv' := hv
    rw [e1] at hu'
    rw [e2] at hv'
    (replace hb0 := true_and True); refine Go1.mk ?_; repeat' ((first | (with_reducible refine Go1.go ?_) | ((with_reducible first | refine brv_mk ?_ ?_ | refine gsplitD ?_ ?_ | refine gsplitG ?_ ?_) <;> intro h <;> (try simp only [Bool.not_eq_true', Bool.not_eq_false'] at h) <;> replace hb0 := h) | ((with_reducible refine isCall (f := 43) ?_); refine callA ?_) | ((with_reducible refine isCall0 (f := 43) ?_); refine callA0 ?_) | ((with_reducible refine isCallS (f := 43) ?_); refine (all_ok 8 (by omega) u v l1 l2 hu hv (by omega) (by omega) ?_)) | ((first | (with_reducible refine isCall (f := 54) ?_; refine callA_nil (by kernel_rfl) ?_) | (with_reducible refine isCall0 (f := 54) ?_; refine callA0_nil (by kernel_rfl) ?_)); refine (mul_ok u v _ _ hu' hv' (by rw [← e1]; omega) (by rw [← e2]; omega) (fun w M' a1 a2 a3 => Stop.mk ?_))) | (refine And.intro ?ob ?_; case ob => ((try simp only [sxO, ne_eq, maxLen] at *); omega)) | fail) <;> (try simp (config := { maxSteps := 1000000 }) only [hb0, cE_ment, hasK_nil, cE_kill, cE_len, u32_one, u32_app1, u32_set, Nat.mul_one, hu.one, hv.one, hc, ↓hold_pre, awayP, runOps, regK, step1, newK, genR, appR, obl, buildR, Value.cells, closeK, keepH, outV, retK, ret1, retC, RetV, Option.getD, runD, stepD, afterK, undef, simprocAttr, sxB, ↓sxD, sxE, sxTab]))
    refine Stop.go ?_
    obtain ⟨k1, k2⟩ := hK.lim a1 a2 a3
    (replace hb0 := true_and True); refine Go1.mk ?_; repeat' ((first | (with_reducible refine Go1.go ?_) | ((with_reducible first | refine brv_mk ?_ ?_ | refine gsplitD ?_ ?_ | refine gsplitG ?_ ?_) <;> intro h <;> (try simp only [Bool.not_eq_true', Bool.not_eq_false'] at h) <;> replace hb0 := h) | ((first | (with_reducible refine isCall (f := 55) ?_; refine callA_nil (by kernel_rfl) ?_) | (with_reducible refine isCall0 (f := 55) ?_; refine callA0_nil (by kernel_rfl) ?_)); refine (limit_ok w _ a2 (fun h => Stop.mk ?_) (fun h => Stop.mk ?_))) | (refine And.intro ?ob ?_; case ob => ((try simp only [sxO, ne_eq, maxLen] at *); omega)) | fail) <;> (try simp (config := { maxSteps := 1000000 }) only [hb0, cE_ment, hasK_nil, cE_kill, cE_len, u32_one, u32_app1, u32_set, Nat.mul_one, a2.one, ↓hold_pre, awayP, runOps, regK, step1, newK, genR, appR, obl, buildR, Value.cells, closeK, keepH, outV, retK, ret1, retC, RetV, Option.getD, runD, stepD, afterK, undef, simprocAttr, sxB, ↓sxD, sxE, sxTab]))
    · refine Stop.go ?_
      (replace hb0 := true_and True); refine Go1.mk ?_; repeat' ((first | (with_reducible refine Go1.go ?_) | ((with_reducible first | refine brv_mk ?_ ?_ | refine gsplitD ?_ ?_ | refine gsplitG ?_ ?_) <;> intro h <;> (try simp only [Bool.not_eq_true', Bool.not_eq_false'] at h) <;> replace hb0 := h) | (refine And.intro ?ob ?_; case ob => ((try simp only [sxO, ne_eq, maxLen] at *); omega)) | fail) <;> (try simp (config := { maxSteps := 1000000 }) only [hb0, cE_ment, hasK_nil, cE_kill, cE_len, u32_one, u32_app1, u32_set, Nat.mul_one, a2.one, ↓hold_pre, awayP, runOps, regK, step1, newK, genR, appR, obl, buildR, Value.cells, closeK, keepH, outV, retK, ret1, retC, RetV, Option.getD, runD, stepD, afterK, undef, simprocAttr, sxB, ↓sxD, sxE, sxTab]))
      exact k1 h
    · refine Stop.go ?_
      (replace hb0 := true_and True); refine Go1.mk ?_; repeat' ((first | (with_reducible refine Go1.go ?_) | ((with_reducible first | refine brv_mk ?_ ?_ | refine gsplitD ?_ ?_ | refine gsplitG ?_ ?_) <;> intro h <;> (try simp only [Bool.not_eq_true', Bool.not_eq_false'] at h) <;> replace hb0 := h) | (refine And.intro ?ob ?_; case ob => ((try simp only [sxO, ne_eq, maxLen] at *); omega)) | fail) <;> (try simp (config := { maxSteps := 1000000 }) only [hb0, cE_ment, hasK_nil, cE_kill, cE_len, u32_one, u32_app1, u32_set, Nat.mul_one, a2.one, ↓hold_pre, awayP, runOps, regK, step1, newK, genR, appR, obl, buildR, Value.cells, closeK, keepH, outV, retK, ret1, retC, RetV, Option.getD, runD, stepD, afterK, undef, simprocAttr, sxB, ↓sxD, sxE, sxTab]))
      exact k2 h
theorem natSub_ok (hu : IsL M u32V u l1) (hv : IsL M u32V v l2) (h1 : okN l1) (h2 : okN l2) (hb1 : l1.length < 1000000) (hb2 : l2.length < 1000000) (hK : NatR M K (subR l1 l2)) : CallS Tryd.prog 32 [.ext u, .ext v] [] M [] K := by
  refine inlS (cs := []) Tryd.mixed Tryd.func32 rfl (by kernel_rfl) 0 rfl rfl ?_
  simp only [Tryd.f32]
  unfold subR at hK
  cases hc : (chkN l1 && chkN l2) with
  | false =>
    rw [hc] at hK
    (replace hb0 := true_and True); refine Go1.mk ?_; repeat' ((first | (with_reducible refine Go1.go ?_) | ((with_reducible first | refine brv_mk ?_ ?_ | refine gsplitD ?_ ?_ | refine gsplitG ?_ ?_) <;> intro h <;> (try simp only [Bool.not_eq_true', Bool.not_eq_false'] at h) <;> replace hb0 := h) | ((with_reducible refine isCall (f := 43) ?_); refine callA ?_) | ((with_reducible refine isCall0 (f := 43) ?_); refine callA0 ?_) | ((with_reducible refine isCallS (f := 43) ?_); refine (all_ok 8 (by omega) u v l1 l2 hu hv (by omega) (by omega) ?_)) | (refine And.intro ?ob ?_; case ob => ((try simp only [sxO, ne_eq, maxLen] at *); omega)) | fail) <;> (try simp (config := { maxSteps := 1000000 }) only [hb0, cE_ment, hasK_nil, cE_kill, cE_len, u32_one, u32_app1, u32_set, Nat.mul_one, hu.one, hv.one, hc, ↓hold_pre, awayP, runOps, regK, step1, newK, genR, appR, obl, buildR, Value.cells, closeK, keepH, outV, retK, ret1, retC, RetV, Option.getD, runD, stepD, afterK, undef, simprocAttr, sxB, ↓sxD, sxE, sxTab]))
    exact NatR.err _ hK
  | true =>
    rw [hc, if_pos rfl] at hK
    obtain ⟨c1, c2⟩ := Bool.and_eq_true_iff.1 hc
    obtain ⟨e1, b1⟩ := chkN_ok h1 c1
    obtain ⟨e2, b2⟩ := chkN_ok h2 c2
    have hu' := hu
    have hv' := hv
    rw [e1] at hu'
    rw [e2] at hv'
    by_cases hlt : valN l1 < valN l2
    · rw [if_pos hlt] at hK
      have d1 : decide (cmpN (valN l1) (valN l2) < 0) = true := by rw [cmpN_lt hlt]; rfl
      (replace hb0 := true_and True); refine Go1.mk ?_; repeat' ((first | (with_reducible refine Go1.go ?_) | ((with_reducible first | refine brv_mk ?_ ?_ | refine gsplitD ?_ ?_ | refine gsplitG ?_ ?_) <;> intro h <;> (try simp only [Bool.not_eq_true', Bool.not_eq_false'] at h) <;> replace hb0 := h) | ((with_reducible refine isCall (f := 43) ?_); refine callA ?_) | ((with_reducible refine isCall0 (f := 43) ?_); refine callA0 ?_) | ((with_reducible refine isCallS (f := 43) ?_); refine (all_ok 8 (by omega) u v l1 l2 hu hv (by omega) (by omega) ?_)) | ((first | (with_reducible refine isCall (f := 44) ?_; refine callA_nil (by kernel_rfl) ?_) | (with_reducible refine isCall0 (f := 44) ?_; refine callA0_nil (by kernel_rfl) ?_)); refine (compare_ok u v _ _ hu' hv' (by rw [← e1]; omega) (by rw [← e2]; omega) ?_)) | (refine And.intro ?ob ?_; case ob => ((try simp only [sxO, ne_eq, maxLen] at *); omega)) | fail) <;> (try simp (config := { maxSteps := 1000000 }) only [hb0, cE_ment, hasK_nil, cE_kill, cE_len, u32_one, u32_app1, u32_set, Nat.mul_one, hu.one, hv.one, hc, d1, ↓hold_pre, awayP, runOps, regK, step1, newK, genR, appR, obl, buildR, Value.cells, closeK, keepH, outV, retK, ret1, retC, RetV, Option.getD, runD, stepD, afterK, undef, simprocAttr, sxB, ↓sxD, sxE, sxTab]))
      exact NatR.err _ hK
    · rw [if_neg hlt] at hK
      have d1 : decide (cmpN (valN l1) (valN l2) < 0) = false := by
        rw [decide_eq_false_iff_not]; unfold cmpN; rw [if_neg hlt]; split <;> omega
      (replace hb0 := true_and True); refine Go1.mk ?_; repeat' ((first | (with_reducible refine Go1.go ?_) | ((with_reducible first | refine brv_mk ?_ ?_ | refine gsplitD ?_ ?_ | refine gsplitG ?_ ?_) <;> intro h <;> (try simp only [Bool.not_eq_true', Bool.not_eq_false'] at h) <;> replace hb0 := h) | ((with_reducible refine isCall (f := 43) ?_); refine callA ?_) | ((with_reducible refine isCall0 (f := 43) ?_); refine callA0 ?_) | ((with_reducible refine isCallS (f := 43) ?_); refine (all_ok 8 (by omega) u v l1 l2 hu hv (by omega) (by omega) ?_)) | ((first | (with_reducible refine isCall (f := 44) ?_; refine callA_nil (by kernel_rfl) ?_) | (with_reducible refine isCall0 (f := 44) ?_; refine callA0_nil (by kernel_rfl) ?_)); refine (compare_ok u v _ _ hu' hv' (by rw [← e1]; omega) (by rw [← e2]; omega) ?_)) | ((first | (with_reducible refine isCall (f := 58) ?_; refine callA_nil (by kernel_rfl) ?_) | (with_reducible refine isCall0 (f := 58) ?_; refine callA0_nil (by kernel_rfl) ?_)); refine (sub_ok u v _ _ hu' hv' (by rw [← e1]; omega) (by omega) (fun w M' a1 a2 a3 => Stop.mk ?_))) | (refine And.intro ?ob ?_; case ob => ((try simp only [sxO, ne_eq, maxLen] at *); omega)) | fail) <;> (try simp (config := { maxSteps := 1000000 }) only [hb0, cE_ment, hasK_nil, cE_kill, cE_len, u32_one, u32_app1, u32_set, Nat.mul_one, hu.one, hv.one, hc, d1, ↓hold_pre, awayP, runOps, regK, step1, newK, genR, appR, obl, buildR, Value.cells, closeK, keepH, outV, retK, ret1, retC, RetV, Option.getD, runD, stepD, afterK, undef, simprocAttr, sxB, ↓sxD, sxE, sxTab]))
      refine Stop.go ?_
      (replace hb0 := true_and True); refine Go1.mk ?_; repeat' ((first | (with_reducible refine Go1.go ?_) | ((with_reducible first | refine brv_mk ?_ ?_ | refine gsplitD ?_ ?_ | refine gsplitG ?_ ?_) <;> intro h <;> (try simp only [Bool.not_eq_true', Bool.not_eq_false'] at h) <;> replace hb0 := h) | (refine And.intro ?ob ?_; case ob => ((try simp only [sxO, ne_eq, maxLen] at *); omega)) | fail) <;> (try simp (config := { maxSteps := 1000000 }) only [hb0, cE_ment, hasK_nil, cE_kill, cE_len, u32_one, u32_app1, u32_set, Nat.mul_one, a2.one, ↓hold_pre, awayP, runOps, regK, step1, newK, genR, appR, obl, buildR, Value.cells, closeK, keepH, outV, retK, ret1, retC, RetV, Option.getD, runD, stepD, afterK, undef, simprocAttr, sxB, ↓sxD, sxE, sxTab]))
      exact hK _ _ a1 a2 a3
theorem natGcd_ok (hu : IsL M u32V u l1) (hv : IsL M u32V v l2) (h1 : okN l1) (h2 : okN l2) (hb1 : l1.length < 1000000) (hb2 : l2.length < 1000000) (hK : NatR M K (gcdR l1 l2)) : CallS Tryd.prog 38 [.ext u, .ext v] [] M [] K := by
  refine inlS (cs := []) Tryd.mixed Tryd.func38 rfl (by kernel_rfl) 0 rfl rfl ?_
  simp only [Tryd.f38]
  unfold gcdR at hK
  cases hc : (chkN l1 && chkN l2) with
  | false =>
    rw [hc] at hK
    (replace hb0 := true_and True); refine Go1.mk ?_; repeat' ((first | (with_reducible refine Go1.go ?_) | ((with_reducible first | refine brv_mk ?_ ?_ | refine gsplitD ?_ ?_ | refine gsplitG ?_ ?_) <;> intro h <;> (try simp only [Bool.not_eq_true', Bool.not_eq_false'] at h) <;> replace hb0 := h) | ((with_reducible refine isCall (f := 43) ?_); refine callA ?_) | ((with_reducible refine isCall0 (f := 43) ?_); refine callA0 ?_) | ((with_reducible refine isCallS (f := 43) ?_); refine (all_ok 8 (by omega) u v l1 l2 hu hv (by omega) (by omega) ?_)) | (refine And.intro ?ob ?_; case ob => ((try simp only [sxO, ne_eq, maxLen] at *); omega)) | fail) <;> (try simp (config := { maxSteps := 1000000 }) only [hb0, cE_ment, hasK_nil, cE_kill, cE_len, u32_one, u32_app1, u32_set, Nat.mul_one, hu.one, hv.one, hc, ↓hold_pre, awayP, runOps, regK, step1, newK, genR, appR, obl, buildR, Value.cells, closeK, keepH, outV, retK, ret1, retC, RetV, Option.getD, runD, stepD, afterK, undef, simprocAttr, sxB, ↓sxD, sxE, sxTab]))
    exact NatR.err _ hK
  | true =>
    rw [hc, if_pos rfl] at hK
    obtain ⟨c1, c2⟩ := Bool.and_eq_true_iff.1 hc
    obtain ⟨e1, b1⟩ := chkN_ok h1 c1
    obtain ⟨e2, b2⟩ := chkN_ok h2 c2
    have hu' := hu
    have hv' := hv
    rw [e1] at hu'
    rw [e2] at hv'
    (replace hb0 := true_and True); refine Go1.mk ?_; repeat' ((first | (with_reducible refine Go1.go ?_) | ((with_reducible first | refine brv_mk ?_ ?_ | refine gsplitD ?_ ?_ | refine gsplitG ?_ ?_) <;> intro h <;> (try simp only [Bool.not_eq_true', Bool.not_eq_false'] at h) <;> replace hb0 := h) | ((with_reducible refine isCall (f := 43) ?_); refine callA ?_) | ((with_reducible refine isCall0 (f := 43) ?_); refine callA0 ?_) | ((with_reducible refine isCallS (f := 43) ?_); refine (all_ok 8 (by omega) u v l1 l2 hu hv (by omega) (by omega) ?_)) | ((first | (with_reducible refine isCall (f := 62) ?_; refine callA_nil (by kernel_rfl) ?_) | (with_reducible refine isCall0 (f := 62) ?_; refine callA0_nil (by kernel_rfl) ?_)); refine (gcd_ok u v _ _ hu' hv' (by rw [← e1]; omega) (by rw [← e2]; omega) (fun w M' a1 a2 a3 => Stop.mk ?_))) | (refine And.intro ?ob ?_; case ob => ((try simp only [sxO, ne_eq, maxLen] at *); omega)) | fail) <;> (try simp (config := { maxSteps := 1000000 }) only [hb0, cE_ment, hasK_nil, cE_kill, cE_len, u32_one, u32_app1, u32_set, Nat.mul_one, hu.one, hv.one, hc, ↓hold_pre, awayP, runOps, regK, step1, newK, genR, appR, obl, buildR, Value.cells, closeK, keepH, outV, retK, ret1, retC, RetV, Option.getD, runD, stepD, afterK, undef, simprocAttr, sxB, ↓sxD, sxE, sxTab]))
    refine Stop.go ?_
    (replace hb0 := true_and True); refine Go1.mk ?_; repeat' ((first | (with_reducible refine Go1.go ?_) | ((with_reducible first | refine brv_mk ?_ ?_ | refine gsplitD ?_ ?_ | refine gsplitG ?_ ?_) <;> intro h <;> (try simp only [Bool.not_eq_true', Bool.not_eq_false'] at h) <;> replace hb0 := h) | (refine And.intro ?ob ?_; case ob => ((try simp only [sxO, ne_eq, maxLen] at *); omega)) | fail) <;> (try simp (config := { maxSteps := 1000000 }) only [hb0, cE_ment, hasK_nil, cE_kill, cE_len, u32_one, u32_app1, u32_set, Nat.mul_one, a2.one, ↓hold_pre, awayP, runOps, regK, step1, newK, genR, appR, obl, buildR, Value.cells, closeK, keepH, outV, retK, ret1, retC, RetV, Option.getD, runD, stepD, afterK, undef, simprocAttr, sxB, ↓sxD, sxE, sxTab]))
    exact hK _ _ a1 a2 a3
/-- a quotient, a remainder and an error -/
def NatD (M : Mem) (K : AV → Hp → Mem → Prop) (r : Int × List Nat × List Nat) : Prop := ∀ q w M', Mem.le M M' → IsL M' u32V q r.2.1 → IsL M' u32V w r.2.2 → FreshS M q → FreshS M w → K (.ext (.tuple #[q, w, .int .i64 r.1])) [] M'
theorem NatD.err (e : Int) (h : NatD M K (e, [], [])) : K (.ext (.tuple #[.slice none 0 0, .slice none 0 0, .int .i64 e])) [] M := h _ _ _ (Mem.le.refl _) (isL_nil _ _ _) (isL_nil _ _ _) (freshS_nil _ _) (freshS_nil _ _)
theorem valN_nil_iff {l : List Nat} (h : l = ofN (valN l)) : l.length = 0 ↔ valN l = 0 := by
  constructor
  · intro h1; rw [List.length_eq_zero_iff.1 h1]; rfl
  · intro h1; rw [h, h1, ofN_zero]; rfl
theorem natDiv_ok (hu : IsL M u32V u l1) (hv : IsL M u32V v l2) (h1 : okN l1) (h2 : okN l2) (hb1 : l1.length < 1000000) (hb2 : l2.length < 1000000) (hK : NatD M K (divR l1 l2)) : CallS Tryd.prog 36 [.ext u, .ext v] [] M [] K := by
  refine inlS (cs := []) Tryd.mixed Tryd.func36 rfl (by kernel_rfl) 0 rfl rfl ?_
  simp only [Tryd.f36]
  unfold divR at hK
  cases hc : (chkN l1 && chkN l2) with
  | false =>
    rw [hc] at hK
    (replace hb0 := true_and True); refine Go1.mk ?_; repeat' ((first | (with_reducible refine Go1.go ?_) | ((with_reducible first | refine brv_mk ?_ ?_ | refine gsplitD ?_ ?_ | refine gsplitG ?_ ?_) <;> intro h <;> (try simp only [Bool.not_eq_true', Bool.not_eq_false'] at h) <;> replace hb0 := h) | ((with_reducible refine isCall (f := 43) ?_); refine callA ?_) | ((with_reducible refine isCall0 (f := 43) ?_); refine callA0 ?_) | ((with_reducible refine isCallS (f := 43) ?_); refine (all_ok 9 (by omega) u v l1 l2 hu hv (by omega) (by omega) ?_)) | (refine And.intro ?ob ?_; case ob => ((try simp only [sxO, ne_eq, maxLen] at *); omega)) | fail) <;> (try simp (config := { maxSteps := 1000000 }) only [hb0, cE_ment, hasK_nil, cE_kill, cE_len, u32_one, u32_app1, u32_set, Nat.mul_one, hu.one, hv.one, hc, ↓hold_pre, awayP, runOps, regK, step1, newK, genR, appR, obl, buildR, Value.cells, closeK, keepH, outV, retK, ret1, retC, RetV, Option.getD, runD, stepD, afterK, undef, simprocAttr, sxB, ↓sxD, sxE, sxTab]))
    exact NatD.err _ hK
  | true =>
    rw [hc, if_pos rfl] at hK
    obtain ⟨c1, c2⟩ := Bool.and_eq_true_iff.1 hc
    obtain ⟨e1, b1⟩ := chkN_ok h1 c1
    obtain ⟨e2, b2⟩ := chkN_ok h2 c2
    have hz := valN_nil_iff e2
    have hu' := hu
    have hv' := hv
    rw [e1] at hu'
    rw [e2] at hv'
    by_cases h0 : valN l2 = 0
    · rw [if_pos h0] at hK
      have d1 : decide ((l2.length : Int) = 0) = true := by rw [hz.2 h0]; rfl
      (replace hb0 := true_and True); refine Go1.mk ?_; repeat' ((first | (with_reducible refine Go1.go ?_) | ((with_reducible first | refine brv_mk ?_ ?_ | refine gsplitD ?_ ?_ | refine gsplitG ?_ ?_) <;> intro h <;> (try simp only [Bool.not_eq_true', Bool.not_eq_false'] at h) <;> replace hb0 := h) | ((with_reducible refine isCall (f := 43) ?_); refine callA ?_) | ((with_reducible refine isCall0 (f := 43) ?_); refine callA0 ?_) | ((with_reducible refine isCallS (f := 43) ?_); refine (all_ok 9 (by omega) u v l1 l2 hu hv (by omega) (by omega) ?_)) | (refine And.intro ?ob ?_; case ob => ((try simp only [sxO, ne_eq, maxLen] at *); omega)) | fail) <;> (try simp (config := { maxSteps := 1000000 }) only [hb0, cE_ment, hasK_nil, cE_kill, cE_len, u32_one, u32_app1, u32_set, Nat.mul_one, hu.one, hv.one, hv.len, hv.sl, hc, d1, ↓hold_pre, awayP, runOps, regK, step1, newK, genR, appR, obl, buildR, Value.cells, closeK, keepH, outV, retK, ret1, retC, RetV, Option.getD, runD, stepD, afterK, undef, simprocAttr, sxB, ↓sxD, sxE, sxTab]))
      exact NatD.err _ hK
    · rw [if_neg h0] at hK
      have d1 : decide ((l2.length : Int) = 0) = false := by rw [decide_eq_false_iff_not]; have := fun h => h0 (hz.1 h); omega
      (replace hb0 := true_and True); refine Go1.mk ?_; repeat' ((first | (with_reducible refine Go1.go ?_) | ((with_reducible first | refine brv_mk ?_ ?_ | refine gsplitD ?_ ?_ | refine gsplitG ?_ ?_) <;> intro h <;> (try simp only [Bool.not_eq_true', Bool.not_eq_false'] at h) <;> replace hb0 := h) | ((with_reducible refine isCall (f := 43) ?_); refine callA ?_) | ((with_reducible refine isCall0 (f := 43) ?_); refine callA0 ?_) | ((with_reducible refine isCallS (f := 43) ?_); refine (all_ok 9 (by omega) u v l1 l2 hu hv (by omega) (by omega) ?_)) | ((first | (with_reducible refine isCall (f := 60) ?_; refine callA_nil (by kernel_rfl) ?_) | (with_reducible refine isCall0 (f := 60) ?_; refine callA0_nil (by kernel_rfl) ?_)); refine (divide_ok u v _ _ hu' hv' (by rw [← e1]; omega) (by rw [← e2]; omega) (by omega) (fun q w M' a1 a2 a3 a4 a5 => Stop.mk ?_))) | (refine And.intro ?ob ?_; case ob => ((try simp only [sxO, ne_eq, maxLen] at *); omega)) | fail) <;> (try simp (config := { maxSteps := 1000000 }) only [hb0, cE_ment, hasK_nil, cE_kill, cE_len, u32_one, u32_app1, u32_set, Nat.mul_one, hu.one, hv.one, hv.len, hv.sl, hc, d1, ↓hold_pre, awayP, runOps, regK, step1, newK, genR, appR, obl, buildR, Value.cells, closeK, keepH, outV, retK, ret1, retC, RetV, Option.getD, runD, stepD, afterK, undef, simprocAttr, sxB, ↓sxD, sxE, sxTab]))
      refine Stop.go ?_
      (replace hb0 := true_and True); refine Go1.mk ?_; repeat' ((first | (with_reducible refine Go1.go ?_) | ((with_reducible first | refine brv_mk ?_ ?_ | refine gsplitD ?_ ?_ | refine gsplitG ?_ ?_) <;> intro h <;> (try simp only [Bool.not_eq_true', Bool.not_eq_false'] at h) <;> replace hb0 := h) | (refine And.intro ?ob ?_; case ob => ((try simp only [sxO, ne_eq, maxLen] at *); omega)) | fail) <;> (try simp (config := { maxSteps := 1000000 }) only [hb0, cE_ment, hasK_nil, cE_kill, cE_len, u32_one, u32_app1, u32_set, Nat.mul_one, a2.one, a3.one, ↓hold_pre, awayP, runOps, regK, step1, newK, genR, appR, obl, buildR, Value.cells, closeK, keepH, outV, retK, ret1, retC, RetV, Option.getD, runD, stepD, afterK, undef, simprocAttr, sxB, ↓sxD, sxE, sxTab]))
      exact hK _ _ _ a1 a2 a3 a4 a5
theorem natCmp_ok (hu : IsL M u32V u l1) (hv : IsL M u32V v l2) (h1 : okN l1) (h2 : okN l2) (hb1 : l1.length < 1000000) (hb2 : l2.length < 1000000) (hK : K (.ext (.int .i64 (cmpR l1 l2))) [] M) : CallS Tryd.prog 19 [.ext u, .ext v] [] M [] K := by
  refine inlS (cs := []) Tryd.mixed Tryd.func19 rfl (by kernel_rfl) 0 rfl rfl ?_
  simp only [Tryd.f19]
  unfold cmpR at hK
  cases hc : (chkN l1 && chkN l2) with
  | false =>
    rw [hc] at hK
    (replace hb0 := true_and True); refine Go1.mk ?_; repeat' ((first | (with_reducible refine Go1.go ?_) | ((with_reducible first | refine brv_mk ?_ ?_ | refine gsplitD ?_ ?_ | refine gsplitG ?_ ?_) <;> intro h <;> (try simp only [Bool.not_eq_true', Bool.not_eq_false'] at h) <;> replace hb0 := h) | ((with_reducible refine isCall (f := 43) ?_); refine callA ?_) | ((with_reducible refine isCall0 (f := 43) ?_); refine callA0 ?_) | ((with_reducible refine isCallS (f := 43) ?_); refine (all_ok 7 (by omega) u v l1 l2 hu hv (by omega) (by omega) ?_)) | (refine And.intro ?ob ?_; case ob => ((try simp only [sxO, ne_eq, maxLen] at *); omega)) | fail) <;> (try simp (config := { maxSteps := 1000000 }) only [hb0, cE_ment, hasK_nil, cE_kill, cE_len, u32_one, u32_app1, u32_set, Nat.mul_one, hu.one, hv.one, hc, ↓hold_pre, awayP, runOps, regK, step1, newK, genR, appR, obl, buildR, Value.cells, closeK, keepH, outV, retK, ret1, retC, RetV, Option.getD, runD, stepD, afterK, undef, simprocAttr, sxB, ↓sxD, sxE, sxTab]))
    exact hK
  | true =>
    rw [hc, if_pos rfl] at hK
    obtain ⟨c1, c2⟩ := Bool.and_eq_true_iff.1 hc
    obtain ⟨e1, b1⟩ := chkN_ok h1 c1
    obtain ⟨e2, b2⟩ := chkN_ok h2 c2
    have hu' := hu
    have hv' := hv
    rw [e1] at hu'
    rw [e2] at hv'
    (replace hb0 := true_and True); refine Go1.mk ?_; repeat' ((first | (with_reducible refine Go1.go ?_) | ((with_reducible first | refine brv_mk ?_ ?_ | refine gsplitD ?_ ?_ | refine gsplitG ?_ ?_) <;> intro h <;> (try simp only [Bool.not_eq_true', Bool.not_eq_false'] at h) <;> replace hb0 := h) | ((with_reducible refine isCall (f := 43) ?_); refine callA ?_) | ((with_reducible refine isCall0 (f := 43) ?_); refine callA0 ?_) | ((with_reducible refine isCallS (f := 43) ?_); refine (all_ok 7 (by omega) u v l1 l2 hu hv (by omega) (by omega) ?_)) | ((first | (with_reducible refine isCall (f := 44) ?_; refine callA_nil (by kernel_rfl) ?_) | (with_reducible refine isCall0 (f := 44) ?_; refine callA0_nil (by kernel_rfl) ?_)); refine (compare_ok u v _ _ hu' hv' (by rw [← e1]; omega) (by rw [← e2]; omega) ?_)) | (refine And.intro ?ob ?_; case ob => ((try simp only [sxO, ne_eq, maxLen] at *); omega)) | fail) <;> (try simp (config := { maxSteps := 1000000 }) only [hb0, cE_ment, hasK_nil, cE_kill, cE_len, u32_one, u32_app1, u32_set, Nat.mul_one, hu.one, hv.one, hc, ↓hold_pre, awayP, runOps, regK, step1, newK, genR, appR, obl, buildR, Value.cells, closeK, keepH, outV, retK, ret1, retC, RetV, Option.getD, runD, stepD, afterK, undef, simprocAttr, sxB, ↓sxD, sxE, sxTab]))
    exact hK
theorem bits_ok (hu : IsL M u32V u l1) (h1 : okN l1) (hb1 : l1.length < 1000000) (hK : K (.ext (.int .i64 (((if l1.length = 0 then 0 else 32 * (l1.length - 1) + blen (l1.getD (l1.length - 1) 0)) : Nat) : Int))) [] M) : CallS Tryd.prog 42 [.ext u] [] M [] K := by
  refine inlS (cs := []) Tryd.mixed Tryd.func42 rfl (by kernel_rfl) 0 rfl rfl ?_
  simp only [Tryd.f42]
  by_cases h0 : l1.length = 0
  · rw [if_pos h0] at hK
    have d1 : decide ((l1.length : Int) = 0) = true := by rw [h0]; rfl
    (replace hb0 := true_and True); refine Go1.mk ?_; repeat' ((first | (with_reducible refine Go1.go ?_) | ((with_reducible first | refine brv_mk ?_ ?_ | refine gsplitD ?_ ?_ | refine gsplitG ?_ ?_) <;> intro h <;> (try simp only [Bool.not_eq_true', Bool.not_eq_false'] at h) <;> replace hb0 := h) | (refine And.intro ?ob ?_; case ob => ((try simp only [sxO, ne_eq, maxLen] at *); omega)) | fail) <;> (try simp (config := { maxSteps := 1000000 }) only [hb0, hu.one, hu.len, hu.sl, d1, ↓hold_pre, awayP, runOps, regK, step1, newK, genR, appR, obl, buildR, Value.cells, closeK, keepH, outV, retK, ret1, retC, RetV, Option.getD, runD, stepD, afterK, undef, simprocAttr, sxB, ↓sxD, sxE, sxTab]))
    exact hK
  · rw [if_neg h0] at hK
    have d1 : decide ((l1.length : Int) = 0) = false := by rw [decide_eq_false_iff_not]; omega
    have hi := hu.idx (P := Tryd.prog) (T := 51) tk51 tz51 (by omega) (show l1.length - 1 < l1.length by omega)
    have ht := okN_at h1 (show l1.length - 1 < l1.length by omega)
    rw [show l1.getD (l1.length - 1) 0 = l1[l1.length - 1]'(by omega) by simp [List.getD, show l1.length - 1 < l1.length by omega]] at hK
    obtain ⟨t, hte⟩ : ∃ t, l1[l1.length - 1]'(by omega) = t := ⟨_, rfl⟩
    simp only [hte] at hi ht hK
    have hbl := (blen_iff 32 t).2 (by omega)
    have w1 : IntKind.i64.wrap ((l1.length : Int) - 1) = ((l1.length - 1 : Nat) : Int) := pred_i (by omega) (by omega)
    have w2 : IntKind.i64.wrap (32 * ((l1.length - 1 : Nat) : Int)) = ((32 * (l1.length - 1) : Nat) : Int) := by rw [wrap_id (by omega) (by omega)]; omega
    have w3 : IntKind.i64.wrap (((32 * (l1.length - 1) : Nat) : Int) + (blen t : Int)) = ((32 * (l1.length - 1) + blen t : Nat) : Int) := by rw [wrap_id (by omega) (by omega)]; omega
    (replace hb0 := true_and True); refine Go1.mk ?_; repeat' ((first | (with_reducible refine Go1.go ?_) | ((with_reducible first | refine brv_mk ?_ ?_ | refine gsplitD ?_ ?_ | refine gsplitG ?_ ?_) <;> intro h <;> (try simp only [Bool.not_eq_true', Bool.not_eq_false'] at h) <;> replace hb0 := h) | ((first | (with_reducible refine isCall (f := 65) ?_; refine callA_nil (by kernel_rfl) ?_) | (with_reducible refine isCall0 (f := 65) ?_; refine callA0_nil (by kernel_rfl) ?_)); refine (len32_ok t ht ?_)) | (refine And.intro ?ob ?_; case ob => ((try simp only [sxO, ne_eq, maxLen] at *); omega)) | fail) <;> (try simp (config := { maxSteps := 1000000 }) only [hb0, u32V, hu.one, hu.len, hu.sl, d1, hi, w1, w2, w3, ↓hold_pre, awayP, runOps, regK, step1, newK, genR, appR, obl, buildR, Value.cells, closeK, keepH, outV, retK, ret1, retC, RetV, Option.getD, runD, stepD, afterK, undef, simprocAttr, sxB, ↓sxD, sxE, sxTab]))
    exact hK
theorem natBits_ok (hu : IsL M u32V u l1) (h1 : okN l1) (hb1 : l1.length < 1000000) (hK : K (.ext (.int .i64 (bitsR l1 : Int))) [] M) : CallS Tryd.prog 17 [.ext u] [] M [] K := by
  refine inlS (cs := []) Tryd.mixed Tryd.func17 rfl (by kernel_rfl) 0 rfl rfl ?_
  simp only [Tryd.f17]
  unfold bitsR at hK
  cases hc : chkN l1 with
  | false =>
    rw [hc] at hK
    (replace hb0 := true_and True); refine Go1.mk ?_; repeat' ((first | (with_reducible refine Go1.go ?_) | ((with_reducible first | refine brv_mk ?_ ?_ | refine gsplitD ?_ ?_ | refine gsplitG ?_ ?_) <;> intro h <;> (try simp only [Bool.not_eq_true', Bool.not_eq_false'] at h) <;> replace hb0 := h) | ((first | (with_reducible refine isCall (f := 15) ?_; refine callA_nil (by kernel_rfl) ?_) | (with_reducible refine isCall0 (f := 15) ?_; refine callA0_nil (by kernel_rfl) ?_)); refine (check_ok u l1 hu (by omega) ?_)) | (refine And.intro ?ob ?_; case ob => ((try simp only [sxO, ne_eq, maxLen] at *); omega)) | fail) <;> (try simp (config := { maxSteps := 1000000 }) only [hb0, hu.one, hc, ↓hold_pre, awayP, runOps, regK, step1, newK, genR, appR, obl, buildR, Value.cells, closeK, keepH, outV, retK, ret1, retC, RetV, Option.getD, runD, stepD, afterK, undef, simprocAttr, sxB, ↓sxD, sxE, sxTab]))
    exact hK
  | true =>
    rw [hc, if_pos rfl] at hK
    (replace hb0 := true_and True); refine Go1.mk ?_; repeat' ((first | (with_reducible refine Go1.go ?_) | ((with_reducible first | refine brv_mk ?_ ?_ | refine gsplitD ?_ ?_ | refine gsplitG ?_ ?_) <;> intro h <;> (try simp only [Bool.not_eq_true', Bool.not_eq_false'] at h) <;> replace hb0 := h) | ((first | (with_reducible refine isCall (f := 15) ?_; refine callA_nil (by kernel_rfl) ?_) | (with_reducible refine isCall0 (f := 15) ?_; refine callA0_nil (by kernel_rfl) ?_)); refine (check_ok u l1 hu (by omega) ?_)) | ((first | (with_reducible refine isCall (f := 42) ?_; refine callA_nil (by kernel_rfl) ?_) | (with_reducible refine isCall0 (f := 42) ?_; refine callA0_nil (by kernel_rfl) ?_)); refine (bits_ok hu h1 hb1 ?_)) | (refine And.intro ?ob ?_; case ob => ((try simp only [sxO, ne_eq, maxLen] at *); omega)) | fail) <;> (try simp (config := { maxSteps := 1000000 }) only [hb0, hu.one, hc, ↓hold_pre, awayP, runOps, regK, step1, newK, genR, appR, obl, buildR, Value.cells, closeK, keepH, outV, retK, ret1, retC, RetV, Option.getD, runD, stepD, afterK, undef, simprocAttr, sxB, ↓sxD, sxE, sxTab]))
    exact hK
theorem natPow_ok (n : Int) (hu : IsL M u32V u l1) (h1 : okN l1) (hb1 : l1.length < 1000000) (hK : NatR M K (powR l1 n)) : CallS Tryd.prog 22 [.ext u, .ext (.int .i64 n)] [] M [] K := by
  refine inlS (cs := []) Tryd.mixed Tryd.func22 rfl (by kernel_rfl) 0 rfl rfl ?_
  simp only [Tryd.f22]
  unfold powR at hK
  cases hc : chkN l1 with
  | false =>
    rw [hc] at hK
    (replace hb0 := true_and True); refine Go1.mk ?_; repeat' ((first | (with_reducible refine Go1.go ?_) | ((with_reducible first | refine brv_mk ?_ ?_ | refine gsplitD ?_ ?_ | refine gsplitG ?_ ?_) <;> intro h <;> (try simp only [Bool.not_eq_true', Bool.not_eq_false'] at h) <;> replace hb0 := h) | ((first | (with_reducible refine isCall (f := 15) ?_; refine callA_nil (by kernel_rfl) ?_) | (with_reducible refine isCall0 (f := 15) ?_; refine callA0_nil (by kernel_rfl) ?_)); refine (check_ok u l1 hu (by omega) ?_)) | (refine And.intro ?ob ?_; case ob => ((try simp only [sxO, ne_eq, maxLen] at *); omega)) | fail) <;> (try simp (config := { maxSteps := 1000000 }) only [hb0, cE_ment, hasK_nil, cE_kill, cE_len, u32_one, u32_app1, u32_set, Nat.mul_one, hu.one, hc, ↓hold_pre, awayP, runOps, regK, step1, newK, genR, appR, obl, buildR, Value.cells, closeK, keepH, outV, retK, ret1, retC, RetV, Option.getD, runD, stepD, afterK, undef, simprocAttr, sxB, ↓sxD, sxE, sxTab]))
    exact NatR.err _ hK
  | true =>
    rw [hc, if_pos rfl] at hK
    by_cases hr : n < 0 ∨ 65536 < n
    · rw [if_pos hr] at hK
      have d1 : (decide (n < 0) || decide (65536 < n)) = true := by rw [Bool.or_eq_true, decide_eq_true_eq, decide_eq_true_eq]; exact hr
      have hd : decide (n < 0) = true ∨ decide (n < 0) = false := by cases decide (n < 0) <;> simp
      rcases hd with hd | hd
      · (replace hb0 := true_and True); refine Go1.mk ?_; repeat' ((first | (with_reducible refine Go1.go ?_) | ((with_reducible first | refine brv_mk ?_ ?_ | refine gsplitD ?_ ?_ | refine gsplitG ?_ ?_) <;> intro h <;> (try simp only [Bool.not_eq_true', Bool.not_eq_false'] at h) <;> replace hb0 := h) | ((first | (with_reducible refine isCall (f := 15) ?_; refine callA_nil (by kernel_rfl) ?_) | (with_reducible refine isCall0 (f := 15) ?_; refine callA0_nil (by kernel_rfl) ?_)); refine (check_ok u l1 hu (by omega) ?_)) | (refine And.intro ?ob ?_; case ob => ((try simp only [sxO, ne_eq, maxLen] at *); omega)) | fail) <;> (try simp (config := { maxSteps := 1000000 }) only [hb0, cE_ment, hasK_nil, cE_kill, cE_len, u32_one, u32_app1, u32_set, Nat.mul_one, hu.one, hc, hd, ↓hold_pre, awayP, runOps, regK, step1, newK, genR, appR, obl, buildR, Value.cells, closeK, keepH, outV, retK, ret1, retC, RetV, Option.getD, runD, stepD, afterK, undef, simprocAttr, sxB, ↓sxD, sxE, sxTab]))
        exact NatR.err _ hK
      · have d2 : decide (65536 < n) = true := by rw [hd, Bool.false_or] at d1; exact d1
        (replace hb0 := true_and True); refine Go1.mk ?_; repeat' ((first | (with_reducible refine Go1.go ?_) | ((with_reducible first | refine brv_mk ?_ ?_ | refine gsplitD ?_ ?_ | refine gsplitG ?_ ?_) <;> intro h <;> (try simp only [Bool.not_eq_true', Bool.not_eq_false'] at h) <;> replace hb0 := h) | ((first | (with_reducible refine isCall (f := 15) ?_; refine callA_nil (by kernel_rfl) ?_) | (with_reducible refine isCall0 (f := 15) ?_; refine callA0_nil (by kernel_rfl) ?_)); refine (check_ok u l1 hu (by omega) ?_)) | (refine And.intro ?ob ?_; case ob => ((try simp only [sxO, ne_eq, maxLen] at *); omega)) | fail) <;> (try simp (config := { maxSteps := 1000000 }) only [hb0, cE_ment, hasK_nil, cE_kill, cE_len, u32_one, u32_app1, u32_set, Nat.mul_one, hu.one, hc, hd, d2, ↓hold_pre, awayP, runOps, regK, step1, newK, genR, appR, obl, buildR, Value.cells, closeK, keepH, outV, retK, ret1, retC, RetV, Option.getD, runD, stepD, afterK, undef, simprocAttr, sxB, ↓sxD, sxE, sxTab]))
        exact NatR.err _ hK
    · rw [if_neg hr] at hK
      obtain ⟨m, rfl⟩ := Int.eq_ofNat_of_zero_le (show 0 ≤ n by omega)
      have d1 : decide ((m : Int) < 0) = false := by rw [decide_eq_false_iff_not]; omega
      have d2 : decide ((65536 : Int) < (m : Int)) = false := by rw [decide_eq_false_iff_not]; omega
      obtain ⟨e1, b1⟩ := chkN_ok h1 hc
      have hu' := hu
      rw [e1] at hu'
      unfold limR at hK
      (replace hb0 := true_and True); refine Go1.mk ?_; repeat' ((first | (with_reducible refine Go1.go ?_) | ((with_reducible first | refine brv_mk ?_ ?_ | refine gsplitD ?_ ?_ | refine gsplitG ?_ ?_) <;> intro h <;> (try simp only [Bool.not_eq_true', Bool.not_eq_false'] at h) <;> replace hb0 := h) | ((first | (with_reducible refine isCall (f := 15) ?_; refine callA_nil (by kernel_rfl) ?_) | (with_reducible refine isCall0 (f := 15) ?_; refine callA0_nil (by kernel_rfl) ?_)); refine (check_ok u l1 hu (by omega) ?_)) | (refine And.intro ?ob ?_; case ob => ((try simp only [sxO, ne_eq, maxLen] at *); omega)) | fail) <;> (try simp (config := { maxSteps := 1000000 }) only [hb0, cE_ment, hasK_nil, cE_kill, cE_len, u32_one, u32_app1, u32_set, Nat.mul_one, hu.one, hc, d1, d2, ↓hold_pre, awayP, runOps, regK, step1, newK, genR, appR, obl, buildR, Value.cells, closeK, keepH, outV, retK, ret1, retC, RetV, Option.getD, runD, stepD, afterK, undef, simprocAttr, sxB, ↓sxD, sxE, sxTab]))
      refine callA_nil (f := 46) (by kernel_rfl) (pow_ok u _ m 128 hu' (by rw [← e1]; omega) (by omega) (by decide) (by decide) (fun hl w M' a1 a2 a3 => Stop.mk ?_) (fun hl M' a1 => Stop.mk ?_))
      · refine Stop.go ?_
        (replace hb0 := true_and True); refine Go1.mk ?_; repeat' ((first | (with_reducible refine Go1.go ?_) | ((with_reducible first | refine brv_mk ?_ ?_ | refine gsplitD ?_ ?_ | refine gsplitG ?_ ?_) <;> intro h <;> (try simp only [Bool.not_eq_true', Bool.not_eq_false'] at h) <;> replace hb0 := h) | (refine And.intro ?ob ?_; case ob => ((try simp only [sxO, ne_eq, maxLen] at *); omega)) | fail) <;> (try simp (config := { maxSteps := 1000000 }) only [hb0, cE_ment, hasK_nil, cE_kill, cE_len, u32_one, u32_app1, u32_set, Nat.mul_one, a2.one, ↓hold_pre, awayP, runOps, regK, step1, newK, genR, appR, obl, buildR, Value.cells, closeK, keepH, outV, retK, ret1, retC, RetV, Option.getD, runD, stepD, afterK, undef, simprocAttr, sxB, ↓sxD, sxE, sxTab]))
        rw [Int.toNat_natCast, if_pos hl] at hK
        exact hK _ _ a1 a2 a3
      · refine Stop.go ?_
        (replace hb0 := true_and True); refine Go1.mk ?_; repeat' ((first | (with_reducible refine Go1.go ?_) | ((with_reducible first | refine brv_mk ?_ ?_ | refine gsplitD ?_ ?_ | refine gsplitG ?_ ?_) <;> intro h <;> (try simp only [Bool.not_eq_true', Bool.not_eq_false'] at h) <;> replace hb0 := h) | (refine And.intro ?ob ?_; case ob => ((try simp only [sxO, ne_eq, maxLen] at *); omega)) | fail) <;> (try simp (config := { maxSteps := 1000000 }) only [hb0, cE_ment, hasK_nil, cE_kill, cE_len, u32_one, u32_app1, u32_set, Nat.mul_one, ↓hold_pre, awayP, runOps, regK, step1, newK, genR, appR, obl, buildR, Value.cells, closeK, keepH, outV, retK, ret1, retC, RetV, Option.getD, runD, stepD, afterK, undef, simprocAttr, sxB, ↓sxD, sxE, sxTab]))
        rw [Int.toNat_natCast, if_neg (by omega)] at hK
        exact hK _ _ a1 (isL_nil _ _ _) (freshS_nil _ _)
end
end Go.Proofs.YtlndhpljajlneaaDoor.Sx
