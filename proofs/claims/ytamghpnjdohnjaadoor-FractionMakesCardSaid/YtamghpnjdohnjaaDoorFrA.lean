import Derived.Test.YtamghpnjdohnjaaDoorNumC
import Derived.Test.YtamghpnjdohnjaaDoorLimJ
/- Fractions: what the program makes of numbers, and which fractions are well-formed. -/
namespace Go.Proofs.YtamghpnjdohnjaaDoor.Sx
open Go Go.RowKit
set_option linter.unusedVariables false
set_option linter.unusedSimpArgs false
set_option maxRecDepth 100000
set_option maxHeartbeats 8000000
attribute [local congr] fin_congr finG_congr stepG_congr step1_congr runOps_congr brv_congr obl_congr condK_congr LoopK_congr seqK_congr CutK_congr vc_congr DrawK_congr regK_congr CallK_congr AskK_congr newK_congr retC_congr ret1_congr retK_congr outV_congr closeK_congr genR_congr appR_congr finD_congr finGD_congr stepGD_congr stepD_congr CallK0_congr runD_congr okR_congr CallS_congr vcX_congr
attribute [local congr] Stop_congr
/-- a quotient in lowest terms, or an error -/
def exF (n d : Nat) : Int × Nat × Nat := if (ofN (n / Nat.gcd n d)).length ≤ 128 ∧ (ofN (d / Nat.gcd n d)).length ≤ 128 then (0, n / Nat.gcd n d, d / Nat.gcd n d) else (2, 0, 0)
def makF (a b : List Nat) : Int × Nat × Nat := if chkN a && chkN b then (if valN b = 0 then (4, 0, 0) else exF (valN a) (valN b)) else (1, 0, 0)
def ofF (a b : Int) : Int × Nat × Nat := if a < 0 ∨ b < 0 then (5, 0, 0) else makF (ofN a.toNat) (ofN b.toNat)
def chkF (a b : List Nat) : Bool := chkN a && chkN b && !decide (valN b = 0) && (Nat.gcd (valN a) (valN b) == 1)
theorem exF_is {n d : Nat} (h1 : (ofN n).length ≤ 128) (h2 : (ofN d).length ≤ 128) : exF n d = (0, n / Nat.gcd n d, d / Nat.gcd n d) := by
  unfold exF
  have := len_mono (Nat.div_le_self n (Nat.gcd n d))
  have := len_mono (Nat.div_le_self d (Nat.gcd n d))
  rw [if_pos ⟨by omega, by omega⟩]
theorem chkF_ok {a b : List Nat} (ha : okN a) (hb : okN b) (h : chkF a b = true) : a = ofN (valN a) ∧ b = ofN (valN b) ∧ a.length ≤ 128 ∧ b.length ≤ 128 ∧ 0 < valN b ∧ Nat.gcd (valN a) (valN b) = 1 := by
  unfold chkF at h
  simp only [Bool.and_eq_true, Bool.not_eq_true', decide_eq_false_iff_not, beq_iff_eq] at h
  obtain ⟨⟨⟨h1, h2⟩, h3⟩, h4⟩ := h
  obtain ⟨e1, b1⟩ := chkN_ok ha h1
  obtain ⟨e2, b2⟩ := chkN_ok hb h2
  exact ⟨e1, e2, b1, b2, by omega, h4⟩
theorem nil_iff {l : List Nat} (h : l = ofN (valN l)) : l.length = 0 ↔ valN l = 0 := by
  constructor
  · intro h0
    rw [List.length_eq_zero_iff.1 h0]; rfl
  · intro h0
    rw [h, h0, ofN_zero]; rfl
def FracK (M : Mem) (K : AV → Hp → Mem → Prop) (r : Int × Nat × Nat) : Prop := ∀ w1 w2 M', Mem.le M M' → IsL M' u32V w1 (ofN r.2.1) → IsL M' u32V w2 (ofN r.2.2) → FreshS M w1 → FreshS M w2 → K (.ext (.tuple #[.agg #[w1, w2], .int .i64 r.1])) [] M'
section
variable {M : Mem} {K : AV → Hp → Mem → Prop} {u1 u2 : Value} {l1 l2 : List Nat}
theorem FracK.err {M' : Mem} (e : Int) (h : FracK M K (e, 0, 0)) (hM : Mem.le M M') : K (.ext (.tuple #[.agg #[.slice none 0 0, .slice none 0 0], .int .i64 e])) [] M' := h _ _ _ hM (by rw [ofN_zero]; exact isL_nil _ _ _) (by rw [ofN_zero]; exact isL_nil _ _ _) (freshS_nil _ _) (freshS_nil _ _)
theorem FracK.from {M' : Mem} {r : Int × Nat × Nat} (h : FracK M K r) (hM : Mem.le M M') : FracK M' K r := fun w1 w2 M2 a1 a2 a3 a4 a5 => h w1 w2 M2 (hM.trans a1) a2 a3 (a4.le hM) (a5.le hM)
theorem exact_ok (u v : Value) (n d : Nat) (hu : IsL M u32V u (ofN n)) (hv : IsL M u32V v (ofN d)) (hn : (ofN n).length < 1000000) (hd : (ofN d).length < 1000000) (hd0 : 0 < d) (hK : FracK M K (exF n d)) : CallS Tryd.prog 51 [.ext u, .ext v] [] M [] K := by
  refine inlS (cs := []) Tryd.mixed Tryd.func51 rfl (by kernel_rfl) 0 rfl rfl ?_
  simp only [Tryd.f51]
  unfold exF at hK
  have hg0 : 0 < Nat.gcd n d := Nat.gcd_pos_of_pos_right _ hd0
  have hgl := len_mono (Nat.gcd_le_right n hd0)
  have hn2 := len_mono (Nat.div_le_self n (Nat.gcd n d))
  have hd2 := len_mono (Nat.div_le_self d (Nat.gcd n d))
  (replace hb0 := true_and True); refine Go1.mk ?_; repeat' ((first | (with_reducible refine Go1.go ?_) | ((with_reducible first | refine brv_mk ?_ ?_ | refine gsplitD ?_ ?_ | refine gsplitG ?_ ?_) <;> intro h <;> (try simp only [Bool.not_eq_true', Bool.not_eq_false'] at h) <;> replace hb0 := h) | ((first | (with_reducible refine isCall (f := 56) ?_; refine callA_nil (by kernel_rfl) ?_) | (with_reducible refine isCall0 (f := 56) ?_; refine callA0_nil (by kernel_rfl) ?_)); refine (gcd_ok u v n d hu hv (by omega) (by omega) (fun g M1 a1 a2 a3 => Stop.mk ?_))) | (refine And.intro ?ob ?_; case ob => ((try simp only [sxO, ne_eq, maxLen] at *); omega)) | fail) <;> (try simp (config := { maxSteps := 1000000 }) only [hb0, hu.one, hv.one, ↓hold_pre, awayP, runOps, regK, step1, newK, genR, appR, obl, buildR, Value.cells, closeK, keepH, outV, retK, ret1, retC, RetV, Option.getD, runD, stepD, afterK, undef, simprocAttr, sxB, ↓sxD, sxE, sxTab]))
  have a1 : Mem.le M M1 := a1
  generalize Nat.gcd n d = gg at *
  have hu1 := hu.le a1
  have hv1 := hv.le a1
  refine Stop.go ?_
  (replace hb0 := true_and True); refine Go1.mk ?_; repeat' ((first | (with_reducible refine Go1.go ?_) | ((with_reducible first | refine brv_mk ?_ ?_ | refine gsplitD ?_ ?_ | refine gsplitG ?_ ?_) <;> intro h <;> (try simp only [Bool.not_eq_true', Bool.not_eq_false'] at h) <;> replace hb0 := h) | ((first | (with_reducible refine isCall (f := 77) ?_; refine callA_nil (by kernel_rfl) ?_) | (with_reducible refine isCall0 (f := 77) ?_; refine callA0_nil (by kernel_rfl) ?_)); refine (divide_ok u g n gg hu1 a2 (by omega) (by omega) hg0 (fun q1 r1 M2 b1 b2 b3 b4 b5 => Stop.mk ?_))) | (refine And.intro ?ob ?_; case ob => ((try simp only [sxO, ne_eq, maxLen] at *); omega)) | fail) <;> (try simp (config := { maxSteps := 1000000 }) only [hb0, hu1.one, hv1.one, a2.one, ↓hold_pre, awayP, runOps, regK, step1, newK, genR, appR, obl, buildR, Value.cells, closeK, keepH, outV, retK, ret1, retC, RetV, Option.getD, runD, stepD, afterK, undef, simprocAttr, sxB, ↓sxD, sxE, sxTab]))
  have b1 : Mem.le M1 M2 := b1
  have hv2 := hv1.le b1
  have a2' := a2.le b1
  refine Stop.go ?_
  (replace hb0 := true_and True); refine Go1.mk ?_; repeat' ((first | (with_reducible refine Go1.go ?_) | ((with_reducible first | refine brv_mk ?_ ?_ | refine gsplitD ?_ ?_ | refine gsplitG ?_ ?_) <;> intro h <;> (try simp only [Bool.not_eq_true', Bool.not_eq_false'] at h) <;> replace hb0 := h) | ((first | (with_reducible refine isCall (f := 77) ?_; refine callA_nil (by kernel_rfl) ?_) | (with_reducible refine isCall0 (f := 77) ?_; refine callA0_nil (by kernel_rfl) ?_)); refine (divide_ok v g d gg hv2 a2' (by omega) (by omega) hg0 (fun q2 r2 M3 c1 c2 c3 c4 c5 => Stop.mk ?_))) | (refine And.intro ?ob ?_; case ob => ((try simp only [sxO, ne_eq, maxLen] at *); omega)) | fail) <;> (try simp (config := { maxSteps := 1000000 }) only [hb0, hv2.one, a2'.one, b2.one, b3.one, ↓hold_pre, awayP, runOps, regK, step1, newK, genR, appR, obl, buildR, Value.cells, closeK, keepH, outV, retK, ret1, retC, RetV, Option.getD, runD, stepD, afterK, undef, simprocAttr, sxB, ↓sxD, sxE, sxTab]))
  have c1 : Mem.le M2 M3 := c1
  have b2' := b2.le c1
  have b3' := b3.le c1
  have hM := (a1.trans b1).trans c1
  refine Stop.go ?_
  by_cases h1 : (ofN (n / gg)).length ≤ 128
  · have d1 : decide ((128 : Int) < ((ofN (n / gg)).length : Int)) = false := by rw [decide_eq_false_iff_not]; omega
    by_cases h2 : (ofN (d / gg)).length ≤ 128
    · have d2 : decide ((128 : Int) < ((ofN (d / gg)).length : Int)) = false := by rw [decide_eq_false_iff_not]; omega
      rw [if_pos ⟨h1, h2⟩] at hK
      (replace hb0 := true_and True); refine Go1.mk ?_; repeat' ((first | (with_reducible refine Go1.go ?_) | ((with_reducible first | refine brv_mk ?_ ?_ | refine gsplitD ?_ ?_ | refine gsplitG ?_ ?_) <;> intro h <;> (try simp only [Bool.not_eq_true', Bool.not_eq_false'] at h) <;> replace hb0 := h) | (refine And.intro ?ob ?_; case ob => ((try simp only [sxO, ne_eq, maxLen] at *); omega)) | fail) <;> (try simp (config := { maxSteps := 1000000 }) only [hb0, b2'.one, b2'.len, b2'.sl, b3'.one, c2.one, c2.len, c2.sl, c3.one, d1, d2, ↓hold_pre, awayP, runOps, regK, step1, newK, genR, appR, obl, buildR, Value.cells, closeK, keepH, outV, retK, ret1, retC, RetV, Option.getD, runD, stepD, afterK, undef, simprocAttr, sxB, ↓sxD, sxE, sxTab]))
      exact hK _ _ _ hM b2' c2 (b4.le a1) (c4.le (a1.trans b1))
    · have d2 : decide ((128 : Int) < ((ofN (d / gg)).length : Int)) = true := by rw [decide_eq_true_eq]; omega
      rw [if_neg (fun h => h2 h.2)] at hK
      (replace hb0 := true_and True); refine Go1.mk ?_; repeat' ((first | (with_reducible refine Go1.go ?_) | ((with_reducible first | refine brv_mk ?_ ?_ | refine gsplitD ?_ ?_ | refine gsplitG ?_ ?_) <;> intro h <;> (try simp only [Bool.not_eq_true', Bool.not_eq_false'] at h) <;> replace hb0 := h) | (refine And.intro ?ob ?_; case ob => ((try simp only [sxO, ne_eq, maxLen] at *); omega)) | fail) <;> (try simp (config := { maxSteps := 1000000 }) only [hb0, b2'.one, b2'.len, b2'.sl, b3'.one, c2.one, c2.len, c2.sl, c3.one, d1, d2, ↓hold_pre, awayP, runOps, regK, step1, newK, genR, appR, obl, buildR, Value.cells, closeK, keepH, outV, retK, ret1, retC, RetV, Option.getD, runD, stepD, afterK, undef, simprocAttr, sxB, ↓sxD, sxE, sxTab]))
      exact hK.err _ hM
  · have d1 : decide ((128 : Int) < ((ofN (n / gg)).length : Int)) = true := by rw [decide_eq_true_eq]; omega
    rw [if_neg (fun h => h1 h.1)] at hK
    (replace hb0 := true_and True); refine Go1.mk ?_; repeat' ((first | (with_reducible refine Go1.go ?_) | ((with_reducible first | refine brv_mk ?_ ?_ | refine gsplitD ?_ ?_ | refine gsplitG ?_ ?_) <;> intro h <;> (try simp only [Bool.not_eq_true', Bool.not_eq_false'] at h) <;> replace hb0 := h) | (refine And.intro ?ob ?_; case ob => ((try simp only [sxO, ne_eq, maxLen] at *); omega)) | fail) <;> (try simp (config := { maxSteps := 1000000 }) only [hb0, b2'.one, b2'.len, b2'.sl, b3'.one, c2.one, c2.len, c2.sl, c3.one, d1, ↓hold_pre, awayP, runOps, regK, step1, newK, genR, appR, obl, buildR, Value.cells, closeK, keepH, outV, retK, ret1, retC, RetV, Option.getD, runD, stepD, afterK, undef, simprocAttr, sxB, ↓sxD, sxE, sxTab]))
    exact hK.err _ hM
theorem fmake_ok (h1 : IsL M u32V u1 l1) (h2 : IsL M u32V u2 l2) (o1 : okN l1) (o2 : okN l2) (b1 : l1.length < 1000000) (b2 : l2.length < 1000000) (hK : FracK M K (makF l1 l2)) : CallS Tryd.prog 10 [.ext u1, .ext u2] [] M [] K := by
  refine inlS (cs := []) Tryd.mixed Tryd.func10 rfl (by kernel_rfl) 0 rfl rfl ?_
  simp only [Tryd.f10]
  unfold makF at hK
  cases hc1 : chkN l1 with
  | false =>
    rw [hc1] at hK
    (replace hb0 := true_and True); refine Go1.mk ?_; repeat' ((first | (with_reducible refine Go1.go ?_) | ((with_reducible first | refine brv_mk ?_ ?_ | refine gsplitD ?_ ?_ | refine gsplitG ?_ ?_) <;> intro h <;> (try simp only [Bool.not_eq_true', Bool.not_eq_false'] at h) <;> replace hb0 := h) | ((first | (with_reducible refine isCall (f := 50) ?_; refine callA_nil (by kernel_rfl) ?_) | (with_reducible refine isCall0 (f := 50) ?_; refine callA0_nil (by kernel_rfl) ?_)); refine (check_ok u1 l1 h1 (by omega) ?_)) | (refine And.intro ?ob ?_; case ob => ((try simp only [sxO, ne_eq, maxLen] at *); omega)) | fail) <;> (try simp (config := { maxSteps := 1000000 }) only [hb0, h1.one, h2.one, hc1, ↓hold_pre, awayP, runOps, regK, step1, newK, genR, appR, obl, buildR, Value.cells, closeK, keepH, outV, retK, ret1, retC, RetV, Option.getD, runD, stepD, afterK, undef, simprocAttr, sxB, ↓sxD, sxE, sxTab]))
    exact hK.err _ (Mem.le.refl _)
  | true =>
    cases hc2 : chkN l2 with
    | false =>
      rw [hc1, hc2] at hK
      (replace hb0 := true_and True); refine Go1.mk ?_; repeat' ((first | (with_reducible refine Go1.go ?_) | ((with_reducible first | refine brv_mk ?_ ?_ | refine gsplitD ?_ ?_ | refine gsplitG ?_ ?_) <;> intro h <;> (try simp only [Bool.not_eq_true', Bool.not_eq_false'] at h) <;> replace hb0 := h) | ((first | (with_reducible refine isCall (f := 50) ?_; refine callA_nil (by kernel_rfl) ?_) | (with_reducible refine isCall0 (f := 50) ?_; refine callA0_nil (by kernel_rfl) ?_)); refine (check_ok u1 l1 h1 (by omega) ?_)) | ((first | (with_reducible refine isCall (f := 50) ?_; refine callA_nil (by kernel_rfl) ?_) | (with_reducible refine isCall0 (f := 50) ?_; refine callA0_nil (by kernel_rfl) ?_)); refine (check_ok u2 l2 h2 (by omega) ?_)) | (refine And.intro ?ob ?_; case ob => ((try simp only [sxO, ne_eq, maxLen] at *); omega)) | fail) <;> (try simp (config := { maxSteps := 1000000 }) only [hb0, h1.one, h2.one, hc1, hc2, ↓hold_pre, awayP, runOps, regK, step1, newK, genR, appR, obl, buildR, Value.cells, closeK, keepH, outV, retK, ret1, retC, RetV, Option.getD, runD, stepD, afterK, undef, simprocAttr, sxB, ↓sxD, sxE, sxTab]))
      exact hK.err _ (Mem.le.refl _)
    | true =>
      rw [hc1, hc2, Bool.and_self, if_pos rfl] at hK
      obtain ⟨e1, _⟩ := chkN_ok o1 hc1
      obtain ⟨e2, _⟩ := chkN_ok o2 hc2
      have h1' := h1
      have h2' := h2
      rw [e1] at h1'
      rw [e2] at h2'
      have hz := nil_iff e2
      by_cases h0 : valN l2 = 0
      · rw [if_pos h0] at hK
        have d1 : decide ((l2.length : Int) = 0) = true := by rw [decide_eq_true_eq]; have := hz.2 h0; omega
        (replace hb0 := true_and True); refine Go1.mk ?_; repeat' ((first | (with_reducible refine Go1.go ?_) | ((with_reducible first | refine brv_mk ?_ ?_ | refine gsplitD ?_ ?_ | refine gsplitG ?_ ?_) <;> intro h <;> (try simp only [Bool.not_eq_true', Bool.not_eq_false'] at h) <;> replace hb0 := h) | ((first | (with_reducible refine isCall (f := 50) ?_; refine callA_nil (by kernel_rfl) ?_) | (with_reducible refine isCall0 (f := 50) ?_; refine callA0_nil (by kernel_rfl) ?_)); refine (check_ok u1 l1 h1 (by omega) ?_)) | ((first | (with_reducible refine isCall (f := 50) ?_; refine callA_nil (by kernel_rfl) ?_) | (with_reducible refine isCall0 (f := 50) ?_; refine callA0_nil (by kernel_rfl) ?_)); refine (check_ok u2 l2 h2 (by omega) ?_)) | (refine And.intro ?ob ?_; case ob => ((try simp only [sxO, ne_eq, maxLen] at *); omega)) | fail) <;> (try simp (config := { maxSteps := 1000000 }) only [hb0, h1.one, h2.one, h2.len, h2.sl, hc1, hc2, d1, ↓hold_pre, awayP, runOps, regK, step1, newK, genR, appR, obl, buildR, Value.cells, closeK, keepH, outV, retK, ret1, retC, RetV, Option.getD, runD, stepD, afterK, undef, simprocAttr, sxB, ↓sxD, sxE, sxTab]))
        exact hK.err _ (Mem.le.refl _)
      · rw [if_neg h0] at hK
        have d1 : decide ((l2.length : Int) = 0) = false := by rw [decide_eq_false_iff_not]; have := fun h => h0 (hz.1 h); omega
        (replace hb0 := true_and True); refine Go1.mk ?_; repeat' ((first | (with_reducible refine Go1.go ?_) | ((with_reducible first | refine brv_mk ?_ ?_ | refine gsplitD ?_ ?_ | refine gsplitG ?_ ?_) <;> intro h <;> (try simp only [Bool.not_eq_true', Bool.not_eq_false'] at h) <;> replace hb0 := h) | ((first | (with_reducible refine isCall (f := 50) ?_; refine callA_nil (by kernel_rfl) ?_) | (with_reducible refine isCall0 (f := 50) ?_; refine callA0_nil (by kernel_rfl) ?_)); refine (check_ok u1 l1 h1 (by omega) ?_)) | ((first | (with_reducible refine isCall (f := 50) ?_; refine callA_nil (by kernel_rfl) ?_) | (with_reducible refine isCall0 (f := 50) ?_; refine callA0_nil (by kernel_rfl) ?_)); refine (check_ok u2 l2 h2 (by omega) ?_)) | ((first | (with_reducible refine isCall (f := 51) ?_; refine callA_nil (by kernel_rfl) ?_) | (with_reducible refine isCall0 (f := 51) ?_; refine callA0_nil (by kernel_rfl) ?_)); refine (exact_ok u1 u2 _ _ h1' h2' (by rw [← e1]; omega) (by rw [← e2]; omega) (by omega) (fun w1 w2 M1 a1 a2 a3 a4 a5 => Stop.mk ?_))) | (refine And.intro ?ob ?_; case ob => ((try simp only [sxO, ne_eq, maxLen] at *); omega)) | fail) <;> (try simp (config := { maxSteps := 1000000 }) only [hb0, h1.one, h2.one, h2.len, h2.sl, hc1, hc2, d1, ↓hold_pre, awayP, runOps, regK, step1, newK, genR, appR, obl, buildR, Value.cells, closeK, keepH, outV, retK, ret1, retC, RetV, Option.getD, runD, stepD, afterK, undef, simprocAttr, sxB, ↓sxD, sxE, sxTab]))
        refine Stop.go ?_
        (replace hb0 := true_and True); refine Go1.mk ?_; repeat' ((first | (with_reducible refine Go1.go ?_) | ((with_reducible first | refine brv_mk ?_ ?_ | refine gsplitD ?_ ?_ | refine gsplitG ?_ ?_) <;> intro h <;> (try simp only [Bool.not_eq_true', Bool.not_eq_false'] at h) <;> replace hb0 := h) | (refine And.intro ?ob ?_; case ob => ((try simp only [sxO, ne_eq, maxLen] at *); omega)) | fail) <;> (try simp (config := { maxSteps := 1000000 }) only [hb0, a2.one, a3.one, ↓hold_pre, awayP, runOps, regK, step1, newK, genR, appR, obl, buildR, Value.cells, closeK, keepH, outV, retK, ret1, retC, RetV, Option.getD, runD, stepD, afterK, undef, simprocAttr, sxB, ↓sxD, sxE, sxTab]))
        exact hK _ _ _ a1 a2 a3 a4 a5
theorem fof_ok (a b : Int) (ha : -9223372036854775808 ≤ a) (ha2 : a ≤ 9223372036854775807) (hb : -9223372036854775808 ≤ b) (hb2 : b ≤ 9223372036854775807) (hK : FracK M K (ofF a b)) : CallS Tryd.prog 13 [.ext (.int .i64 a), .ext (.int .i64 b)] [] M [] K := by
  refine inlS (cs := []) Tryd.mixed Tryd.func13 rfl (by kernel_rfl) 0 rfl rfl ?_
  simp only [Tryd.f13]
  unfold ofF at hK
  by_cases h1 : a < 0
  · have d1 : decide (a < 0) = true := by rw [decide_eq_true_eq]; exact h1
    rw [if_pos (.inl h1)] at hK
    (replace hb0 := true_and True); refine Go1.mk ?_; repeat' ((first | (with_reducible refine Go1.go ?_) | ((with_reducible first | refine brv_mk ?_ ?_ | refine gsplitD ?_ ?_ | refine gsplitG ?_ ?_) <;> intro h <;> (try simp only [Bool.not_eq_true', Bool.not_eq_false'] at h) <;> replace hb0 := h) | (refine And.intro ?ob ?_; case ob => ((try simp only [sxO, ne_eq, maxLen] at *); omega)) | fail) <;> (try simp (config := { maxSteps := 1000000 }) only [hb0, d1, ↓hold_pre, awayP, runOps, regK, step1, newK, genR, appR, obl, buildR, Value.cells, closeK, keepH, outV, retK, ret1, retC, RetV, Option.getD, runD, stepD, afterK, undef, simprocAttr, sxB, ↓sxD, sxE, sxTab]))
    exact hK.err _ (Mem.le.refl _)
  have d1 : decide (a < 0) = false := by rw [decide_eq_false_iff_not]; exact h1
  by_cases h2 : b < 0
  · have d2 : decide (b < 0) = true := by rw [decide_eq_true_eq]; exact h2
    rw [if_pos (.inr h2)] at hK
    (replace hb0 := true_and True); refine Go1.mk ?_; repeat' ((first | (with_reducible refine Go1.go ?_) | ((with_reducible first | refine brv_mk ?_ ?_ | refine gsplitD ?_ ?_ | refine gsplitG ?_ ?_) <;> intro h <;> (try simp only [Bool.not_eq_true', Bool.not_eq_false'] at h) <;> replace hb0 := h) | (refine And.intro ?ob ?_; case ob => ((try simp only [sxO, ne_eq, maxLen] at *); omega)) | fail) <;> (try simp (config := { maxSteps := 1000000 }) only [hb0, d1, d2, ↓hold_pre, awayP, runOps, regK, step1, newK, genR, appR, obl, buildR, Value.cells, closeK, keepH, outV, retK, ret1, retC, RetV, Option.getD, runD, stepD, afterK, undef, simprocAttr, sxB, ↓sxD, sxE, sxTab]))
    exact hK.err _ (Mem.le.refl _)
  have d2 : decide (b < 0) = false := by rw [decide_eq_false_iff_not]; exact h2
  rw [if_neg (by omega)] at hK
  obtain ⟨x, rfl⟩ := Int.eq_ofNat_of_zero_le (show 0 ≤ a by omega)
  obtain ⟨y, rfl⟩ := Int.eq_ofNat_of_zero_le (show 0 ≤ b by omega)
  have wx : IntKind.u64.wrap (x : Int) = (x : Int) := wrap64_id (by omega)
  have wy : IntKind.u64.wrap (y : Int) = (y : Int) := wrap64_id (by omega)
  have hxl : (ofN x).length ≤ 2 := ofN_len_le (by rw [show wN 2 = 18446744073709551616 from rfl]; omega)
  have hyl : (ofN y).length ≤ 2 := ofN_len_le (by rw [show wN 2 = 18446744073709551616 from rfl]; omega)
  rw [Int.toNat_natCast, Int.toNat_natCast] at hK
  (replace hb0 := true_and True); refine Go1.mk ?_; repeat' ((first | (with_reducible refine Go1.go ?_) | ((with_reducible first | refine brv_mk ?_ ?_ | refine gsplitD ?_ ?_ | refine gsplitG ?_ ?_) <;> intro h <;> (try simp only [Bool.not_eq_true', Bool.not_eq_false'] at h) <;> replace hb0 := h) | ((first | (with_reducible refine isCall (f := 54) ?_; refine callA_nil (by kernel_rfl) ?_) | (with_reducible refine isCall0 (f := 54) ?_; refine callA0_nil (by kernel_rfl) ?_)); refine (natOf_ok x (by omega) (fun w1 M1 a1 a2 a3 => Stop.mk ?_))) | (refine And.intro ?ob ?_; case ob => ((try simp only [sxO, ne_eq, maxLen] at *); omega)) | fail) <;> (try simp (config := { maxSteps := 1000000 }) only [hb0, d1, d2, wx, wy, ↓hold_pre, awayP, runOps, regK, step1, newK, genR, appR, obl, buildR, Value.cells, closeK, keepH, outV, retK, ret1, retC, RetV, Option.getD, runD, stepD, afterK, undef, simprocAttr, sxB, ↓sxD, sxE, sxTab]))
  have a1 : Mem.le M M1 := a1
  refine Stop.go ?_
  (replace hb0 := true_and True); refine Go1.mk ?_; repeat' ((first | (with_reducible refine Go1.go ?_) | ((with_reducible first | refine brv_mk ?_ ?_ | refine gsplitD ?_ ?_ | refine gsplitG ?_ ?_) <;> intro h <;> (try simp only [Bool.not_eq_true', Bool.not_eq_false'] at h) <;> replace hb0 := h) | ((first | (with_reducible refine isCall (f := 54) ?_; refine callA_nil (by kernel_rfl) ?_) | (with_reducible refine isCall0 (f := 54) ?_; refine callA0_nil (by kernel_rfl) ?_)); refine (natOf_ok y (by omega) (fun w2 M2 b1 b2 b3 => Stop.mk ?_))) | (refine And.intro ?ob ?_; case ob => ((try simp only [sxO, ne_eq, maxLen] at *); omega)) | fail) <;> (try simp (config := { maxSteps := 1000000 }) only [hb0, a2.one, wy, ↓hold_pre, awayP, runOps, regK, step1, newK, genR, appR, obl, buildR, Value.cells, closeK, keepH, outV, retK, ret1, retC, RetV, Option.getD, runD, stepD, afterK, undef, simprocAttr, sxB, ↓sxD, sxE, sxTab]))
  have b1 : Mem.le M1 M2 := b1
  have a2' := a2.le b1
  refine Stop.go ?_
  (replace hb0 := true_and True); refine Go1.mk ?_; repeat' ((first | (with_reducible refine Go1.go ?_) | ((with_reducible first | refine brv_mk ?_ ?_ | refine gsplitD ?_ ?_ | refine gsplitG ?_ ?_) <;> intro h <;> (try simp only [Bool.not_eq_true', Bool.not_eq_false'] at h) <;> replace hb0 := h) | ((first | (with_reducible refine isCall (f := 10) ?_; refine callA_nil (by kernel_rfl) ?_) | (with_reducible refine isCall0 (f := 10) ?_; refine callA0_nil (by kernel_rfl) ?_)); refine (fmake_ok a2' b2 (okN_ofN _) (okN_ofN _) (by omega) (by omega) (fun w3 w4 M3 c1 c2 c3 c4 c5 => Stop.mk ?_))) | (refine And.intro ?ob ?_; case ob => ((try simp only [sxO, ne_eq, maxLen] at *); omega)) | fail) <;> (try simp (config := { maxSteps := 1000000 }) only [hb0, a2'.one, b2.one, ↓hold_pre, awayP, runOps, regK, step1, newK, genR, appR, obl, buildR, Value.cells, closeK, keepH, outV, retK, ret1, retC, RetV, Option.getD, runD, stepD, afterK, undef, simprocAttr, sxB, ↓sxD, sxE, sxTab]))
  have c1 : Mem.le M2 M3 := c1
  refine Stop.go ?_
  (replace hb0 := true_and True); refine Go1.mk ?_; repeat' ((first | (with_reducible refine Go1.go ?_) | ((with_reducible first | refine brv_mk ?_ ?_ | refine gsplitD ?_ ?_ | refine gsplitG ?_ ?_) <;> intro h <;> (try simp only [Bool.not_eq_true', Bool.not_eq_false'] at h) <;> replace hb0 := h) | (refine And.intro ?ob ?_; case ob => ((try simp only [sxO, ne_eq, maxLen] at *); omega)) | fail) <;> (try simp (config := { maxSteps := 1000000 }) only [hb0, c2.one, c3.one, ↓hold_pre, awayP, runOps, regK, step1, newK, genR, appR, obl, buildR, Value.cells, closeK, keepH, outV, retK, ret1, retC, RetV, Option.getD, runD, stepD, afterK, undef, simprocAttr, sxB, ↓sxD, sxE, sxTab]))
  exact hK _ _ _ ((a1.trans b1).trans c1) c2 c3 (c4.le (a1.trans b1)) (c5.le (a1.trans b1))
theorem one_iff (g : Nat) : (g = 1) ↔ ((ofN g).length = 1 ∧ (ofN g).getD 0 0 = 1) := by
  constructor
  · rintro rfl
    have : ofN 1 = [1] := by rw [ofN_pos (by decide), show 1 / 4294967296 = 0 from rfl, ofN_zero]
    rw [this]; simp
  · rintro ⟨h1, h2⟩
    have := valN_ofN g
    generalize ofN g = l at *
    match l, h1 with
    | [a], _ => simp [valN] at this h2; omega
theorem fcheck_ok (h1 : IsL M u32V u1 l1) (h2 : IsL M u32V u2 l2) (o1 : okN l1) (o2 : okN l2) (b1 : l1.length < 1000000) (b2 : l2.length < 1000000) (hK : ∀ M', Mem.le M M' → K (.ext (.bool (chkF l1 l2))) [] M') : CallS Tryd.prog 16 [.ext (.agg #[u1, u2])] [] M [] K := by
  refine inlS (cs := []) Tryd.mixed Tryd.func16 rfl (by kernel_rfl) 0 rfl rfl ?_
  simp only [Tryd.f16]
  unfold chkF at hK
  cases hc1 : chkN l1 with
  | false =>
    rw [hc1] at hK
    (replace hb0 := true_and True); refine Go1.mk ?_; repeat' ((first | (with_reducible refine Go1.go ?_) | ((with_reducible first | refine brv_mk ?_ ?_ | refine gsplitD ?_ ?_ | refine gsplitG ?_ ?_) <;> intro h <;> (try simp only [Bool.not_eq_true', Bool.not_eq_false'] at h) <;> replace hb0 := h) | ((first | (with_reducible refine isCall (f := 50) ?_; refine callA_nil (by kernel_rfl) ?_) | (with_reducible refine isCall0 (f := 50) ?_; refine callA0_nil (by kernel_rfl) ?_)); refine (check_ok u1 l1 h1 (by omega) ?_)) | (refine And.intro ?ob ?_; case ob => ((try simp only [sxO, ne_eq, maxLen] at *); omega)) | fail) <;> (try simp (config := { maxSteps := 1000000 }) only [hb0, h1.one, h2.one, hc1, ↓hold_pre, awayP, runOps, regK, step1, newK, genR, appR, obl, buildR, Value.cells, closeK, keepH, outV, retK, ret1, retC, RetV, Option.getD, runD, stepD, afterK, undef, simprocAttr, sxB, ↓sxD, sxE, sxTab]))
    exact hK _ (Mem.le.refl _)
  | true =>
    cases hc2 : chkN l2 with
    | false =>
      rw [hc1, hc2] at hK
      (replace hb0 := true_and True); refine Go1.mk ?_; repeat' ((first | (with_reducible refine Go1.go ?_) | ((with_reducible first | refine brv_mk ?_ ?_ | refine gsplitD ?_ ?_ | refine gsplitG ?_ ?_) <;> intro h <;> (try simp only [Bool.not_eq_true', Bool.not_eq_false'] at h) <;> replace hb0 := h) | ((first | (with_reducible refine isCall (f := 50) ?_; refine callA_nil (by kernel_rfl) ?_) | (with_reducible refine isCall0 (f := 50) ?_; refine callA0_nil (by kernel_rfl) ?_)); refine (check_ok u1 l1 h1 (by omega) ?_)) | ((first | (with_reducible refine isCall (f := 50) ?_; refine callA_nil (by kernel_rfl) ?_) | (with_reducible refine isCall0 (f := 50) ?_; refine callA0_nil (by kernel_rfl) ?_)); refine (check_ok u2 l2 h2 (by omega) ?_)) | (refine And.intro ?ob ?_; case ob => ((try simp only [sxO, ne_eq, maxLen] at *); omega)) | fail) <;> (try simp (config := { maxSteps := 1000000 }) only [hb0, h1.one, h2.one, hc1, hc2, ↓hold_pre, awayP, runOps, regK, step1, newK, genR, appR, obl, buildR, Value.cells, closeK, keepH, outV, retK, ret1, retC, RetV, Option.getD, runD, stepD, afterK, undef, simprocAttr, sxB, ↓sxD, sxE, sxTab]))
      exact hK _ (Mem.le.refl _)
    | true =>
      obtain ⟨e1, _⟩ := chkN_ok o1 hc1
      obtain ⟨e2, _⟩ := chkN_ok o2 hc2
      have h1' := h1
      have h2' := h2
      rw [e1] at h1'
      rw [e2] at h2'
      have hz := nil_iff e2
      by_cases h0 : valN l2 = 0
      · rw [hc1, hc2, decide_eq_true h0] at hK
        have d1 : decide ((l2.length : Int) = 0) = true := by rw [decide_eq_true_eq]; have := hz.2 h0; omega
        (replace hb0 := true_and True); refine Go1.mk ?_; repeat' ((first | (with_reducible refine Go1.go ?_) | ((with_reducible first | refine brv_mk ?_ ?_ | refine gsplitD ?_ ?_ | refine gsplitG ?_ ?_) <;> intro h <;> (try simp only [Bool.not_eq_true', Bool.not_eq_false'] at h) <;> replace hb0 := h) | ((first | (with_reducible refine isCall (f := 50) ?_; refine callA_nil (by kernel_rfl) ?_) | (with_reducible refine isCall0 (f := 50) ?_; refine callA0_nil (by kernel_rfl) ?_)); refine (check_ok u1 l1 h1 (by omega) ?_)) | ((first | (with_reducible refine isCall (f := 50) ?_; refine callA_nil (by kernel_rfl) ?_) | (with_reducible refine isCall0 (f := 50) ?_; refine callA0_nil (by kernel_rfl) ?_)); refine (check_ok u2 l2 h2 (by omega) ?_)) | (refine And.intro ?ob ?_; case ob => ((try simp only [sxO, ne_eq, maxLen] at *); omega)) | fail) <;> (try simp (config := { maxSteps := 1000000 }) only [hb0, h1.one, h2.one, h2.len, h2.sl, hc1, hc2, d1, ↓hold_pre, awayP, runOps, regK, step1, newK, genR, appR, obl, buildR, Value.cells, closeK, keepH, outV, retK, ret1, retC, RetV, Option.getD, runD, stepD, afterK, undef, simprocAttr, sxB, ↓sxD, sxE, sxTab]))
        exact hK _ (Mem.le.refl _)
      have d1 : decide ((l2.length : Int) = 0) = false := by rw [decide_eq_false_iff_not]; have := fun h => h0 (hz.1 h); omega
      rw [hc1, hc2, decide_eq_false h0] at hK
      (replace hb0 := true_and True); refine Go1.mk ?_; repeat' ((first | (with_reducible refine Go1.go ?_) | ((with_reducible first | refine brv_mk ?_ ?_ | refine gsplitD ?_ ?_ | refine gsplitG ?_ ?_) <;> intro h <;> (try simp only [Bool.not_eq_true', Bool.not_eq_false'] at h) <;> replace hb0 := h) | ((first | (with_reducible refine isCall (f := 50) ?_; refine callA_nil (by kernel_rfl) ?_) | (with_reducible refine isCall0 (f := 50) ?_; refine callA0_nil (by kernel_rfl) ?_)); refine (check_ok u1 l1 h1 (by omega) ?_)) | ((first | (with_reducible refine isCall (f := 50) ?_; refine callA_nil (by kernel_rfl) ?_) | (with_reducible refine isCall0 (f := 50) ?_; refine callA0_nil (by kernel_rfl) ?_)); refine (check_ok u2 l2 h2 (by omega) ?_)) | ((first | (with_reducible refine isCall (f := 56) ?_; refine callA_nil (by kernel_rfl) ?_) | (with_reducible refine isCall0 (f := 56) ?_; refine callA0_nil (by kernel_rfl) ?_)); refine (gcd_ok u1 u2 _ _ h1' h2' (by rw [← e1]; omega) (by rw [← e2]; omega) (fun g M1 a1 a2 a3 => Stop.mk ?_))) | (refine And.intro ?ob ?_; case ob => ((try simp only [sxO, ne_eq, maxLen] at *); omega)) | fail) <;> (try simp (config := { maxSteps := 1000000 }) only [hb0, h1.one, h2.one, h2.len, h2.sl, hc1, hc2, d1, ↓hold_pre, awayP, runOps, regK, step1, newK, genR, appR, obl, buildR, Value.cells, closeK, keepH, outV, retK, ret1, retC, RetV, Option.getD, runD, stepD, afterK, undef, simprocAttr, sxB, ↓sxD, sxE, sxTab]))
      have a1 : Mem.le M M1 := a1
      have hgl := len_mono (Nat.gcd_le_right (valN l1) (show 0 < valN l2 by omega))
      rw [← e2] at hgl
      have hiff := one_iff (Nat.gcd (valN l1) (valN l2))
      refine Stop.go ?_
      obtain ⟨gg, hgg⟩ : ∃ gg, gg = Nat.gcd (valN l1) (valN l2) := ⟨_, rfl⟩
      rw [← hgg] at hK hgl hiff a2
      clear hgg
      by_cases hl : (ofN gg).length = 1
      · have d2 : decide (((ofN gg).length : Int) = 1) = true := by rw [decide_eq_true_eq]; omega
        have hyi := a2.idx (P := Tryd.prog) (T := 70) tk70 tz70 (by omega) (show 0 < (ofN gg).length by omega)
        have hat : (ofN gg).getD 0 0 = (ofN gg)[0] := by simp [List.getD_eq_getElem?_getD, hl]
        rw [hat] at hiff
        have d3 : decide ((((ofN gg)[0] : Nat) : Int) = 1) = (gg == 1) := by
          rw [Bool.eq_iff_iff, decide_eq_true_eq, beq_iff_eq, hiff]
          constructor
          · intro h; exact ⟨hl, by omega⟩
          · intro h; omega
        generalize (ofN gg)[0] = g0 at *
        (replace hb0 := true_and True); refine Go1.mk ?_; repeat' ((first | (with_reducible refine Go1.go ?_) | ((with_reducible first | refine brv_mk ?_ ?_ | refine gsplitD ?_ ?_ | refine gsplitG ?_ ?_) <;> intro h <;> (try simp only [Bool.not_eq_true', Bool.not_eq_false'] at h) <;> replace hb0 := h) | (refine And.intro ?ob ?_; case ob => ((try simp only [sxO, ne_eq, maxLen] at *); omega)) | fail) <;> (try simp (config := { maxSteps := 1000000 }) only [hb0, u32V, a2.one, a2.len, a2.sl, d2, d3, hyi, Int.natCast_zero, Int.cast_ofNat_Int, ↓hold_pre, awayP, runOps, regK, step1, newK, genR, appR, obl, buildR, Value.cells, closeK, keepH, outV, retK, ret1, retC, RetV, Option.getD, runD, stepD, afterK, undef, simprocAttr, sxB, ↓sxD, sxE, sxTab]))
        exact hK _ a1
      · have d2 : decide (((ofN gg).length : Int) = 1) = false := by rw [decide_eq_false_iff_not]; omega
        rw [show (gg == 1) = false from beq_eq_false_iff_ne.2 (fun h => hl (hiff.1 h).1)] at hK
        (replace hb0 := true_and True); refine Go1.mk ?_; repeat' ((first | (with_reducible refine Go1.go ?_) | ((with_reducible first | refine brv_mk ?_ ?_ | refine gsplitD ?_ ?_ | refine gsplitG ?_ ?_) <;> intro h <;> (try simp only [Bool.not_eq_true', Bool.not_eq_false'] at h) <;> replace hb0 := h) | (refine And.intro ?ob ?_; case ob => ((try simp only [sxO, ne_eq, maxLen] at *); omega)) | fail) <;> (try simp (config := { maxSteps := 1000000 }) only [hb0, a2.one, a2.len, a2.sl, d2, ↓hold_pre, awayP, runOps, regK, step1, newK, genR, appR, obl, buildR, Value.cells, closeK, keepH, outV, retK, ret1, retC, RetV, Option.getD, runD, stepD, afterK, undef, simprocAttr, sxB, ↓sxD, sxE, sxTab]))
        exact hK _ a1
def CrossK (M : Mem) (K : AV → Hp → Mem → Prop) (x y : Nat) : Prop := ∀ w1 w2 M', Mem.le M M' → IsL M' u32V w1 (ofN x) → IsL M' u32V w2 (ofN y) → FreshS M w1 → FreshS M w2 → K (.ext (.tuple #[w1, w2])) [] M'
theorem cross_ok {v1 v2 : Value} {n1 d1 n2 d2 : Nat} (h1 : IsL M u32V u1 (ofN n1)) (h2 : IsL M u32V u2 (ofN d1)) (k1 : IsL M u32V v1 (ofN n2)) (k2 : IsL M u32V v2 (ofN d2)) (b1 : (ofN n1).length < 1000000) (b2 : (ofN d1).length < 1000000) (b3 : (ofN n2).length < 1000000) (b4 : (ofN d2).length < 1000000) (hK : CrossK M K (n1 * d2) (n2 * d1)) : CallS Tryd.prog 61 [.ext (.agg #[u1, u2]), .ext (.agg #[v1, v2])] [] M [] K := by
  refine inlS (cs := []) Tryd.mixed Tryd.func61 rfl (by kernel_rfl) 0 rfl rfl ?_
  simp only [Tryd.f61]
  (replace hb0 := true_and True); refine Go1.mk ?_; repeat' ((first | (with_reducible refine Go1.go ?_) | ((with_reducible first | refine brv_mk ?_ ?_ | refine gsplitD ?_ ?_ | refine gsplitG ?_ ?_) <;> intro h <;> (try simp only [Bool.not_eq_true', Bool.not_eq_false'] at h) <;> replace hb0 := h) | ((first | (with_reducible refine isCall (f := 64) ?_; refine callA_nil (by kernel_rfl) ?_) | (with_reducible refine isCall0 (f := 64) ?_; refine callA0_nil (by kernel_rfl) ?_)); refine (mul_ok u1 v2 n1 d2 h1 k2 (by omega) (by omega) (fun w1 M1 a1 a2 a3 => Stop.mk ?_))) | ((with_reducible refine isDraw [some 6, some 7, some 8, some 9, some 10, some 11, some 12, some 13, some 14, some 15, some 4, some 5] (by decide) ?_); refine draw_rule [(0, []), (1, []), (2, [1]), (3, [1]), (5, [1, 3]), (6, [1, 3]), (7, [1, 3, 6]), (8, [1, 3, 6]), (4, [6, 8]), (9, []), (10, []), (11, [])] [[], [0], [], [2], [0, 1, 2, 3], [], [5], [], [7], [0, 1, 2, 3, 4, 5, 6, 7, 8], [0, 1, 2, 3, 4, 5, 6, 7, 8, 9], [0, 1, 2, 3, 4, 5, 6, 7, 8, 9, 10]] [6, 7, 8, 9, 10, 11, 12, 13, 14] [] (by kernel_rfl) (by kernel_rfl) (by kernel_rfl) (by kernel_rfl) (by exact trivial) ?_) | (refine And.intro ?ob ?_; case ob => ((try simp only [sxO, ne_eq, maxLen] at *); omega)) | fail) <;> (try simp (config := { maxSteps := 1000000 }) only [hb0, h1.one, h2.one, k1.one, k2.one, ↓hold_pre, awayP, runOps, regK, step1, newK, genR, appR, obl, buildR, Value.cells, closeK, keepH, outV, retK, ret1, retC, RetV, Option.getD, runD, stepD, afterK, undef, simprocAttr, sxB, ↓sxD, sxE, sxTab]))
  have a1 : Mem.le M M1 := a1
  have h1' := h1.le a1
  have h2' := h2.le a1
  have k1' := k1.le a1
  have k2' := k2.le a1
  refine Stop.go ?_
  (replace hb0 := true_and True); refine Go1.mk ?_; repeat' ((first | (with_reducible refine Go1.go ?_) | ((with_reducible first | refine brv_mk ?_ ?_ | refine gsplitD ?_ ?_ | refine gsplitG ?_ ?_) <;> intro h <;> (try simp only [Bool.not_eq_true', Bool.not_eq_false'] at h) <;> replace hb0 := h) | ((first | (with_reducible refine isCall (f := 64) ?_; refine callA_nil (by kernel_rfl) ?_) | (with_reducible refine isCall0 (f := 64) ?_; refine callA0_nil (by kernel_rfl) ?_)); refine (mul_ok v1 u2 n2 d1 k1' h2' (by omega) (by omega) (fun w2 M2 c1 c2 c3 => Stop.mk ?_))) | ((with_reducible refine isDraw [some 6, some 7, some 8, some 9, some 10, some 11, some 12, some 13, some 14, some 15, some 4, some 5] (by decide) ?_); refine draw_rule [(0, []), (1, []), (2, [1]), (3, [1]), (5, [1, 3]), (6, [1, 3]), (7, [1, 3, 6]), (8, [1, 3, 6]), (4, [6, 8]), (9, []), (10, []), (11, [])] [[], [0], [], [2], [0, 1, 2, 3], [], [5], [], [7], [0, 1, 2, 3, 4, 5, 6, 7, 8], [0, 1, 2, 3, 4, 5, 6, 7, 8, 9], [0, 1, 2, 3, 4, 5, 6, 7, 8, 9, 10]] [6, 7, 8, 9, 10, 11, 12, 13, 14] [] (by kernel_rfl) (by kernel_rfl) (by kernel_rfl) (by kernel_rfl) (by exact trivial) ?_) | (refine And.intro ?ob ?_; case ob => ((try simp only [sxO, ne_eq, maxLen] at *); omega)) | fail) <;> (try simp (config := { maxSteps := 1000000 }) only [hb0, h1'.one, h2'.one, k1'.one, k2'.one, a2.one, ↓hold_pre, awayP, runOps, regK, step1, newK, genR, appR, obl, buildR, Value.cells, closeK, keepH, outV, retK, ret1, retC, RetV, Option.getD, runD, stepD, afterK, undef, simprocAttr, sxB, ↓sxD, sxE, sxTab]))
  have c1 : Mem.le M1 M2 := c1
  refine Stop.go ?_
  (replace hb0 := true_and True); refine Go1.mk ?_; repeat' ((first | (with_reducible refine Go1.go ?_) | ((with_reducible first | refine brv_mk ?_ ?_ | refine gsplitD ?_ ?_ | refine gsplitG ?_ ?_) <;> intro h <;> (try simp only [Bool.not_eq_true', Bool.not_eq_false'] at h) <;> replace hb0 := h) | (refine And.intro ?ob ?_; case ob => ((try simp only [sxO, ne_eq, maxLen] at *); omega)) | fail) <;> (try simp (config := { maxSteps := 1000000 }) only [hb0, a2.one, c2.one, ↓hold_pre, awayP, runOps, regK, step1, newK, genR, appR, obl, buildR, Value.cells, closeK, keepH, outV, retK, ret1, retC, RetV, Option.getD, runD, stepD, afterK, undef, simprocAttr, sxB, ↓sxD, sxE, sxTab]))
  exact hK _ _ _ (a1.trans c1) (a2.le c1) c2 a3 (c3.le a1)
end
end Go.Proofs.YtamghpnjdohnjaaDoor.Sx
