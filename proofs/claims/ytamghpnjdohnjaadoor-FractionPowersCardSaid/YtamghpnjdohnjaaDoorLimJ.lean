import Derived.Test.YtamghpnjdohnjaaDoorLimI
/- Limbs: greatest common divisors, digits of 64 bits, powers. -/
namespace Go.Proofs.YtamghpnjdohnjaaDoor.Sx
open Go Go.RowKit
set_option linter.unusedVariables false
set_option linter.unusedSimpArgs false
set_option maxRecDepth 100000
set_option maxHeartbeats 8000000
attribute [local congr] fin_congr finG_congr stepG_congr step1_congr runOps_congr brv_congr obl_congr condK_congr LoopK_congr seqK_congr CutK_congr vc_congr DrawK_congr regK_congr CallK_congr AskK_congr newK_congr retC_congr ret1_congr retK_congr outV_congr closeK_congr genR_congr appR_congr finD_congr finGD_congr stepGD_congr stepD_congr CallK0_congr runD_congr okR_congr CallS_congr vcX_congr
attribute [local congr] Stop_congr
section
variable {M : Mem} {K : AV → Hp → Mem → Prop}
def gcSt (M : Mem) (u v : Value) : St := { env := [(0, .ext u), (1, .ext v)], hp := [], M := M, kb := 0, fx := [] }
theorem gcd_ok (u v : Value) (x y : Nat) (hu : IsL M u32V u (ofN x)) (hv : IsL M u32V v (ofN y)) (hx : (ofN x).length < 10000000) (hy : (ofN y).length < 10000000) (hK : NatK M K (Nat.gcd x y)) : CallS Tryd.prog 56 [.ext u, .ext v] [] M [] K := by
  refine inlS (cs := []) Tryd.mixed Tryd.func56 rfl (by kernel_rfl) 0 rfl rfl ?_
  simp only [Tryd.f56]
  (replace hb0 := true_and True); refine Go1.mk ?_; repeat' ((first | (with_reducible refine Go1.go ?_) | ((with_reducible first | refine brv_mk ?_ ?_ | refine gsplitD ?_ ?_ | refine gsplitG ?_ ?_) <;> intro h <;> (try simp only [Bool.not_eq_true', Bool.not_eq_false'] at h) <;> replace hb0 := h) | (refine And.intro ?ob ?_; case ob => ((try simp only [sxO, ne_eq, maxLen] at *); omega)) | fail) <;> (try simp (config := { maxSteps := 1000000 }) only [hb0, cE_ment, hasK_nil, cE_kill, cE_len, u32_one, u32_app1, u32_set, Nat.mul_one, hu.one, hv.one, ↓hold_pre, awayP, runOps, regK, step1, newK, genR, appR, obl, buildR, Value.cells, closeK, keepH, outV, retK, ret1, retC, RetV, Option.getD, runD, stepD, afterK, undef, simprocAttr, sxB, ↓sxD, sxE, sxTab]))
  refine ⟨fun d z => ∃ M' u v a b, b = d ∧ Mem.le M M' ∧ IsL M' u32V u (ofN a) ∧ IsL M' u32V v (ofN b) ∧ (ofN a).length < 10000000 ∧ (ofN b).length < 10000000 ∧ Nat.gcd a b = Nat.gcd x y ∧ z = gcSt M' u v,
    ⟨y, gcSt M u v, le_sub ⟨rfl, rfl, trivial⟩ trivial rfl rfl rfl (keepLt0 _), ⟨M, u, v, x, y, rfl, Mem.le.refl _, hu, hv, hx, hy, rfl, rfl⟩⟩, ?_⟩
  clear hu hv
  rintro d z ⟨M1, u, v, a, b, rfl, hM1, hu, hv, ha, hb, hg, rfl⟩
  by_cases hlt : 0 < (ofN b).length
  case neg =>
    have hl0 : (ofN b).length = 0 := by omega
    have d1 : decide ((0 : Int) < ((ofN b).length : Int)) = false := by rw [hl0]; rfl
    have hb0 : b = 0 := ofN_nil.1 (List.length_eq_zero_iff.1 hl0)
    subst hb0
    rw [Nat.gcd_zero_right] at hg
    rw [← hg] at hK
    (replace hb0 := true_and True); refine Go1.mk ?_; repeat' ((first | (with_reducible refine Go1.go ?_) | ((with_reducible first | refine brv_mk ?_ ?_ | refine gsplitD ?_ ?_ | refine gsplitG ?_ ?_) <;> intro h <;> (try simp only [Bool.not_eq_true', Bool.not_eq_false'] at h) <;> replace hb0 := h) | ((first | (with_reducible refine isCall (f := 90) ?_; refine callA_nil (by kernel_rfl) ?_) | (with_reducible refine isCall0 (f := 90) ?_; refine callA0_nil (by kernel_rfl) ?_)); refine (clone_ok u (ofN a) hu (by omega) (fun w M' h1 h2 h3 => ?_))) | (refine And.intro ?ob ?_; case ob => ((try simp only [sxO, ne_eq, maxLen] at *); omega)) | fail) <;> (try simp (config := { maxSteps := 1000000 }) only [hb0, cE_ment, hasK_nil, cE_kill, cE_len, u32_one, u32_app1, u32_set, Nat.mul_one, gcSt, d1, hu.one, hv.one, hv.len, hv.sl, ↓hold_pre, awayP, runOps, regK, step1, newK, genR, appR, obl, buildR, Value.cells, closeK, keepH, outV, retK, ret1, retC, RetV, Option.getD, runD, stepD, afterK, undef, simprocAttr, sxB, ↓sxD, sxE, sxTab]))
    exact hK _ _ (hM1.trans h1) h2 (h3.le hM1)
  have d1 : decide ((0 : Int) < ((ofN b).length : Int)) = true := by simp; omega
  have hbp : 0 < b := by
    rcases Nat.eq_zero_or_pos b with h | h
    · subst h; rw [ofN_zero] at hlt; simp at hlt
    · exact h
  have hlt2 := Nat.mod_lt a hbp
  have hlen := len_mono (Nat.le_of_lt hlt2)
  (replace hb0 := true_and True); refine Go1.mk ?_; repeat' ((first | (with_reducible refine Go1.go ?_) | ((with_reducible first | refine brv_mk ?_ ?_ | refine gsplitD ?_ ?_ | refine gsplitG ?_ ?_) <;> intro h <;> (try simp only [Bool.not_eq_true', Bool.not_eq_false'] at h) <;> replace hb0 := h) | ((first | (with_reducible refine isCall (f := 77) ?_; refine callA_nil (by kernel_rfl) ?_) | (with_reducible refine isCall0 (f := 77) ?_; refine callA0_nil (by kernel_rfl) ?_)); refine (divide_ok u v a b hu hv ha hb hbp (fun q r M' h1 h2 h3 h4 h5 => Stop.mk ?_))) | (refine And.intro ?ob ?_; case ob => ((try simp only [sxO, ne_eq, maxLen] at *); omega)) | fail) <;> (try simp (config := { maxSteps := 1000000 }) only [hb0, cE_ment, hasK_nil, cE_kill, cE_len, u32_one, u32_app1, u32_set, Nat.mul_one, gcSt, d1, hu.one, hv.one, hv.len, hv.sl, ↓hold_pre, awayP, runOps, regK, step1, newK, genR, appR, obl, buildR, Value.cells, closeK, keepH, outV, retK, ret1, retC, RetV, Option.getD, runD, stepD, afterK, undef, simprocAttr, sxB, ↓sxD, sxE, sxTab]))
  refine Stop.go ?_
  (replace hb0 := true_and True); refine Go1.mk ?_; repeat' ((first | (with_reducible refine Go1.go ?_) | ((with_reducible first | refine brv_mk ?_ ?_ | refine gsplitD ?_ ?_ | refine gsplitG ?_ ?_) <;> intro h <;> (try simp only [Bool.not_eq_true', Bool.not_eq_false'] at h) <;> replace hb0 := h) | (refine And.intro ?ob ?_; case ob => ((try simp only [sxO, ne_eq, maxLen] at *); omega)) | fail) <;> (try simp (config := { maxSteps := 1000000 }) only [hb0, cE_ment, hasK_nil, cE_kill, cE_len, u32_one, u32_app1, u32_set, Nat.mul_one, gcSt, d1, hu.one, hv.one, hv.len, hv.sl, h2.one, h3.one, ↓hold_pre, awayP, runOps, regK, step1, newK, genR, appR, obl, buildR, Value.cells, closeK, keepH, outV, retK, ret1, retC, RetV, Option.getD, runD, stepD, afterK, undef, simprocAttr, sxB, ↓sxD, sxE, sxTab]))
  exact ⟨a % b, gcSt M' v r, by omega, le_sub ⟨rfl, rfl, trivial⟩ trivial rfl rfl rfl (keepLt0 _), M', v, r, b, a % b, rfl, hM1.trans h1, hv.le h1, h3, hb, by omega, by
    rw [← hg, Nat.gcd_comm b, ← Nat.gcd_rec, Nat.gcd_comm], rfl⟩
theorem shr16_64 (a : Nat) : (a : Int).fdiv (2 ^ (min 16 IntKind.u64.bits)) = ((a / 65536 : Nat) : Int) := by
  have h1 : min 16 IntKind.u64.bits = 16 := rfl
  rw [h1, Int.fdiv_eq_ediv_of_nonneg _ (by decide)]; omega
theorem shr8_64 (a : Nat) : (a : Int).fdiv (2 ^ (min 8 IntKind.u64.bits)) = ((a / 256 : Nat) : Int) := by
  have h1 : min 8 IntKind.u64.bits = 8 := rfl
  rw [h1, Int.fdiv_eq_ediv_of_nonneg _ (by decide)]; omega
theorem len64_ok (x : Nat) (hx : x < 4294967296) (hK : K (.ext (.int .i64 (blen x : Int))) [] M) : CallS Tryd.prog 117 [.ext (.int .u64 (x : Int))] [] M [] K := by
  refine inlS (cs := []) Tryd.mixed Tryd.func117 rfl (by kernel_rfl) 0 rfl rfl ?_
  simp only [Tryd.f117]
  have w1 := shr16_64 x
  have w2 := shr8_64 x
  have w3 := shr8_64 (x / 65536)
  have w4 : IntKind.i64.wrap 24 = 24 := rfl
  have w5 : IntKind.i64.wrap 8 = 8 := rfl
  have w6 : IntKind.i64.wrap 16 = 16 := rfl
  have b1 : 65536 ≤ x → blen x = blen (x / 65536) + 16 := fun h => blen_shift 16 x h
  have b2 : 256 ≤ x → blen x = blen (x / 256) + 8 := fun h => blen_shift 8 x h
  have b3 : 256 ≤ x / 65536 → blen (x / 65536) = blen (x / 65536 / 256) + 8 := fun h => blen_shift 8 (x / 65536) h
  have d0 : decide ((4294967296 : Int) ≤ (x : Int)) = false := by simp; omega
  by_cases h1 : 65536 ≤ x
  · have d1 : decide ((65536 : Int) ≤ (x : Int)) = true := by simp; omega
    by_cases h2 : 256 ≤ x / 65536
    · have d2 : decide ((256 : Int) ≤ ((x / 65536 : Nat) : Int)) = true := by rw [decide_eq_true_eq]; omega
      (replace hb0 := true_and True); refine Go1.mk ?_; repeat' ((first | (with_reducible refine Go1.go ?_) | ((with_reducible first | refine brv_mk ?_ ?_ | refine gsplitD ?_ ?_ | refine gsplitG ?_ ?_) <;> intro h <;> (try simp only [Bool.not_eq_true', Bool.not_eq_false'] at h) <;> replace hb0 := h) | (refine And.intro ?ob ?_; case ob => ((try simp only [sxO, ne_eq, maxLen] at *); omega)) | fail) <;> (try simp (config := { maxSteps := 1000000 }) only [hb0, d0, d1, d2, w1, w3, w4, w6, ↓hold_pre, awayP, runOps, regK, step1, newK, genR, appR, obl, buildR, Value.cells, closeK, keepH, outV, retK, ret1, retC, RetV, Option.getD, runD, stepD, afterK, undef, simprocAttr, sxB, ↓sxD, sxE, sxTab]))
      refine len_fin _ x _ 24 24 rfl (by omega) (by omega) (by rw [b1 (by omega)]; have := b3 (by omega); omega) ?_ hK
      exact ⟨by decide +kernel, by decide +kernel⟩
    · have d2 : decide ((256 : Int) ≤ ((x / 65536 : Nat) : Int)) = false := by rw [decide_eq_false_iff_not]; omega
      (replace hb0 := true_and True); refine Go1.mk ?_; repeat' ((first | (with_reducible refine Go1.go ?_) | ((with_reducible first | refine brv_mk ?_ ?_ | refine gsplitD ?_ ?_ | refine gsplitG ?_ ?_) <;> intro h <;> (try simp only [Bool.not_eq_true', Bool.not_eq_false'] at h) <;> replace hb0 := h) | (refine And.intro ?ob ?_; case ob => ((try simp only [sxO, ne_eq, maxLen] at *); omega)) | fail) <;> (try simp (config := { maxSteps := 1000000 }) only [hb0, d0, d1, d2, w1, w4, w6, ↓hold_pre, awayP, runOps, regK, step1, newK, genR, appR, obl, buildR, Value.cells, closeK, keepH, outV, retK, ret1, retC, RetV, Option.getD, runD, stepD, afterK, undef, simprocAttr, sxB, ↓sxD, sxE, sxTab]))
      refine len_fin _ x _ 16 16 rfl (by omega) (by omega) (b1 (by omega)) ?_ hK
      exact ⟨by decide +kernel, by decide +kernel⟩
  · have d1 : decide ((65536 : Int) ≤ (x : Int)) = false := by simp; omega
    by_cases h2 : 256 ≤ x
    · have d2 : decide ((256 : Int) ≤ (x : Int)) = true := by rw [decide_eq_true_eq]; omega
      (replace hb0 := true_and True); refine Go1.mk ?_; repeat' ((first | (with_reducible refine Go1.go ?_) | ((with_reducible first | refine brv_mk ?_ ?_ | refine gsplitD ?_ ?_ | refine gsplitG ?_ ?_) <;> intro h <;> (try simp only [Bool.not_eq_true', Bool.not_eq_false'] at h) <;> replace hb0 := h) | (refine And.intro ?ob ?_; case ob => ((try simp only [sxO, ne_eq, maxLen] at *); omega)) | fail) <;> (try simp (config := { maxSteps := 1000000 }) only [hb0, d0, d1, d2, w2, w5, ↓hold_pre, awayP, runOps, regK, step1, newK, genR, appR, obl, buildR, Value.cells, closeK, keepH, outV, retK, ret1, retC, RetV, Option.getD, runD, stepD, afterK, undef, simprocAttr, sxB, ↓sxD, sxE, sxTab]))
      refine len_fin _ x _ 8 8 rfl (by omega) (by omega) (b2 (by omega)) ?_ hK
      exact ⟨by decide +kernel, by decide +kernel⟩
    · have d2 : decide ((256 : Int) ≤ (x : Int)) = false := by rw [decide_eq_false_iff_not]; omega
      (replace hb0 := true_and True); refine Go1.mk ?_; repeat' ((first | (with_reducible refine Go1.go ?_) | ((with_reducible first | refine brv_mk ?_ ?_ | refine gsplitD ?_ ?_ | refine gsplitG ?_ ?_) <;> intro h <;> (try simp only [Bool.not_eq_true', Bool.not_eq_false'] at h) <;> replace hb0 := h) | (refine And.intro ?ob ?_; case ob => ((try simp only [sxO, ne_eq, maxLen] at *); omega)) | fail) <;> (try simp (config := { maxSteps := 1000000 }) only [hb0, d0, d1, d2, ↓hold_pre, awayP, runOps, regK, step1, newK, genR, appR, obl, buildR, Value.cells, closeK, keepH, outV, retK, ret1, retC, RetV, Option.getD, runD, stepD, afterK, undef, simprocAttr, sxB, ↓sxD, sxE, sxTab]))
      refine len_fin _ x _ 0 0 rfl (by omega) (by omega) rfl ?_ hK
      exact ⟨by decide +kernel, by decide +kernel⟩
theorem len_ok (x : Nat) (hx : x < 4294967296) (hK : K (.ext (.int .i64 (blen x : Int))) [] M) : CallS Tryd.prog 97 [.ext (.int .u64 (x : Int))] [] M [] K := by
  refine inlS (cs := []) Tryd.mixed Tryd.func97 rfl (by kernel_rfl) 0 rfl rfl ?_
  simp only [Tryd.f97]
  (replace hb0 := true_and True); refine Go1.mk ?_; repeat' ((first | (with_reducible refine Go1.go ?_) | ((with_reducible first | refine brv_mk ?_ ?_ | refine gsplitD ?_ ?_ | refine gsplitG ?_ ?_) <;> intro h <;> (try simp only [Bool.not_eq_true', Bool.not_eq_false'] at h) <;> replace hb0 := h) | ((first | (with_reducible refine isCall (f := 117) ?_; refine callA_nil (by kernel_rfl) ?_) | (with_reducible refine isCall0 (f := 117) ?_; refine callA0_nil (by kernel_rfl) ?_)); refine (len64_ok x hx ?_)) | (refine And.intro ?ob ?_; case ob => ((try simp only [sxO, ne_eq, maxLen] at *); omega)) | fail) <;> (try simp (config := { maxSteps := 1000000 }) only [hb0, ↓hold_pre, awayP, runOps, regK, step1, newK, genR, appR, obl, buildR, Value.cells, closeK, keepH, outV, retK, ret1, retC, RetV, Option.getD, runD, stepD, afterK, undef, simprocAttr, sxB, ↓sxD, sxE, sxTab]))
  exact hK
theorem shr_step (x n i : Nat) : x ^ (n >>> i) = x ^ (n >>> (i + 1)) * x ^ (n >>> (i + 1)) * (if n.testBit i then x else 1) := by
  have h1 : n >>> i = 2 * (n >>> (i + 1)) + (n >>> i) % 2 := by
    rw [Nat.shiftRight_succ]; omega
  have h2 : n.testBit i = decide ((n >>> i) % 2 = 1) := by
    rw [Nat.testBit, Nat.and_comm, Nat.and_one_is_mod]
    rcases Nat.mod_two_eq_zero_or_one (n >>> i) with h | h <;> rw [h] <;> rfl
  rw [h2]
  conv => lhs; rw [h1]
  rw [Nat.pow_add, Nat.pow_mul, Nat.pow_two, Nat.mul_pow]
  rcases Nat.mod_two_eq_zero_or_one (n >>> i) with h | h <;> rw [h] <;> simp
theorem pow_long {x k n : Nat} (hk : 0 < k) (hkn : k ≤ n) (m : Nat) (h : m < (ofN (x ^ k)).length) : m < (ofN (x ^ n)).length := by
  rcases Nat.eq_zero_or_pos x with h0 | h0
  · subst h0
    rw [Nat.zero_pow hk, ofN_zero] at h; simp at h
  · exact Nat.lt_of_lt_of_le h (len_mono (Nat.pow_le_pow_right h0 hkn))
def pwSt (M : Mem) (u w : Value) (n most j : Nat) : St := { env := [(9, .ext (.int .i64 ((j : Int) - 1))), (8, .ext w), (0, .ext u), (1, .ext (.int .i64 (n : Int))), (2, .ext (.int .i64 (most : Int)))], hp := [], M := M, kb := 0, fx := [] }
theorem pow_ok (u : Value) (x n most : Nat) (hu : IsL M u32V u (ofN x)) (hx : (ofN x).length < 1000000) (hn : n < 1000000) (hm0 : 0 < most) (hm : most < 1000000)
    (hK1 : (ofN (x ^ n)).length ≤ most → ∀ w M', Mem.le M M' → IsL M' u32V w (ofN (x ^ n)) → FreshS M w → K (.ext (.tuple #[w, .bool true])) [] M')
    (hK2 : most < (ofN (x ^ n)).length → ∀ M', Mem.le M M' → K (.ext (.tuple #[.slice none 0 0, .bool false])) [] M') :
    CallS Tryd.prog 72 [.ext u, .ext (.int .i64 (n : Int)), .ext (.int .i64 (most : Int))] [] M [] K := by
  refine inlS (cs := []) Tryd.mixed Tryd.func72 rfl (by kernel_rfl) 0 rfl rfl ?_
  simp only [Tryd.f72]
  have w1 : IntKind.u64.wrap (n : Int) = (n : Int) := wrap64_id (by omega)
  have hbl : blen n ≤ 20 := (blen_iff 20 n).2 (by omega)
  have w2 : IntKind.i64.wrap ((blen n : Int) - 1) = (blen n : Int) - 1 := wrap_id (by omega) (by omega)
  (replace hb0 := true_and True); refine Go1.mk ?_; repeat' ((first | (with_reducible refine Go1.go ?_) | ((with_reducible first | refine brv_mk ?_ ?_ | refine gsplitD ?_ ?_ | refine gsplitG ?_ ?_) <;> intro h <;> (try simp only [Bool.not_eq_true', Bool.not_eq_false'] at h) <;> replace hb0 := h) | ((first | (with_reducible refine isCall (f := 82) ?_; refine callA_nil (by kernel_rfl) ?_) | (with_reducible refine isCall0 (f := 82) ?_; refine callA0_nil (by kernel_rfl) ?_)); refine (of_ok 1 (by omega) (fun w0 M0 g1 g2 g3 => Stop.mk ?_))) | (refine And.intro ?ob ?_; case ob => ((try simp only [sxO, ne_eq, maxLen] at *); omega)) | fail) <;> (try simp (config := { maxSteps := 1000000 }) only [hb0, cE_ment, hasK_nil, cE_kill, cE_len, u32_one, u32_app1, u32_set, Nat.mul_one, hu.one, w1, w2, ↓hold_pre, awayP, runOps, regK, step1, newK, genR, appR, obl, buildR, Value.cells, closeK, keepH, outV, retK, ret1, retC, RetV, Option.getD, runD, stepD, afterK, undef, simprocAttr, sxB, ↓sxD, sxE, sxTab]))
  refine Stop.go ?_
  (replace hb0 := true_and True); refine Go1.mk ?_; repeat' ((first | (with_reducible refine Go1.go ?_) | ((with_reducible first | refine brv_mk ?_ ?_ | refine gsplitD ?_ ?_ | refine gsplitG ?_ ?_) <;> intro h <;> (try simp only [Bool.not_eq_true', Bool.not_eq_false'] at h) <;> replace hb0 := h) | ((first | (with_reducible refine isCall (f := 97) ?_; refine callA_nil (by kernel_rfl) ?_) | (with_reducible refine isCall0 (f := 97) ?_; refine callA0_nil (by kernel_rfl) ?_)); refine (len_ok n (by omega) (Stop.mk ?_))) | (refine And.intro ?ob ?_; case ob => ((try simp only [sxO, ne_eq, maxLen] at *); omega)) | fail) <;> (try simp (config := { maxSteps := 1000000 }) only [hb0, cE_ment, hasK_nil, cE_kill, cE_len, u32_one, u32_app1, u32_set, Nat.mul_one, hu.one, g2.one, w1, w2, ↓hold_pre, awayP, runOps, regK, step1, newK, genR, appR, obl, buildR, Value.cells, closeK, keepH, outV, retK, ret1, retC, RetV, Option.getD, runD, stepD, afterK, undef, simprocAttr, sxB, ↓sxD, sxE, sxTab]))
  refine Stop.go ?_
  (replace hb0 := true_and True); refine Go1.mk ?_; repeat' ((first | (with_reducible refine Go1.go ?_) | ((with_reducible first | refine brv_mk ?_ ?_ | refine gsplitD ?_ ?_ | refine gsplitG ?_ ?_) <;> intro h <;> (try simp only [Bool.not_eq_true', Bool.not_eq_false'] at h) <;> replace hb0 := h) | (refine And.intro ?ob ?_; case ob => ((try simp only [sxO, ne_eq, maxLen] at *); omega)) | fail) <;> (try simp (config := { maxSteps := 1000000 }) only [hb0, cE_ment, hasK_nil, cE_kill, cE_len, u32_one, u32_app1, u32_set, Nat.mul_one, hu.one, g2.one, w1, w2, ↓hold_pre, awayP, runOps, regK, step1, newK, genR, appR, obl, buildR, Value.cells, closeK, keepH, outV, retK, ret1, retC, RetV, Option.getD, runD, stepD, afterK, undef, simprocAttr, sxB, ↓sxD, sxE, sxTab]))
  have h0 : n >>> blen n = 0 := by rw [Nat.shiftRight_eq_div_pow]; exact Nat.div_eq_of_lt ((blen_iff (blen n) n).1 (Nat.le_refl _))
  have hone : (ofN 1).length ≤ most := by have := ofN_len_le (n := 1) (k := 1) (by decide); omega
  refine ⟨fun d z => ∃ M' w j, j = d ∧ j ≤ blen n ∧ Mem.le M M' ∧ IsL M' u32V w (ofN (x ^ (n >>> j))) ∧ FreshS M w ∧ (ofN (x ^ (n >>> j))).length ≤ most ∧ z = pwSt M' u w n most j,
    ⟨blen n, pwSt M0 u w0 n most (blen n), le_sub ⟨rfl, rfl, rfl, rfl, rfl, trivial⟩ trivial rfl rfl rfl (keepLt0 _), ⟨M0, w0, _, rfl, Nat.le_refl _, g1, by rw [h0]; exact g2, g3, by rw [h0]; exact hone, rfl⟩⟩, ?_⟩
  clear g1 g2 g3
  rintro d z ⟨M1, w, j, rfl, hj, hM1, hw, hf, hwl, rfl⟩
  by_cases hlt : 0 < j
  case neg =>
    obtain rfl : j = 0 := by omega
    have d1 : decide ((0 : Int) ≤ ((0 : Nat) : Int) - 1) = false := by simp
    rw [Nat.shiftRight_zero] at hw hwl
    (replace hb0 := true_and True); refine Go1.mk ?_; repeat' ((first | (with_reducible refine Go1.go ?_) | ((with_reducible first | refine brv_mk ?_ ?_ | refine gsplitD ?_ ?_ | refine gsplitG ?_ ?_) <;> intro h <;> (try simp only [Bool.not_eq_true', Bool.not_eq_false'] at h) <;> replace hb0 := h) | (refine And.intro ?ob ?_; case ob => ((try simp only [sxO, ne_eq, maxLen] at *); omega)) | fail) <;> (try simp (config := { maxSteps := 1000000 }) only [hb0, cE_ment, hasK_nil, cE_kill, cE_len, u32_one, u32_app1, u32_set, Nat.mul_one, pwSt, hu.one, hw.one, d1, ↓hold_pre, awayP, runOps, regK, step1, newK, genR, appR, obl, buildR, Value.cells, closeK, keepH, outV, retK, ret1, retC, RetV, Option.getD, runD, stepD, afterK, undef, simprocAttr, sxB, ↓sxD, sxE, sxTab]))
    exact hK1 hwl _ _ hM1 hw hf
  obtain ⟨i, rfl⟩ : ∃ i, j = i + 1 := ⟨j - 1, by omega⟩
  have ej : (((i + 1 : Nat) : Int) - 1) = (i : Int) := by omega
  have d1 : decide ((0 : Int) ≤ (i : Int)) = true := by simp
  have w3 : IntKind.i64.wrap ((i : Int) - 1) = (i : Int) - 1 := wrap_id (by omega) (by omega)
  have w4 := shr_nat n i (by omega)
  have w5 := in_bit n i (by omega)
  have hs := shr_step x n i
  have hki : 0 < n >>> i := by
    rcases Nat.eq_zero_or_pos (n >>> i) with h | h
    · exfalso
      rw [Nat.shiftRight_eq_div_pow] at h
      have h2 : n < 2 ^ i := (Nat.div_eq_zero_iff.1 h).resolve_left (by have := Nat.two_pow_pos i; omega)
      have := (blen_iff i n).2 h2
      omega
    · exact h
  have hkn : n >>> i ≤ n := by rw [Nat.shiftRight_eq_div_pow]; exact Nat.div_le_self _ _
  have d0 : (0 : Int) ≤ (i : Int) := by omega
  (replace hb0 := true_and True); refine Go1.mk ?_; repeat' ((first | (with_reducible refine Go1.go ?_) | ((with_reducible first | refine brv_mk ?_ ?_ | refine gsplitD ?_ ?_ | refine gsplitG ?_ ?_) <;> intro h <;> (try simp only [Bool.not_eq_true', Bool.not_eq_false'] at h) <;> replace hb0 := h) | ((first | (with_reducible refine isCall (f := 64) ?_; refine callA_nil (by kernel_rfl) ?_) | (with_reducible refine isCall0 (f := 64) ?_; refine callA0_nil (by kernel_rfl) ?_)); refine (mul_ok w w _ _ hw hw (by omega) (by omega) (fun w2 M2 k1 k2 k3 => Stop.mk ?_))) | (refine And.intro ?ob ?_; case ob => ((try simp only [sxO, ne_eq, maxLen] at *); omega)) | fail) <;> (try simp (config := { maxSteps := 1000000 }) only [hb0, cE_ment, hasK_nil, cE_kill, cE_len, u32_one, u32_app1, u32_set, Nat.mul_one, pwSt, hu.one, hw.one, ej, d0, d1, w3, w4, w5, ↓hold_pre, awayP, runOps, regK, step1, newK, genR, appR, obl, buildR, Value.cells, closeK, keepH, outV, retK, ret1, retC, RetV, Option.getD, runD, stepD, afterK, undef, simprocAttr, sxB, ↓sxD, sxE, sxTab]))
  have k4 := ofN_len_le (n := x ^ (n >>> (i + 1)) * x ^ (n >>> (i + 1))) (k := most + most) (by
    have := ofN_len_lt hwl
    rw [wN_add]
    exact Nat.mul_lt_mul_of_lt_of_lt this this)
  refine Stop.go ?_
  have k1 : Mem.le M1 M2 := k1
  have leaf : ∀ (M3 : Mem) (w3 : Value) (s : St), Mem.le M M3 → IsL M3 u32V w3 (ofN (x ^ (n >>> i))) → FreshS M w3 → ((ofN (x ^ (n >>> i))).length ≤ most) → lk s.env 9 = .ext (.int .i64 ((i : Int) - 1)) → lk s.env 8 = .ext w3 → lk s.env 0 = .ext u → lk s.env 1 = .ext (.int .i64 (n : Int)) → lk s.env 2 = .ext (.int .i64 (most : Int)) → s.M = M3 → s.kb = 0 → s.fx = [] →
      ∃ m' z, m' < i + 1 ∧ Le s z ∧ ∃ M' w j, j = m' ∧ j ≤ blen n ∧ Mem.le M M' ∧ IsL M' u32V w (ofN (x ^ (n >>> j))) ∧ FreshS M w ∧ (ofN (x ^ (n >>> j))).length ≤ most ∧ z = pwSt M' u w n most j := fun M3 w3 s a1 a2 a3 a4 e9 e8 e0 e1 e2 eM ek ef =>
    ⟨i, pwSt M3 u w3 n most i, by omega, le_sub ⟨e9, e8, e0, e1, e2, trivial⟩ trivial eM.symm ek.symm ef.symm (by rw [ek]; exact keepLt0 _), M3, w3, i, rfl, by omega, a1, a2, a3, a4, rfl⟩
  cases hbit : n.testBit i with
  | false =>
    rw [hbit] at hs w5
    rw [show x ^ (n >>> (i + 1)) * x ^ (n >>> (i + 1)) = x ^ (n >>> i) by rw [hs]; simp] at k2
    have k2 : IsL M2 u32V w2 (ofN (x ^ (n >>> i))) := k2
    by_cases hle : (ofN (x ^ (n >>> i))).length ≤ most
    · have d2 : decide ((most : Int) < ((ofN (x ^ (n >>> i))).length : Int)) = false := by simp; omega
      (replace hb0 := true_and True); refine Go1.mk ?_; repeat' ((first | (with_reducible refine Go1.go ?_) | ((with_reducible first | refine brv_mk ?_ ?_ | refine gsplitD ?_ ?_ | refine gsplitG ?_ ?_) <;> intro h <;> (try simp only [Bool.not_eq_true', Bool.not_eq_false'] at h) <;> replace hb0 := h) | (refine And.intro ?ob ?_; case ob => ((try simp only [sxO, ne_eq, maxLen] at *); omega)) | fail) <;> (try simp (config := { maxSteps := 1000000 }) only [hb0, cE_ment, hasK_nil, cE_kill, cE_len, u32_one, u32_app1, u32_set, Nat.mul_one, hu.one, k2.one, k2.len, k2.sl, ej, d0, d1, d2, w3, w4, w5, ↓hold_pre, awayP, runOps, regK, step1, newK, genR, appR, obl, buildR, Value.cells, closeK, keepH, outV, retK, ret1, retC, RetV, Option.getD, runD, stepD, afterK, undef, simprocAttr, sxB, ↓sxD, sxE, sxTab]))
      exact leaf M2 w2 _ (hM1.trans k1) k2 (k3.le hM1) hle rfl rfl rfl rfl rfl rfl rfl rfl
    · have d2 : decide ((most : Int) < ((ofN (x ^ (n >>> i))).length : Int)) = true := by simp; omega
      (replace hb0 := true_and True); refine Go1.mk ?_; repeat' ((first | (with_reducible refine Go1.go ?_) | ((with_reducible first | refine brv_mk ?_ ?_ | refine gsplitD ?_ ?_ | refine gsplitG ?_ ?_) <;> intro h <;> (try simp only [Bool.not_eq_true', Bool.not_eq_false'] at h) <;> replace hb0 := h) | (refine And.intro ?ob ?_; case ob => ((try simp only [sxO, ne_eq, maxLen] at *); omega)) | fail) <;> (try simp (config := { maxSteps := 1000000 }) only [hb0, cE_ment, hasK_nil, cE_kill, cE_len, u32_one, u32_app1, u32_set, Nat.mul_one, hu.one, k2.one, k2.len, k2.sl, ej, d0, d1, d2, w3, w4, w5, ↓hold_pre, awayP, runOps, regK, step1, newK, genR, appR, obl, buildR, Value.cells, closeK, keepH, outV, retK, ret1, retC, RetV, Option.getD, runD, stepD, afterK, undef, simprocAttr, sxB, ↓sxD, sxE, sxTab]))
      exact hK2 (pow_long hki hkn most (by omega)) _ (hM1.trans k1)
  | true =>
    rw [hbit] at hs w5
    have hu2 := (hu.le hM1).le k1
    (replace hb0 := true_and True); refine Go1.mk ?_; repeat' ((first | (with_reducible refine Go1.go ?_) | ((with_reducible first | refine brv_mk ?_ ?_ | refine gsplitD ?_ ?_ | refine gsplitG ?_ ?_) <;> intro h <;> (try simp only [Bool.not_eq_true', Bool.not_eq_false'] at h) <;> replace hb0 := h) | ((first | (with_reducible refine isCall (f := 64) ?_; refine callA_nil (by kernel_rfl) ?_) | (with_reducible refine isCall0 (f := 64) ?_; refine callA0_nil (by kernel_rfl) ?_)); refine (mul_ok w2 u _ x k2 hu2 (by omega) (by omega) (fun wv M3 q1 q2 q3 => Stop.mk ?_))) | (refine And.intro ?ob ?_; case ob => ((try simp only [sxO, ne_eq, maxLen] at *); omega)) | fail) <;> (try simp (config := { maxSteps := 1000000 }) only [hb0, cE_ment, hasK_nil, cE_kill, cE_len, u32_one, u32_app1, u32_set, Nat.mul_one, hu.one, k2.one, k2.len, k2.sl, ej, d0, d1, w3, w4, w5, ↓hold_pre, awayP, runOps, regK, step1, newK, genR, appR, obl, buildR, Value.cells, closeK, keepH, outV, retK, ret1, retC, RetV, Option.getD, runD, stepD, afterK, undef, simprocAttr, sxB, ↓sxD, sxE, sxTab]))
    refine Stop.go ?_
    have q1 : Mem.le M2 M3 := q1
    rw [show x ^ (n >>> (i + 1)) * x ^ (n >>> (i + 1)) * x = x ^ (n >>> i) by rw [hs]; simp] at q2
    have q2 : IsL M3 u32V wv (ofN (x ^ (n >>> i))) := q2
    by_cases hle : (ofN (x ^ (n >>> i))).length ≤ most
    · have d2 : decide ((most : Int) < ((ofN (x ^ (n >>> i))).length : Int)) = false := by simp; omega
      (replace hb0 := true_and True); refine Go1.mk ?_; repeat' ((first | (with_reducible refine Go1.go ?_) | ((with_reducible first | refine brv_mk ?_ ?_ | refine gsplitD ?_ ?_ | refine gsplitG ?_ ?_) <;> intro h <;> (try simp only [Bool.not_eq_true', Bool.not_eq_false'] at h) <;> replace hb0 := h) | (refine And.intro ?ob ?_; case ob => ((try simp only [sxO, ne_eq, maxLen] at *); omega)) | fail) <;> (try simp (config := { maxSteps := 1000000 }) only [hb0, cE_ment, hasK_nil, cE_kill, cE_len, u32_one, u32_app1, u32_set, Nat.mul_one, hu.one, q2.one, q2.len, q2.sl, ej, d0, d1, d2, w3, w4, w5, ↓hold_pre, awayP, runOps, regK, step1, newK, genR, appR, obl, buildR, Value.cells, closeK, keepH, outV, retK, ret1, retC, RetV, Option.getD, runD, stepD, afterK, undef, simprocAttr, sxB, ↓sxD, sxE, sxTab]))
      exact leaf M3 wv _ ((hM1.trans k1).trans q1) q2 (q3.le (hM1.trans k1)) hle rfl rfl rfl rfl rfl rfl rfl rfl
    · have d2 : decide ((most : Int) < ((ofN (x ^ (n >>> i))).length : Int)) = true := by simp; omega
      (replace hb0 := true_and True); refine Go1.mk ?_; repeat' ((first | (with_reducible refine Go1.go ?_) | ((with_reducible first | refine brv_mk ?_ ?_ | refine gsplitD ?_ ?_ | refine gsplitG ?_ ?_) <;> intro h <;> (try simp only [Bool.not_eq_true', Bool.not_eq_false'] at h) <;> replace hb0 := h) | (refine And.intro ?ob ?_; case ob => ((try simp only [sxO, ne_eq, maxLen] at *); omega)) | fail) <;> (try simp (config := { maxSteps := 1000000 }) only [hb0, cE_ment, hasK_nil, cE_kill, cE_len, u32_one, u32_app1, u32_set, Nat.mul_one, hu.one, q2.one, q2.len, q2.sl, ej, d0, d1, d2, w3, w4, w5, ↓hold_pre, awayP, runOps, regK, step1, newK, genR, appR, obl, buildR, Value.cells, closeK, keepH, outV, retK, ret1, retC, RetV, Option.getD, runD, stepD, afterK, undef, simprocAttr, sxB, ↓sxD, sxE, sxTab]))
      exact hK2 (pow_long hki hkn most (by omega)) _ ((hM1.trans k1).trans q1)
end
end Go.Proofs.YtamghpnjdohnjaaDoor.Sx
