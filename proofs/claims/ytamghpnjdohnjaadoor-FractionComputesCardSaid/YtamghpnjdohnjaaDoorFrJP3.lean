/- Part 3 of the texts of this claim: a symbolic executor and contracts of functions. -/
import Derived.Test.YtamghpnjdohnjaaDoorFrJP2
namespace Go.Proofs.YtamghpnjdohnjaaDoor.Sx
open Go Go.RowKit
set_option linter.unusedVariables false
set_option linter.unusedSimpArgs false
set_option maxRecDepth 100000
set_option maxHeartbeats 8000000
attribute [local congr] fin_congr finG_congr stepG_congr step1_congr runOps_congr brv_congr obl_congr condK_congr LoopK_congr seqK_congr CutK_congr vc_congr DrawK_congr regK_congr CallK_congr AskK_congr newK_congr retC_congr ret1_congr retK_congr outV_congr closeK_congr genR_congr appR_congr finD_congr finGD_congr stepGD_congr stepD_congr CallK0_congr runD_congr okR_congr CallS_congr vcX_congr
attribute [local congr] Stop_congr
theorem odd_two {q : Nat} (h : q % 2 = 1) (n : Nat) : Nat.Coprime (2 ^ n) q := by
  have h1 : Nat.Coprime 2 q := by
    show Nat.gcd 2 q = 1
    rw [Nat.gcd_rec, h]; rfl
  exact Nat.Coprime.pow_left n h1
theorem gcd_two {x y e1 e2 q1 q2 : Nat} (hx : x = 2 ^ e1 * q1) (hy : y = 2 ^ e2 * q2) (h1 : q1 % 2 = 1) (h2 : q2 % 2 = 1) : Nat.gcd x y = Nat.gcd q1 q2 * 2 ^ (min e1 e2) := by
  subst hx hy
  rcases Nat.le_total e1 e2 with h | h
  · obtain ⟨d, rfl⟩ : ∃ d, e2 = e1 + d := ⟨e2 - e1, by omega⟩
    rw [Nat.min_eq_left h, Nat.pow_add, Nat.mul_assoc, Nat.gcd_mul_left, Nat.mul_comm (Nat.gcd q1 q2), Nat.Coprime.gcd_mul_left_cancel_right _ (odd_two h1 d)]
  · obtain ⟨d, rfl⟩ : ∃ d, e1 = e2 + d := ⟨e1 - e2, by omega⟩
    rw [Nat.min_eq_right h, Nat.pow_add, Nat.mul_assoc, Nat.gcd_mul_left, Nat.mul_comm (Nat.gcd q1 q2), Nat.Coprime.gcd_mul_left_cancel _ (odd_two h2 d)]
theorem gcd_step {a b e q : Nat} (hb : b % 2 = 1) (h : b ≤ a) (he : a - b = 2 ^ e * q) : Nat.gcd q b = Nat.gcd a b := by
  rw [← Nat.gcd_sub_self_left h, he, Nat.Coprime.gcd_mul_left_cancel _ (odd_two hb e)]
theorem valN_rep0 (k : Nat) : valN (List.replicate k 0) = 0 := by
  induction k with
  | zero => rfl
  | succ k ih => simp [List.replicate_succ, valN, ih]
theorem two_plain (k : Nat) {s : Nat} (hs : s < 32) : (List.replicate (k + 1) 0).set k (2 ^ s) = ofN (2 ^ (32 * k + s)) := by
  have h1 : (List.replicate (k + 1) 0).set k (2 ^ s) = List.replicate k 0 ++ [2 ^ s] := by
    rw [List.replicate_succ', List.set_append_right _ _ (by simp)]; simp
  have h2 : 2 ^ s < 4294967296 := Nat.pow_lt_pow_right (a := 2) (m := s) (n := 32) (by decide) hs
  have h3 : okN (List.replicate k 0 ++ [2 ^ s]) := okN_app.2 ⟨okN_rep k, fun z hz => by simp at hz; omega⟩
  have h4 : List.replicate k 0 ++ [2 ^ s] = ofN (valN (List.replicate k 0 ++ [2 ^ s])) := canon h3 fun hl h0 => by
    simp at h0
  have h5 : valN (List.replicate k 0 ++ [2 ^ s]) = 2 ^ (32 * k + s) := by
    rw [valN_snoc, valN_rep0, List.length_replicate, Nat.zero_add, wN_two, ← Nat.pow_add]
  rw [h1, h4, h5]
theorem swap2 {k1 k2 : Nat} (hne : k1 ≠ k2) (a b : TypeId × List AV) (j : Nat) : lkH [(k1, a), (k2, b)] j = lkH [(k2, b), (k1, a)] j := by
  simp only [lkH]
  by_cases h1 : k1 = j
  · have h2 : ¬ k2 = j := fun e => hne (h1.trans e.symm)
    simp [h1, h2]
  · by_cases h2 : k2 = j <;> simp [h1, h2]
section
variable {M : Mem} {K : AV → Hp → Mem → Prop}
theorem times_bor2 (k1 k2 o1 m1 o2 m2 : Nat) (hne : k1 ≠ k2) (T : TypeId) (L1 L2 : List Nat) (x y : Nat) (h : OwnN L1 o1 m1 x) (g : OwnN L2 o2 m2 y) (hb1 : L1.length < 100000000) (hb2 : L2.length < 100000000) (hK : ∀ w M', Mem.le M M' → IsL M' u32V w (ofN (x * y)) → FreshS M w → K (.ext w) [(k1, T, cE u32V L1), (k2, T, cE u32V L2)] M') :
    CallS Tryd.prog 69 [.slo k1 o1 m1 1, .slo k2 o2 m2 1] [(k1, T, cE u32V L1), (k2, T, cE u32V L2)] M [] K := by
  refine CallS.bor ⟨⟨_, rfl⟩, ⟨_, rfl⟩, trivial⟩ fun us M' hM hb' => ?_
  obtain ⟨v1, _, rfl, h1, v2, _, rfl, h2, rfl⟩ := hb'
  have g1 := h1.part (g := u32V) (L := L1) (T := T) (by simp [lkH]) h.le
  have g2 := h2.part (g := u32V) (L := L2) (T := T) (by simp [lkH, hne, hne.symm]) g.le
  rw [h.eq] at g1
  rw [g.eq] at g2
  refine times_ok v1 v2 x y g1 g2 (by have := h.len; have := h.le; omega) (by have := g.len; have := g.le; omega) fun w M2 h2 h3 h4 => ?_
  exact ⟨fun j hj => rfl, fun M3 h5 h6 _ => hK w M3 h5 (h3.move h4 h6) (h4.le hM)⟩
def cmSt (M : Mem) (ka kb oa ma ob mb e1 e2 : Nat) (LA LB : List Nat) : St := { env := [(5, .slo ka oa ma 1), (6, .slo kb ob mb 1), (7, .ext (.int .i64 (e1 : Int))), (8, .ext (.int .i64 (e2 : Int)))], hp := [(ka, 70, cE u32V LA), (kb, 70, cE u32V LB)], M := M, kb := 0, fx := [] }
theorem common_ok (u v : Value) (x y : Nat) (hu : IsL M u32V u (ofN x)) (hv : IsL M u32V v (ofN y)) (hx : (ofN x).length < 10000000) (hy : (ofN y).length < 10000000) (hK : NatK M K (Nat.gcd x y)) : CallS Tryd.prog 58 [.ext u, .ext v] [] M [] K := by
  refine CallS.frzF ?_
  refine inlS (cs := []) Tryd.mixed Tryd.func58 rfl (by kernel_rfl) 0 rfl rfl ?_
  simp only [Tryd.f58]
  have hrow := hu.row
  have hrow2 := hv.row
  have hmp : List.map AV.ext (List.map u32V (ofN x)) = cE u32V (ofN x) := rfl
  have hmp2 : List.map AV.ext (List.map u32V (ofN y)) = cE u32V (ofN y) := rfl
  by_cases hx0 : x = 0
  · subst hx0
    have d1 : decide (((ofN 0).length : Int) = 0) = true := by rw [ofN_zero]; rfl
    rw [Nat.gcd_zero_left] at hK
    (replace hb0 := true_and True); refine Go1.mk ?_; repeat' ((first | (with_reducible refine Go1.go ?_) | ((with_reducible first | refine brv_mk ?_ ?_ | refine gsplitD ?_ ?_ | refine gsplitG ?_ ?_) <;> intro h <;> (try simp only [Bool.not_eq_true', Bool.not_eq_false'] at h) <;> replace hb0 := h) | (refine And.intro ?ob ?_; case ob => ((try simp only [sxO, ne_eq, maxLen] at *); omega)) | fail) <;> (try simp (config := { maxSteps := 1000000 }) only [hb0, cE_ment, hasK_nil, cE_kill, cE_len, u32_one, u32_app1, u32_set, Nat.mul_one, hu.one, hv.one, hu.len, hu.sl, hv.len, hv.sl, hrow, hrow2, hmp, hmp2, d1, ↓hold_pre, awayP, runOps, regK, step1, newK, genR, appR, obl, buildR, Value.cells, closeK, keepH, outV, retK, ret1, retC, RetV, Option.getD, runD, stepD, afterK, undef, simprocAttr, sxB, ↓sxD, sxE, sxTab]))
    exact hK.frz rfl
  have hlx : 0 < (ofN x).length := by
    rcases Nat.eq_zero_or_pos (ofN x).length with h | h
    · have := ofN_nil.1 (List.length_eq_zero_iff.1 h); omega
    · exact h
  have d1 : decide (((ofN x).length : Int) = 0) = false := by rw [decide_eq_false_iff_not]; omega
  by_cases hy0 : y = 0
  · subst hy0
    have d2 : decide (((ofN 0).length : Int) = 0) = true := by rw [ofN_zero]; rfl
    rw [Nat.gcd_zero_right] at hK
    (replace hb0 := true_and True); refine Go1.mk ?_; repeat' ((first | (with_reducible refine Go1.go ?_) | ((with_reducible first | refine brv_mk ?_ ?_ | refine gsplitD ?_ ?_ | refine gsplitG ?_ ?_) <;> intro h <;> (try simp only [Bool.not_eq_true', Bool.not_eq_false'] at h) <;> replace hb0 := h) | (refine And.intro ?ob ?_; case ob => ((try simp only [sxO, ne_eq, maxLen] at *); omega)) | fail) <;> (try simp (config := { maxSteps := 1000000 }) only [hb0, cE_ment, hasK_nil, cE_kill, cE_len, u32_one, u32_app1, u32_set, Nat.mul_one, hu.one, hv.one, hu.len, hu.sl, hv.len, hv.sl, hrow, hrow2, hmp, hmp2, d1, d2, ↓hold_pre, awayP, runOps, regK, step1, newK, genR, appR, obl, buildR, Value.cells, closeK, keepH, outV, retK, ret1, retC, RetV, Option.getD, runD, stepD, afterK, undef, simprocAttr, sxB, ↓sxD, sxE, sxTab]))
    exact hK.frz rfl
  have hly : 0 < (ofN y).length := by
    rcases Nat.eq_zero_or_pos (ofN y).length with h | h
    · have := ofN_nil.1 (List.length_eq_zero_iff.1 h); omega
    · exact h
  have d2 : decide (((ofN y).length : Int) = 0) = false := by rw [decide_eq_false_iff_not]; omega
  have hA0 : OwnN (ofN x) 0 (ofN x).length x := ⟨by omega, okN_ofN x, by rw [List.drop_zero, List.take_length]⟩
  have hB0 : OwnN (ofN y) 0 (ofN y).length y := ⟨by omega, okN_ofN y, by rw [List.drop_zero, List.take_length]⟩
  (replace hb0 := true_and True); refine Go1.mk ?_; repeat' ((first | (with_reducible refine Go1.go ?_) | ((with_reducible first | refine brv_mk ?_ ?_ | refine gsplitD ?_ ?_ | refine gsplitG ?_ ?_) <;> intro h <;> (try simp only [Bool.not_eq_true', Bool.not_eq_false'] at h) <;> replace hb0 := h) | ((with_reducible refine isCall (f := 91) ?_); refine callA ?_) | ((with_reducible refine isCall0 (f := 91) ?_); refine callA0 ?_) | ((with_reducible refine isCallS (f := 91) ?_); refine (zeros_bor 11 0 _ _ (ofN x) x hA0 (by omega) (by omega) (fun e1 q1 r1 r2 r3 => Stop.mk ?_))) | (refine And.intro ?ob ?_; case ob => ((try simp only [sxO, ne_eq, maxLen] at *); omega)) | fail) <;> (try simp (config := { maxSteps := 1000000 }) only [hb0, cE_ment, hasK_nil, cE_kill, cE_len, u32_one, u32_app1, u32_set, Nat.mul_one, hu.one, hv.one, hu.len, hu.sl, hv.len, hv.sl, hrow, hrow2, hmp, hmp2, d1, d2, ↓hold_pre, awayP, runOps, regK, step1, newK, genR, appR, obl, buildR, Value.cells, closeK, keepH, outV, retK, ret1, retC, RetV, Option.getD, runD, stepD, afterK, undef, simprocAttr, sxB, ↓sxD, sxE, sxTab]))
  refine Stop.go ?_
  (replace hb0 := true_and True); refine Go1.mk ?_; repeat' ((first | (with_reducible refine Go1.go ?_) | ((with_reducible first | refine brv_mk ?_ ?_ | refine gsplitD ?_ ?_ | refine gsplitG ?_ ?_) <;> intro h <;> (try simp only [Bool.not_eq_true', Bool.not_eq_false'] at h) <;> replace hb0 := h) | ((with_reducible refine isCall (f := 91) ?_); refine callA ?_) | ((with_reducible refine isCall0 (f := 91) ?_); refine callA0 ?_) | ((with_reducible refine isCallS (f := 91) ?_); refine (zeros_bor 13 0 _ _ (ofN y) y hB0 (by omega) (by omega) (fun e2 q2 s1 s2 s3 => Stop.mk ?_))) | (refine And.intro ?ob ?_; case ob => ((try simp only [sxO, ne_eq, maxLen] at *); omega)) | fail) <;> (try simp (config := { maxSteps := 1000000 }) only [hb0, cE_ment, hasK_nil, cE_kill, cE_len, u32_one, u32_app1, u32_set, Nat.mul_one, hu.one, hv.one, hu.len, hu.sl, hv.len, hv.sl, hrow, hrow2, hmp, hmp2, d1, d2, ↓hold_pre, awayP, runOps, regK, step1, newK, genR, appR, obl, buildR, Value.cells, closeK, keepH, outV, retK, ret1, retC, RetV, Option.getD, runD, stepD, afterK, undef, simprocAttr, sxB, ↓sxD, sxE, sxTab]))
  refine Stop.go ?_
  have hd1 : x / 2 ^ e1 = q1 := by rw [r2, Nat.mul_div_cancel_left _ (Nat.two_pow_pos e1)]
  have hd2 : y / 2 ^ e2 = q2 := by rw [s2, Nat.mul_div_cancel_left _ (Nat.two_pow_pos e2)]
  rw [gcd_two r2 s2 r3 s3] at hK
  obtain ⟨e0, he0⟩ : ∃ e, min e1 e2 = e := ⟨_, rfl⟩
  rw [he0] at hK
  (replace hb0 := true_and True); refine Go1.mk ?_; repeat' ((first | (with_reducible refine Go1.go ?_) | ((with_reducible first | refine brv_mk ?_ ?_ | refine gsplitD ?_ ?_ | refine gsplitG ?_ ?_) <;> intro h <;> (try simp only [Bool.not_eq_true', Bool.not_eq_false'] at h) <;> replace hb0 := h) | ((with_reducible refine isCall (f := 92) ?_); refine callA ?_) | ((with_reducible refine isCall0 (f := 92) ?_); refine callA0 ?_) | ((with_reducible refine isCallS (f := 92) ?_); refine (down_ok 11 0 _ e1 (ofN x) hA0.le (by omega) (by omega) (okN_ofN x) (fun L1 o1 m1 r4 r5 => Stop.mk ?_))) | (refine And.intro ?ob ?_; case ob => ((try simp only [sxO, ne_eq, maxLen] at *); omega)) | fail) <;> (try simp (config := { maxSteps := 1000000 }) only [hb0, cE_ment, hasK_nil, cE_kill, cE_len, u32_one, u32_app1, u32_set, Nat.mul_one, ↓hold_pre, awayP, runOps, regK, step1, newK, genR, appR, obl, buildR, Value.cells, closeK, keepH, outV, retK, ret1, retC, RetV, Option.getD, runD, stepD, afterK, undef, simprocAttr, sxB, ↓sxD, sxE, sxTab]))
  rw [hA0.val, hd1] at r5
  refine Stop.go ?_
  (replace hb0 := true_and True); refine Go1.mk ?_; repeat' ((first | (with_reducible refine Go1.go ?_) | ((with_reducible first | refine brv_mk ?_ ?_ | refine gsplitD ?_ ?_ | refine gsplitG ?_ ?_) <;> intro h <;> (try simp only [Bool.not_eq_true', Bool.not_eq_false'] at h) <;> replace hb0 := h) | ((with_reducible refine isCall (f := 92) ?_); refine callA ?_) | ((with_reducible refine isCall0 (f := 92) ?_); refine callA0 ?_) | ((with_reducible refine isCallS (f := 92) ?_); refine (down_ok 13 0 _ e2 (ofN y) hB0.le (by omega) (by omega) (okN_ofN y) (fun L2 o2 m2 s4 s5 => Stop.mk ?_))) | (refine And.intro ?ob ?_; case ob => ((try simp only [sxO, ne_eq, maxLen] at *); omega)) | fail) <;> (try simp (config := { maxSteps := 1000000 }) only [hb0, cE_ment, hasK_nil, cE_kill, cE_len, u32_one, u32_app1, u32_set, Nat.mul_one, ↓hold_pre, awayP, runOps, regK, step1, newK, genR, appR, obl, buildR, Value.cells, closeK, keepH, outV, retK, ret1, retC, RetV, Option.getD, runD, stepD, afterK, undef, simprocAttr, sxB, ↓sxD, sxE, sxTab]))
  rw [hB0.val, hd2] at s5
  refine Stop.go ?_
  (replace hb0 := true_and True); refine Go1.mk ?_; repeat' ((first | (with_reducible refine Go1.go ?_) | ((with_reducible first | refine brv_mk ?_ ?_ | refine gsplitD ?_ ?_ | refine gsplitG ?_ ?_) <;> intro h <;> (try simp only [Bool.not_eq_true', Bool.not_eq_false'] at h) <;> replace hb0 := h) | (refine And.intro ?ob ?_; case ob => ((try simp only [sxO, ne_eq, maxLen] at *); omega)) | fail) <;> (try simp (config := { maxSteps := 1000000 }) only [hb0, cE_ment, hasK_nil, cE_kill, cE_len, u32_one, u32_app1, u32_set, Nat.mul_one, ↓hold_pre, awayP, runOps, regK, step1, newK, genR, appR, obl, buildR, Value.cells, closeK, keepH, outV, retK, ret1, retC, RetV, Option.getD, runD, stepD, afterK, undef, simprocAttr, sxB, ↓sxD, sxE, sxTab]))
  have hes : e0 < 320000000 := by omega
  have hmn : (if (e2 : Int) < (e1 : Int) then (e2 : Int) else (e1 : Int)) = (e0 : Int) := by split <;> omega
  refine ⟨fun d z => ∃ a b oa ma ob mb LA LB, d = a + b ∧ 0 < a ∧ 0 < b ∧ a % 2 = 1 ∧ b % 2 = 1 ∧ Nat.gcd a b = Nat.gcd q1 q2 ∧ OwnN LA oa ma a ∧ OwnN LB ob mb b ∧ LA.length < 100000000 ∧ LB.length < 100000000 ∧ (z = cmSt M 11 13 oa ma ob mb e1 e2 LA LB ∨ z = cmSt M 13 11 oa ma ob mb e1 e2 LA LB),
    ⟨q1 + q2, cmSt M 11 13 o1 m1 o2 m2 e1 e2 L1 L2, le_sub ⟨rfl, rfl, rfl, rfl, trivial⟩ (by simp [subHp, cmSt, lkH]) rfl rfl rfl (keepLt0 _), ⟨q1, q2, _, _, _, _, L1, L2, rfl, by omega, by omega, r3, s3, rfl, r5, s5, by omega, by omega, .inl rfl⟩⟩, ?_⟩
  clear hu hv hrow hrow2 hmp hmp2 hA0 hB0 r5 s5
  have htwo := two_plain (e0 / 32) (s := e0 % 32) (Nat.mod_lt _ (by decide))
  rw [Nat.div_add_mod] at htwo
  have hz0 : AV.ext (Value.int .u32 0) :: List.map AV.ext (repN [Value.int .u32 0] (e0 / 32)) = cE u32V (List.replicate (e0 / 32 + 1) 0) := cE_rep u32V (e0 / 32 + 1) 0
  have htl : (ofN (2 ^ e0)).length = e0 / 32 + 1 := by rw [← htwo, List.length_set, List.length_replicate]
  have htw : OwnN (ofN (2 ^ e0)) 0 (e0 / 32 + 1) (2 ^ e0) := ⟨by omega, okN_ofN _, by rw [List.drop_zero, ← htl, List.take_length]⟩
  have f0 := hmn
  have f1 : IntKind.i64.wrap ((e0 : Int).tdiv 32) = ((e0 / 32 : Nat) : Int) := by
    rw [show (32 : Int) = ((32 : Nat) : Int) from rfl, ← Int.ofNat_tdiv, wrap_id (by omega) (by omega)]
  have f2 : IntKind.i64.wrap (((e0 / 32 : Nat) : Int) + 1) = ((e0 / 32 + 1 : Nat) : Int) := succ_i (by omega)
  have f3 : (e0 : Int).tmod 32 = ((e0 % 32 : Nat) : Int) := by rw [show (32 : Int) = ((32 : Nat) : Int) from rfl, ← Int.ofNat_tmod]
  have f4 : IntKind.u32.wrap ((1 : Int) * 2 ^ (min (e0 % 32) IntKind.u32.bits)) = ((2 ^ (e0 % 32) : Nat) : Int) := by
    have h := shl32s (t := 1) (s := e0 % 32) (by rw [Nat.one_mul]; exact Nat.pow_lt_pow_right (a := 2) (n := 32) (by decide) (Nat.mod_lt _ (by decide))) (Nat.mod_lt _ (by decide))
    rw [Nat.one_mul] at h
    exact h
  have f5 : (0 : Int) ≤ ((e0 / 32 : Nat) : Int) := by omega
  have f6 : ((e0 / 32 : Nat) : Int) < ((e0 / 32 + 1 : Nat) : Int) := by omega
  have f7 : (0 : Int) ≤ ((e0 % 32 : Nat) : Int) := by omega
  rintro d z ⟨a, b, oa, ma, ob, mb, LA, LB, rfl, ha0, hbp, ha, hb, hg, hA, hB, hLA, hLB, rfl | rfl⟩
  all_goals
    have hres : a = b → a * 2 ^ e0 = Nat.gcd q1 q2 * 2 ^ e0 := fun h => by rw [← hg, ← h, Nat.gcd_self]
  · rcases Nat.lt_trichotomy a b with hab | hab | hab
    · have c1 := cmpN_lt hab
      (replace hb0 := true_and True); refine Go1.mk ?_; repeat' ((first | (with_reducible refine Go1.go ?_) | ((with_reducible first | refine brv_mk ?_ ?_ | refine gsplitD ?_ ?_ | refine gsplitG ?_ ?_) <;> intro h <;> (try simp only [Bool.not_eq_true', Bool.not_eq_false'] at h) <;> replace hb0 := h) | ((with_reducible refine isCall (f := 57) ?_); refine callA ?_) | ((with_reducible refine isCall0 (f := 57) ?_); refine callA0 ?_) | ((with_reducible refine isCallS (f := 57) ?_); refine (order_bor _ _ _ _ _ _ (by decide) _ _ _ a b hA hB (by omega) (by omega) ?_)) | ((with_reducible refine isCall (f := 57) ?_); refine callA ?_) | ((with_reducible refine isCall0 (f := 57) ?_); refine callA0 ?_) | ((with_reducible refine isCallS (f := 57) ?_); refine (CallS.order (swap2 (by decide) _ _) (order_bor _ _ _ _ _ _ (by decide) _ _ _ a b hA hB (by omega) (by omega) ⟨_, swap2 (by decide) _ _, ?_⟩))) | ((with_reducible refine isCall (f := 93) ?_); refine callA ?_) | ((with_reducible refine isCall0 (f := 93) ?_); refine callA0 ?_) | ((with_reducible refine isCallS (f := 93) ?_); refine (takeB_ok _ _ _ _ _ _ _ _ hB hA (by omega) (by omega) (by omega) (fun L3 m3 t1 t2 => Stop.mk ?_))) | ((with_reducible refine isCall (f := 93) ?_); refine callA ?_) | ((with_reducible refine isCall0 (f := 93) ?_); refine callA0 ?_) | ((with_reducible refine isCallS (f := 93) ?_); refine (CallS.order (swap2 (by decide) _ _) (takeB_ok _ _ _ _ _ _ _ _ hB hA (by omega) (by omega) (by omega) (fun L3 m3 t1 t2 => ⟨_, swap2 (by decide) _ _, Stop.mk ?_⟩)))) | (refine And.intro ?ob ?_; case ob => ((try simp only [sxO, ne_eq, maxLen] at *); omega)) | fail) <;> (try simp (config := { maxSteps := 1000000 }) only [hb0, cE_ment, hasK_nil, cE_kill, cE_len, u32_one, u32_app1, u32_set, Nat.mul_one, cmSt, c1, ↓hold_pre, awayP, runOps, regK, step1, newK, genR, appR, obl, buildR, Value.cells, closeK, keepH, outV, retK, ret1, retC, RetV, Option.getD, runD, stepD, afterK, undef, simprocAttr, sxB, ↓sxD, sxE, sxTab]))
      refine Stop.go ?_
      (replace hb0 := true_and True); refine Go1.mk ?_; repeat' ((first | (with_reducible refine Go1.go ?_) | ((with_reducible first | refine brv_mk ?_ ?_ | refine gsplitD ?_ ?_ | refine gsplitG ?_ ?_) <;> intro h <;> (try simp only [Bool.not_eq_true', Bool.not_eq_false'] at h) <;> replace hb0 := h) | ((with_reducible refine isCall (f := 91) ?_); refine callA ?_) | ((with_reducible refine isCall0 (f := 91) ?_); refine callA0 ?_) | ((with_reducible refine isCallS (f := 91) ?_); refine (zeros_bor 13 _ _ _ L3 (b - a) t2 (by omega) (by omega) (fun e q r1 r2 r3 => Stop.mk ?_))) | (refine And.intro ?ob ?_; case ob => ((try simp only [sxO, ne_eq, maxLen] at *); omega)) | fail) <;> (try simp (config := { maxSteps := 1000000 }) only [hb0, cE_ment, hasK_nil, cE_kill, cE_len, u32_one, u32_app1, u32_set, Nat.mul_one, ↓hold_pre, awayP, runOps, regK, step1, newK, genR, appR, obl, buildR, Value.cells, closeK, keepH, outV, retK, ret1, retC, RetV, Option.getD, runD, stepD, afterK, undef, simprocAttr, sxB, ↓sxD, sxE, sxTab]))
      have t3 := t2.len
      have t4 := t2.le
      have hgs := gcd_step (a := b) (b := a) (e := e) (q := q) (by omega) (by omega) r2
      have hdv : (b - a) / 2 ^ e = q := by rw [r2, Nat.mul_div_cancel_left _ (Nat.two_pow_pos e)]
      have hqle : q ≤ b - a := by rw [← hdv]; exact Nat.div_le_self _ _
      refine Stop.go ?_
      (replace hb0 := true_and True); refine Go1.mk ?_; repeat' ((first | (with_reducible refine Go1.go ?_) | ((with_reducible first | refine brv_mk ?_ ?_ | refine gsplitD ?_ ?_ | refine gsplitG ?_ ?_) <;> intro h <;> (try simp only [Bool.not_eq_true', Bool.not_eq_false'] at h) <;> replace hb0 := h) | ((with_reducible refine isCall (f := 92) ?_); refine callA ?_) | ((with_reducible refine isCall0 (f := 92) ?_); refine callA0 ?_) | ((with_reducible refine isCallS (f := 92) ?_); refine (down_ok 13 _ _ e L3 t2.le (by omega) (by omega) t2.ok (fun L4 o4 m4 r4 r5 => Stop.mk ?_))) | (refine And.intro ?ob ?_; case ob => ((try simp only [sxO, ne_eq, maxLen] at *); omega)) | fail) <;> (try simp (config := { maxSteps := 1000000 }) only [hb0, cE_ment, hasK_nil, cE_kill, cE_len, u32_one, u32_app1, u32_set, Nat.mul_one, ↓hold_pre, awayP, runOps, regK, step1, newK, genR, appR, obl, buildR, Value.cells, closeK, keepH, outV, retK, ret1, retC, RetV, Option.getD, runD, stepD, afterK, undef, simprocAttr, sxB, ↓sxD, sxE, sxTab]))
      rw [t2.val, hdv] at r5
      refine Stop.go ?_
      (replace hb0 := true_and True); refine Go1.mk ?_; repeat' ((first | (with_reducible refine Go1.go ?_) | ((with_reducible first | refine brv_mk ?_ ?_ | refine gsplitD ?_ ?_ | refine gsplitG ?_ ?_) <;> intro h <;> (try simp only [Bool.not_eq_true', Bool.not_eq_false'] at h) <;> replace hb0 := h) | (refine And.intro ?ob ?_; case ob => ((try simp only [sxO, ne_eq, maxLen] at *); omega)) | fail) <;> (try simp (config := { maxSteps := 1000000 }) only [hb0, cE_ment, hasK_nil, cE_kill, cE_len, u32_one, u32_app1, u32_set, Nat.mul_one, ↓hold_pre, awayP, runOps, regK, step1, newK, genR, appR, obl, buildR, Value.cells, closeK, keepH, outV, retK, ret1, retC, RetV, Option.getD, runD, stepD, afterK, undef, simprocAttr, sxB, ↓sxD, sxE, sxTab]))
      exact ⟨q + a, cmSt M 13 11 o4 m4 oa ma e1 e2 L4 LA, by omega, le_sub ⟨rfl, rfl, rfl, rfl, trivial⟩ (by simp [subHp, cmSt, lkH]) rfl rfl rfl (keepLt0 _), q, a, _, _, _, _, L4, LA, rfl, by omega, by omega, r3, by omega, (by rw [hgs]; rw [Nat.gcd_comm]; exact hg), r5, hA, by omega, by omega, .inr rfl⟩
    · have c1 : cmpN a b = 0 := by unfold cmpN; rw [if_neg (by omega), if_pos hab]
      (replace hb0 := true_and True); refine Go1.mk ?_; repeat' ((first | (with_reducible refine Go1.go ?_) | ((with_reducible first | refine brv_mk ?_ ?_ | refine gsplitD ?_ ?_ | refine gsplitG ?_ ?_) <;> intro h <;> (try simp only [Bool.not_eq_true', Bool.not_eq_false'] at h) <;> replace hb0 := h) | ((with_reducible refine isCall (f := 57) ?_); refine callA ?_) | ((with_reducible refine isCall0 (f := 57) ?_); refine callA0 ?_) | ((with_reducible refine isCallS (f := 57) ?_); refine (order_bor _ _ _ _ _ _ (by decide) _ _ _ a b hA hB (by omega) (by omega) ?_)) | ((with_reducible refine isCall (f := 57) ?_); refine callA ?_) | ((with_reducible refine isCall0 (f := 57) ?_); refine callA0 ?_) | ((with_reducible refine isCallS (f := 57) ?_); refine (CallS.order (swap2 (by decide) _ _) (order_bor _ _ _ _ _ _ (by decide) _ _ _ a b hA hB (by omega) (by omega) ⟨_, swap2 (by decide) _ _, ?_⟩))) | ((with_reducible refine isCall (f := 69) ?_); refine callA ?_) | ((with_reducible refine isCall0 (f := 69) ?_); refine callA0 ?_) | ((with_reducible refine isCallS (f := 69) ?_); refine (times_bor2 11 54 _ _ _ _ (by decide) _ _ _ a (2 ^ e0) hA htw (by omega) (by omega) (fun w M' n1 n2 n3 => Stop.mk ?_))) | ((with_reducible refine isCall (f := 69) ?_); refine callA ?_) | ((with_reducible refine isCall0 (f := 69) ?_); refine callA0 ?_) | ((with_reducible refine isCallS (f := 69) ?_); refine (CallS.order (swap2 (by decide) _ _) (times_bor2 11 54 _ _ _ _ (by decide) _ _ _ a (2 ^ e0) hA htw (by omega) (by omega) (fun w M' n1 n2 n3 => ⟨_, swap2 (by decide) _ _, Stop.mk ?_⟩)))) | (refine And.intro ?ob ?_; case ob => ((try simp only [sxO, ne_eq, maxLen] at *); omega)) | fail) <;> (try simp (config := { maxSteps := 1000000 }) only [hb0, cE_ment, hasK_nil, cE_kill, cE_len, u32_one, u32_app1, u32_set, Nat.mul_one, cmSt, c1, u32V, List.length_replicate, f0, f1, f2, f3, f4, f5, f6, f7, hz0, htwo, ↓hold_pre, awayP, runOps, regK, step1, newK, genR, appR, obl, buildR, Value.cells, closeK, keepH, outV, retK, ret1, retC, RetV, Option.getD, runD, stepD, afterK, undef, simprocAttr, sxB, ↓sxD, sxE, sxTab]))
      refine Stop.go ?_
      (replace hb0 := true_and True); refine Go1.mk ?_; repeat' ((first | (with_reducible refine Go1.go ?_) | ((with_reducible first | refine brv_mk ?_ ?_ | refine gsplitD ?_ ?_ | refine gsplitG ?_ ?_) <;> intro h <;> (try simp only [Bool.not_eq_true', Bool.not_eq_false'] at h) <;> replace hb0 := h) | (refine And.intro ?ob ?_; case ob => ((try simp only [sxO, ne_eq, maxLen] at *); omega)) | fail) <;> (try simp (config := { maxSteps := 1000000 }) only [hb0, n2.one, ↓hold_pre, awayP, runOps, regK, step1, newK, genR, appR, obl, buildR, Value.cells, closeK, keepH, outV, retK, ret1, retC, RetV, Option.getD, runD, stepD, afterK, undef, simprocAttr, sxB, ↓sxD, sxE, sxTab]))
      rw [hres hab] at n2
      exact .inl (hK _ _ n1 n2 n3)
    · have c1 := cmpN_gt hab
      (replace hb0 := true_and True); refine Go1.mk ?_; repeat' ((first | (with_reducible refine Go1.go ?_) | ((with_reducible first | refine brv_mk ?_ ?_ | refine gsplitD ?_ ?_ | refine gsplitG ?_ ?_) <;> intro h <;> (try simp only [Bool.not_eq_true', Bool.not_eq_false'] at h) <;> replace hb0 := h) | ((with_reducible refine isCall (f := 57) ?_); refine callA ?_) | ((with_reducible refine isCall0 (f := 57) ?_); refine callA0 ?_) | ((with_reducible refine isCallS (f := 57) ?_); refine (order_bor _ _ _ _ _ _ (by decide) _ _ _ a b hA hB (by omega) (by omega) ?_)) | ((with_reducible refine isCall (f := 57) ?_); refine callA ?_) | ((with_reducible refine isCall0 (f := 57) ?_); refine callA0 ?_) | ((with_reducible refine isCallS (f := 57) ?_); refine (CallS.order (swap2 (by decide) _ _) (order_bor _ _ _ _ _ _ (by decide) _ _ _ a b hA hB (by omega) (by omega) ⟨_, swap2 (by decide) _ _, ?_⟩))) | ((with_reducible refine isCall (f := 93) ?_); refine callA ?_) | ((with_reducible refine isCall0 (f := 93) ?_); refine callA0 ?_) | ((with_reducible refine isCallS (f := 93) ?_); refine (takeA_ok _ _ _ _ _ _ _ _ hA hB (by omega) (by omega) (by omega) (fun L3 m3 t1 t2 => Stop.mk ?_))) | ((with_reducible refine isCall (f := 93) ?_); refine callA ?_) | ((with_reducible refine isCall0 (f := 93) ?_); refine callA0 ?_) | ((with_reducible refine isCallS (f := 93) ?_); refine (CallS.order (swap2 (by decide) _ _) (takeA_ok _ _ _ _ _ _ _ _ hA hB (by omega) (by omega) (by omega) (fun L3 m3 t1 t2 => ⟨_, swap2 (by decide) _ _, Stop.mk ?_⟩)))) | (refine And.intro ?ob ?_; case ob => ((try simp only [sxO, ne_eq, maxLen] at *); omega)) | fail) <;> (try simp (config := { maxSteps := 1000000 }) only [hb0, cE_ment, hasK_nil, cE_kill, cE_len, u32_one, u32_app1, u32_set, Nat.mul_one, cmSt, c1, ↓hold_pre, awayP, runOps, regK, step1, newK, genR, appR, obl, buildR, Value.cells, closeK, keepH, outV, retK, ret1, retC, RetV, Option.getD, runD, stepD, afterK, undef, simprocAttr, sxB, ↓sxD, sxE, sxTab]))
      refine Stop.go ?_
      (replace hb0 := true_and True); refine Go1.mk ?_; repeat' ((first | (with_reducible refine Go1.go ?_) | ((with_reducible first | refine brv_mk ?_ ?_ | refine gsplitD ?_ ?_ | refine gsplitG ?_ ?_) <;> intro h <;> (try simp only [Bool.not_eq_true', Bool.not_eq_false'] at h) <;> replace hb0 := h) | ((with_reducible refine isCall (f := 91) ?_); refine callA ?_) | ((with_reducible refine isCall0 (f := 91) ?_); refine callA0 ?_) | ((with_reducible refine isCallS (f := 91) ?_); refine (zeros_bor 11 _ _ _ L3 (a - b) t2 (by omega) (by omega) (fun e q r1 r2 r3 => Stop.mk ?_))) | (refine And.intro ?ob ?_; case ob => ((try simp only [sxO, ne_eq, maxLen] at *); omega)) | fail) <;> (try simp (config := { maxSteps := 1000000 }) only [hb0, cE_ment, hasK_nil, cE_kill, cE_len, u32_one, u32_app1, u32_set, Nat.mul_one, ↓hold_pre, awayP, runOps, regK, step1, newK, genR, appR, obl, buildR, Value.cells, closeK, keepH, outV, retK, ret1, retC, RetV, Option.getD, runD, stepD, afterK, undef, simprocAttr, sxB, ↓sxD, sxE, sxTab]))
      have t3 := t2.len
      have t4 := t2.le
      have hgs := gcd_step (a := a) (b := b) (e := e) (q := q) (by omega) (by omega) r2
      have hdv : (a - b) / 2 ^ e = q := by rw [r2, Nat.mul_div_cancel_left _ (Nat.two_pow_pos e)]
      have hqle : q ≤ a - b := by rw [← hdv]; exact Nat.div_le_self _ _
      refine Stop.go ?_
      (replace hb0 := true_and True); refine Go1.mk ?_; repeat' ((first | (with_reducible refine Go1.go ?_) | ((with_reducible first | refine brv_mk ?_ ?_ | refine gsplitD ?_ ?_ | refine gsplitG ?_ ?_) <;> intro h <;> (try simp only [Bool.not_eq_true', Bool.not_eq_false'] at h) <;> replace hb0 := h) | ((with_reducible refine isCall (f := 92) ?_); refine callA ?_) | ((with_reducible refine isCall0 (f := 92) ?_); refine callA0 ?_) | ((with_reducible refine isCallS (f := 92) ?_); refine (down_ok 11 _ _ e L3 t2.le (by omega) (by omega) t2.ok (fun L4 o4 m4 r4 r5 => Stop.mk ?_))) | (refine And.intro ?ob ?_; case ob => ((try simp only [sxO, ne_eq, maxLen] at *); omega)) | fail) <;> (try simp (config := { maxSteps := 1000000 }) only [hb0, cE_ment, hasK_nil, cE_kill, cE_len, u32_one, u32_app1, u32_set, Nat.mul_one, ↓hold_pre, awayP, runOps, regK, step1, newK, genR, appR, obl, buildR, Value.cells, closeK, keepH, outV, retK, ret1, retC, RetV, Option.getD, runD, stepD, afterK, undef, simprocAttr, sxB, ↓sxD, sxE, sxTab]))
      rw [t2.val, hdv] at r5
      refine Stop.go ?_
      (replace hb0 := true_and True); refine Go1.mk ?_; repeat' ((first | (with_reducible refine Go1.go ?_) | ((with_reducible first | refine brv_mk ?_ ?_ | refine gsplitD ?_ ?_ | refine gsplitG ?_ ?_) <;> intro h <;> (try simp only [Bool.not_eq_true', Bool.not_eq_false'] at h) <;> replace hb0 := h) | (refine And.intro ?ob ?_; case ob => ((try simp only [sxO, ne_eq, maxLen] at *); omega)) | fail) <;> (try simp (config := { maxSteps := 1000000 }) only [hb0, cE_ment, hasK_nil, cE_kill, cE_len, u32_one, u32_app1, u32_set, Nat.mul_one, ↓hold_pre, awayP, runOps, regK, step1, newK, genR, appR, obl, buildR, Value.cells, closeK, keepH, outV, retK, ret1, retC, RetV, Option.getD, runD, stepD, afterK, undef, simprocAttr, sxB, ↓sxD, sxE, sxTab]))
      exact ⟨q + b, cmSt M 11 13 o4 m4 ob mb e1 e2 L4 LB, by omega, le_sub ⟨rfl, rfl, rfl, rfl, trivial⟩ (by simp [subHp, cmSt, lkH]) rfl rfl rfl (keepLt0 _), q, b, _, _, _, _, L4, LB, rfl, by omega, by omega, r3, by omega, (by rw [hgs]; exact hg), r5, hB, by omega, by omega, .inl rfl⟩
  · rcases Nat.lt_trichotomy a b with hab | hab | hab
    · have c1 := cmpN_lt hab
      (replace hb0 := true_and True); refine Go1.mk ?_; repeat' ((first | (with_reducible refine Go1.go ?_) | ((with_reducible first | refine brv_mk ?_ ?_ | refine gsplitD ?_ ?_ | refine gsplitG ?_ ?_) <;> intro h <;> (try simp only [Bool.not_eq_true', Bool.not_eq_false'] at h) <;> replace hb0 := h) | ((with_reducible refine isCall (f := 57) ?_); refine callA ?_) | ((with_reducible refine isCall0 (f := 57) ?_); refine callA0 ?_) | ((with_reducible refine isCallS (f := 57) ?_); refine (order_bor _ _ _ _ _ _ (by decide) _ _ _ a b hA hB (by omega) (by omega) ?_)) | ((with_reducible refine isCall (f := 57) ?_); refine callA ?_) | ((with_reducible refine isCall0 (f := 57) ?_); refine callA0 ?_) | ((with_reducible refine isCallS (f := 57) ?_); refine (CallS.order (swap2 (by decide) _ _) (order_bor _ _ _ _ _ _ (by decide) _ _ _ a b hA hB (by omega) (by omega) ⟨_, swap2 (by decide) _ _, ?_⟩))) | ((with_reducible refine isCall (f := 93) ?_); refine callA ?_) | ((with_reducible refine isCall0 (f := 93) ?_); refine callA0 ?_) | ((with_reducible refine isCallS (f := 93) ?_); refine (takeA_ok _ _ _ _ _ _ _ _ hB hA (by omega) (by omega) (by omega) (fun L3 m3 t1 t2 => Stop.mk ?_))) | ((with_reducible refine isCall (f := 93) ?_); refine callA ?_) | ((with_reducible refine isCall0 (f := 93) ?_); refine callA0 ?_) | ((with_reducible refine isCallS (f := 93) ?_); refine (CallS.order (swap2 (by decide) _ _) (takeA_ok _ _ _ _ _ _ _ _ hB hA (by omega) (by omega) (by omega) (fun L3 m3 t1 t2 => ⟨_, swap2 (by decide) _ _, Stop.mk ?_⟩)))) | (refine And.intro ?ob ?_; case ob => ((try simp only [sxO, ne_eq, maxLen] at *); omega)) | fail) <;> (try simp (config := { maxSteps := 1000000 }) only [hb0, cE_ment, hasK_nil, cE_kill, cE_len, u32_one, u32_app1, u32_set, Nat.mul_one, cmSt, c1, ↓hold_pre, awayP, runOps, regK, step1, newK, genR, appR, obl, buildR, Value.cells, closeK, keepH, outV, retK, ret1, retC, RetV, Option.getD, runD, stepD, afterK, undef, simprocAttr, sxB, ↓sxD, sxE, sxTab]))
      refine Stop.go ?_
      (replace hb0 := true_and True); refine Go1.mk ?_; repeat' ((first | (with_reducible refine Go1.go ?_) | ((with_reducible first | refine brv_mk ?_ ?_ | refine gsplitD ?_ ?_ | refine gsplitG ?_ ?_) <;> intro h <;> (try simp only [Bool.not_eq_true', Bool.not_eq_false'] at h) <;> replace hb0 := h) | ((with_reducible refine isCall (f := 91) ?_); refine callA ?_) | ((with_reducible refine isCall0 (f := 91) ?_); refine callA0 ?_) | ((with_reducible refine isCallS (f := 91) ?_); refine (zeros_bor 11 _ _ _ L3 (b - a) t2 (by omega) (by omega) (fun e q r1 r2 r3 => Stop.mk ?_))) | (refine And.intro ?ob ?_; case ob => ((try simp only [sxO, ne_eq, maxLen] at *); omega)) | fail) <;> (try simp (config := { maxSteps := 1000000 }) only [hb0, cE_ment, hasK_nil, cE_kill, cE_len, u32_one, u32_app1, u32_set, Nat.mul_one, ↓hold_pre, awayP, runOps, regK, step1, newK, genR, appR, obl, buildR, Value.cells, closeK, keepH, outV, retK, ret1, retC, RetV, Option.getD, runD, stepD, afterK, undef, simprocAttr, sxB, ↓sxD, sxE, sxTab]))
      have t3 := t2.len
      have t4 := t2.le
      have hgs := gcd_step (a := b) (b := a) (e := e) (q := q) (by omega) (by omega) r2
      have hdv : (b - a) / 2 ^ e = q := by rw [r2, Nat.mul_div_cancel_left _ (Nat.two_pow_pos e)]
      have hqle : q ≤ b - a := by rw [← hdv]; exact Nat.div_le_self _ _
      refine Stop.go ?_
      (replace hb0 := true_and True); refine Go1.mk ?_; repeat' ((first | (with_reducible refine Go1.go ?_) | ((with_reducible first | refine brv_mk ?_ ?_ | refine gsplitD ?_ ?_ | refine gsplitG ?_ ?_) <;> intro h <;> (try simp only [Bool.not_eq_true', Bool.not_eq_false'] at h) <;> replace hb0 := h) | ((with_reducible refine isCall (f := 92) ?_); refine callA ?_) | ((with_reducible refine isCall0 (f := 92) ?_); refine callA0 ?_) | ((with_reducible refine isCallS (f := 92) ?_); refine (down_ok 11 _ _ e L3 t2.le (by omega) (by omega) t2.ok (fun L4 o4 m4 r4 r5 => Stop.mk ?_))) | (refine And.intro ?ob ?_; case ob => ((try simp only [sxO, ne_eq, maxLen] at *); omega)) | fail) <;> (try simp (config := { maxSteps := 1000000 }) only [hb0, cE_ment, hasK_nil, cE_kill, cE_len, u32_one, u32_app1, u32_set, Nat.mul_one, ↓hold_pre, awayP, runOps, regK, step1, newK, genR, appR, obl, buildR, Value.cells, closeK, keepH, outV, retK, ret1, retC, RetV, Option.getD, runD, stepD, afterK, undef, simprocAttr, sxB, ↓sxD, sxE, sxTab]))
      rw [t2.val, hdv] at r5
      refine Stop.go ?_
      (replace hb0 := true_and True); refine Go1.mk ?_; repeat' ((first | (with_reducible refine Go1.go ?_) | ((with_reducible first | refine brv_mk ?_ ?_ | refine gsplitD ?_ ?_ | refine gsplitG ?_ ?_) <;> intro h <;> (try simp only [Bool.not_eq_true', Bool.not_eq_false'] at h) <;> replace hb0 := h) | (refine And.intro ?ob ?_; case ob => ((try simp only [sxO, ne_eq, maxLen] at *); omega)) | fail) <;> (try simp (config := { maxSteps := 1000000 }) only [hb0, cE_ment, hasK_nil, cE_kill, cE_len, u32_one, u32_app1, u32_set, Nat.mul_one, ↓hold_pre, awayP, runOps, regK, step1, newK, genR, appR, obl, buildR, Value.cells, closeK, keepH, outV, retK, ret1, retC, RetV, Option.getD, runD, stepD, afterK, undef, simprocAttr, sxB, ↓sxD, sxE, sxTab]))
      exact ⟨q + a, cmSt M 11 13 o4 m4 oa ma e1 e2 L4 LA, by omega, le_sub ⟨rfl, rfl, rfl, rfl, trivial⟩ (by simp [subHp, cmSt, lkH]) rfl rfl rfl (keepLt0 _), q, a, _, _, _, _, L4, LA, rfl, by omega, by omega, r3, by omega, (by rw [hgs]; rw [Nat.gcd_comm]; exact hg), r5, hA, by omega, by omega, .inl rfl⟩
    · have c1 : cmpN a b = 0 := by unfold cmpN; rw [if_neg (by omega), if_pos hab]
      (replace hb0 := true_and True); refine Go1.mk ?_; repeat' ((first | (with_reducible refine Go1.go ?_) | ((with_reducible first | refine brv_mk ?_ ?_ | refine gsplitD ?_ ?_ | refine gsplitG ?_ ?_) <;> intro h <;> (try simp only [Bool.not_eq_true', Bool.not_eq_false'] at h) <;> replace hb0 := h) | ((with_reducible refine isCall (f := 57) ?_); refine callA ?_) | ((with_reducible refine isCall0 (f := 57) ?_); refine callA0 ?_) | ((with_reducible refine isCallS (f := 57) ?_); refine (order_bor _ _ _ _ _ _ (by decide) _ _ _ a b hA hB (by omega) (by omega) ?_)) | ((with_reducible refine isCall (f := 57) ?_); refine callA ?_) | ((with_reducible refine isCall0 (f := 57) ?_); refine callA0 ?_) | ((with_reducible refine isCallS (f := 57) ?_); refine (CallS.order (swap2 (by decide) _ _) (order_bor _ _ _ _ _ _ (by decide) _ _ _ a b hA hB (by omega) (by omega) ⟨_, swap2 (by decide) _ _, ?_⟩))) | ((with_reducible refine isCall (f := 69) ?_); refine callA ?_) | ((with_reducible refine isCall0 (f := 69) ?_); refine callA0 ?_) | ((with_reducible refine isCallS (f := 69) ?_); refine (times_bor2 13 54 _ _ _ _ (by decide) _ _ _ a (2 ^ e0) hA htw (by omega) (by omega) (fun w M' n1 n2 n3 => Stop.mk ?_))) | ((with_reducible refine isCall (f := 69) ?_); refine callA ?_) | ((with_reducible refine isCall0 (f := 69) ?_); refine callA0 ?_) | ((with_reducible refine isCallS (f := 69) ?_); refine (CallS.order (swap2 (by decide) _ _) (times_bor2 13 54 _ _ _ _ (by decide) _ _ _ a (2 ^ e0) hA htw (by omega) (by omega) (fun w M' n1 n2 n3 => ⟨_, swap2 (by decide) _ _, Stop.mk ?_⟩)))) | (refine And.intro ?ob ?_; case ob => ((try simp only [sxO, ne_eq, maxLen] at *); omega)) | fail) <;> (try simp (config := { maxSteps := 1000000 }) only [hb0, cE_ment, hasK_nil, cE_kill, cE_len, u32_one, u32_app1, u32_set, Nat.mul_one, cmSt, c1, u32V, List.length_replicate, f0, f1, f2, f3, f4, f5, f6, f7, hz0, htwo, ↓hold_pre, awayP, runOps, regK, step1, newK, genR, appR, obl, buildR, Value.cells, closeK, keepH, outV, retK, ret1, retC, RetV, Option.getD, runD, stepD, afterK, undef, simprocAttr, sxB, ↓sxD, sxE, sxTab]))
      refine Stop.go ?_
      (replace hb0 := true_and True); refine Go1.mk ?_; repeat' ((first | (with_reducible refine Go1.go ?_) | ((with_reducible first | refine brv_mk ?_ ?_ | refine gsplitD ?_ ?_ | refine gsplitG ?_ ?_) <;> intro h <;> (try simp only [Bool.not_eq_true', Bool.not_eq_false'] at h) <;> replace hb0 := h) | (refine And.intro ?ob ?_; case ob => ((try simp only [sxO, ne_eq, maxLen] at *); omega)) | fail) <;> (try simp (config := { maxSteps := 1000000 }) only [hb0, n2.one, ↓hold_pre, awayP, runOps, regK, step1, newK, genR, appR, obl, buildR, Value.cells, closeK, keepH, outV, retK, ret1, retC, RetV, Option.getD, runD, stepD, afterK, undef, simprocAttr, sxB, ↓sxD, sxE, sxTab]))
      rw [hres hab] at n2
      exact .inl (hK _ _ n1 n2 n3)
    · have c1 := cmpN_gt hab
      (replace hb0 := true_and True); refine Go1.mk ?_; repeat' ((first | (with_reducible refine Go1.go ?_) | ((with_reducible first | refine brv_mk ?_ ?_ | refine gsplitD ?_ ?_ | refine gsplitG ?_ ?_) <;> intro h <;> (try simp only [Bool.not_eq_true', Bool.not_eq_false'] at h) <;> replace hb0 := h) | ((with_reducible refine isCall (f := 57) ?_); refine callA ?_) | ((with_reducible refine isCall0 (f := 57) ?_); refine callA0 ?_) | ((with_reducible refine isCallS (f := 57) ?_); refine (order_bor _ _ _ _ _ _ (by decide) _ _ _ a b hA hB (by omega) (by omega) ?_)) | ((with_reducible refine isCall (f := 57) ?_); refine callA ?_) | ((with_reducible refine isCall0 (f := 57) ?_); refine callA0 ?_) | ((with_reducible refine isCallS (f := 57) ?_); refine (CallS.order (swap2 (by decide) _ _) (order_bor _ _ _ _ _ _ (by decide) _ _ _ a b hA hB (by omega) (by omega) ⟨_, swap2 (by decide) _ _, ?_⟩))) | ((with_reducible refine isCall (f := 93) ?_); refine callA ?_) | ((with_reducible refine isCall0 (f := 93) ?_); refine callA0 ?_) | ((with_reducible refine isCallS (f := 93) ?_); refine (takeB_ok _ _ _ _ _ _ _ _ hA hB (by omega) (by omega) (by omega) (fun L3 m3 t1 t2 => Stop.mk ?_))) | ((with_reducible refine isCall (f := 93) ?_); refine callA ?_) | ((with_reducible refine isCall0 (f := 93) ?_); refine callA0 ?_) | ((with_reducible refine isCallS (f := 93) ?_); refine (CallS.order (swap2 (by decide) _ _) (takeB_ok _ _ _ _ _ _ _ _ hA hB (by omega) (by omega) (by omega) (fun L3 m3 t1 t2 => ⟨_, swap2 (by decide) _ _, Stop.mk ?_⟩)))) | (refine And.intro ?ob ?_; case ob => ((try simp only [sxO, ne_eq, maxLen] at *); omega)) | fail) <;> (try simp (config := { maxSteps := 1000000 }) only [hb0, cE_ment, hasK_nil, cE_kill, cE_len, u32_one, u32_app1, u32_set, Nat.mul_one, cmSt, c1, ↓hold_pre, awayP, runOps, regK, step1, newK, genR, appR, obl, buildR, Value.cells, closeK, keepH, outV, retK, ret1, retC, RetV, Option.getD, runD, stepD, afterK, undef, simprocAttr, sxB, ↓sxD, sxE, sxTab]))
      refine Stop.go ?_
      (replace hb0 := true_and True); refine Go1.mk ?_; repeat' ((first | (with_reducible refine Go1.go ?_) | ((with_reducible first | refine brv_mk ?_ ?_ | refine gsplitD ?_ ?_ | refine gsplitG ?_ ?_) <;> intro h <;> (try simp only [Bool.not_eq_true', Bool.not_eq_false'] at h) <;> replace hb0 := h) | ((with_reducible refine isCall (f := 91) ?_); refine callA ?_) | ((with_reducible refine isCall0 (f := 91) ?_); refine callA0 ?_) | ((with_reducible refine isCallS (f := 91) ?_); refine (zeros_bor 13 _ _ _ L3 (a - b) t2 (by omega) (by omega) (fun e q r1 r2 r3 => Stop.mk ?_))) | (refine And.intro ?ob ?_; case ob => ((try simp only [sxO, ne_eq, maxLen] at *); omega)) | fail) <;> (try simp (config := { maxSteps := 1000000 }) only [hb0, cE_ment, hasK_nil, cE_kill, cE_len, u32_one, u32_app1, u32_set, Nat.mul_one, ↓hold_pre, awayP, runOps, regK, step1, newK, genR, appR, obl, buildR, Value.cells, closeK, keepH, outV, retK, ret1, retC, RetV, Option.getD, runD, stepD, afterK, undef, simprocAttr, sxB, ↓sxD, sxE, sxTab]))
      have t3 := t2.len
      have t4 := t2.le
      have hgs := gcd_step (a := a) (b := b) (e := e) (q := q) (by omega) (by omega) r2
      have hdv : (a - b) / 2 ^ e = q := by rw [r2, Nat.mul_div_cancel_left _ (Nat.two_pow_pos e)]
      have hqle : q ≤ a - b := by rw [← hdv]; exact Nat.div_le_self _ _
      refine Stop.go ?_
      (replace hb0 := true_and True); refine Go1.mk ?_; repeat' ((first | (with_reducible refine Go1.go ?_) | ((with_reducible first | refine brv_mk ?_ ?_ | refine gsplitD ?_ ?_ | refine gsplitG ?_ ?_) <;> intro h <;> (try simp only [Bool.not_eq_true', Bool.not_eq_false'] at h) <;> replace hb0 := h) | ((with_reducible refine isCall (f := 92) ?_); refine callA ?_) | ((with_reducible refine isCall0 (f := 92) ?_); refine callA0 ?_) | ((with_reducible refine isCallS (f := 92) ?_); refine (down_ok 13 _ _ e L3 t2.le (by omega) (by omega) t2.ok (fun L4 o4 m4 r4 r5 => Stop.mk ?_))) | (refine And.intro ?ob ?_; case ob => ((try simp only [sxO, ne_eq, maxLen] at *); omega)) | fail) <;> (try simp (config := { maxSteps := 1000000 }) only [hb0, cE_ment, hasK_nil, cE_kill, cE_len, u32_one, u32_app1, u32_set, Nat.mul_one, ↓hold_pre, awayP, runOps, regK, step1, newK, genR, appR, obl, buildR, Value.cells, closeK, keepH, outV, retK, ret1, retC, RetV, Option.getD, runD, stepD, afterK, undef, simprocAttr, sxB, ↓sxD, sxE, sxTab]))
      rw [t2.val, hdv] at r5
      refine Stop.go ?_
      (replace hb0 := true_and True); refine Go1.mk ?_; repeat' ((first | (with_reducible refine Go1.go ?_) | ((with_reducible first | refine brv_mk ?_ ?_ | refine gsplitD ?_ ?_ | refine gsplitG ?_ ?_) <;> intro h <;> (try simp only [Bool.not_eq_true', Bool.not_eq_false'] at h) <;> replace hb0 := h) | (refine And.intro ?ob ?_; case ob => ((try simp only [sxO, ne_eq, maxLen] at *); omega)) | fail) <;> (try simp (config := { maxSteps := 1000000 }) only [hb0, cE_ment, hasK_nil, cE_kill, cE_len, u32_one, u32_app1, u32_set, Nat.mul_one, ↓hold_pre, awayP, runOps, regK, step1, newK, genR, appR, obl, buildR, Value.cells, closeK, keepH, outV, retK, ret1, retC, RetV, Option.getD, runD, stepD, afterK, undef, simprocAttr, sxB, ↓sxD, sxE, sxTab]))
      exact ⟨q + b, cmSt M 13 11 o4 m4 ob mb e1 e2 L4 LB, by omega, le_sub ⟨rfl, rfl, rfl, rfl, trivial⟩ (by simp [subHp, cmSt, lkH]) rfl rfl rfl (keepLt0 _), q, b, _, _, _, _, L4, LB, rfl, by omega, by omega, r3, by omega, (by rw [hgs]; exact hg), r5, hB, by omega, by omega, .inr rfl⟩
end
end Go.Proofs.YtamghpnjdohnjaaDoor.Sx
namespace Go.Proofs.YtamghpnjdohnjaaDoor.Sx
open Go Go.RowKit
set_option linter.unusedVariables false
set_option linter.unusedSimpArgs false
set_option maxRecDepth 100000
set_option maxHeartbeats 8000000
attribute [local congr] fin_congr finG_congr stepG_congr step1_congr runOps_congr brv_congr obl_congr condK_congr LoopK_congr seqK_congr CutK_congr vc_congr DrawK_congr regK_congr CallK_congr AskK_congr newK_congr retC_congr ret1_congr retK_congr outV_congr closeK_congr genR_congr appR_congr finD_congr finGD_congr stepGD_congr stepD_congr CallK0_congr runD_congr okR_congr CallS_congr vcX_congr
attribute [local congr] Stop_congr
section
variable {M : Mem} {K : AV → Hp → Mem → Prop} {u1 u2 : Value} {l1 l2 : List Nat}
theorem rlowest_ok (u v : Value) (n d : Nat) (hu : IsL M u32V u (ofN n)) (hv : IsL M u32V v (ofN d)) (hn : (ofN n).length < 1000000) (hd : (ofN d).length < 1000000) (hd0 : 0 < d)
    (hK : ∀ w1 w2 M', Mem.le M M' → IsL M' u32V w1 (ofN (n / Nat.gcd n d)) → IsL M' u32V w2 (ofN (d / Nat.gcd n d)) → FreshS M w1 → FreshS M w2 → K (.ext (.agg #[w1, w2])) [] M') : CallS Tryd.prog 53 [.ext u, .ext v] [] M [] K := by
  refine inlS (cs := []) Tryd.mixed Tryd.func53 rfl (by kernel_rfl) 0 rfl rfl ?_
  simp only [Tryd.f53]
  have hg0 : 0 < Nat.gcd n d := Nat.gcd_pos_of_pos_right _ hd0
  have hgl := len_mono (Nat.gcd_le_right n hd0)
  (replace hb0 := true_and True); refine Go1.mk ?_; repeat' ((first | (with_reducible refine Go1.go ?_) | ((with_reducible first | refine brv_mk ?_ ?_ | refine gsplitD ?_ ?_ | refine gsplitG ?_ ?_) <;> intro h <;> (try simp only [Bool.not_eq_true', Bool.not_eq_false'] at h) <;> replace hb0 := h) | ((first | (with_reducible refine isCall (f := 58) ?_; refine callA_nil (by kernel_rfl) ?_) | (with_reducible refine isCall0 (f := 58) ?_; refine callA0_nil (by kernel_rfl) ?_)); refine (common_ok u v n d hu hv (by omega) (by omega) (fun g M1 a1 a2 a3 => Stop.mk ?_))) | (refine And.intro ?ob ?_; case ob => ((try simp only [sxO, ne_eq, maxLen] at *); omega)) | fail) <;> (try simp (config := { maxSteps := 1000000 }) only [hb0, hu.one, hv.one, ↓hold_pre, awayP, runOps, regK, step1, newK, genR, appR, obl, buildR, Value.cells, closeK, keepH, outV, retK, ret1, retC, RetV, Option.getD, runD, stepD, afterK, undef, simprocAttr, sxB, ↓sxD, sxE, sxTab]))
  have a1 : Mem.le M M1 := a1
  have hu1 := hu.le a1
  have hv1 := hv.le a1
  refine Stop.go ?_
  (replace hb0 := true_and True); refine Go1.mk ?_; repeat' ((first | (with_reducible refine Go1.go ?_) | ((with_reducible first | refine brv_mk ?_ ?_ | refine gsplitD ?_ ?_ | refine gsplitG ?_ ?_) <;> intro h <;> (try simp only [Bool.not_eq_true', Bool.not_eq_false'] at h) <;> replace hb0 := h) | ((first | (with_reducible refine isCall (f := 78) ?_; refine callA_nil (by kernel_rfl) ?_) | (with_reducible refine isCall0 (f := 78) ?_; refine callA0_nil (by kernel_rfl) ?_)); refine (split_ok u g n _ hu1 a2 (by omega) (by omega) hg0 (fun q1 r1 M2 b1 b2 b3 b4 b5 => Stop.mk ?_))) | (refine And.intro ?ob ?_; case ob => ((try simp only [sxO, ne_eq, maxLen] at *); omega)) | fail) <;> (try simp (config := { maxSteps := 1000000 }) only [hb0, hu1.one, hv1.one, a2.one, ↓hold_pre, awayP, runOps, regK, step1, newK, genR, appR, obl, buildR, Value.cells, closeK, keepH, outV, retK, ret1, retC, RetV, Option.getD, runD, stepD, afterK, undef, simprocAttr, sxB, ↓sxD, sxE, sxTab]))
  have b1 : Mem.le M1 M2 := b1
  have hv2 := hv1.le b1
  have a2' := a2.le b1
  refine Stop.go ?_
  (replace hb0 := true_and True); refine Go1.mk ?_; repeat' ((first | (with_reducible refine Go1.go ?_) | ((with_reducible first | refine brv_mk ?_ ?_ | refine gsplitD ?_ ?_ | refine gsplitG ?_ ?_) <;> intro h <;> (try simp only [Bool.not_eq_true', Bool.not_eq_false'] at h) <;> replace hb0 := h) | ((first | (with_reducible refine isCall (f := 78) ?_; refine callA_nil (by kernel_rfl) ?_) | (with_reducible refine isCall0 (f := 78) ?_; refine callA0_nil (by kernel_rfl) ?_)); refine (split_ok v g d _ hv2 a2' (by omega) (by omega) hg0 (fun q2 r2 M3 c1 c2 c3 c4 c5 => Stop.mk ?_))) | (refine And.intro ?ob ?_; case ob => ((try simp only [sxO, ne_eq, maxLen] at *); omega)) | fail) <;> (try simp (config := { maxSteps := 1000000 }) only [hb0, hv2.one, a2'.one, b2.one, b3.one, ↓hold_pre, awayP, runOps, regK, step1, newK, genR, appR, obl, buildR, Value.cells, closeK, keepH, outV, retK, ret1, retC, RetV, Option.getD, runD, stepD, afterK, undef, simprocAttr, sxB, ↓sxD, sxE, sxTab]))
  have c1 : Mem.le M2 M3 := c1
  have b2' := b2.le c1
  have b3' := b3.le c1
  refine Stop.go ?_
  (replace hb0 := true_and True); refine Go1.mk ?_; repeat' ((first | (with_reducible refine Go1.go ?_) | ((with_reducible first | refine brv_mk ?_ ?_ | refine gsplitD ?_ ?_ | refine gsplitG ?_ ?_) <;> intro h <;> (try simp only [Bool.not_eq_true', Bool.not_eq_false'] at h) <;> replace hb0 := h) | (refine And.intro ?ob ?_; case ob => ((try simp only [sxO, ne_eq, maxLen] at *); omega)) | fail) <;> (try simp (config := { maxSteps := 1000000 }) only [hb0, b2'.one, b3'.one, c2.one, c3.one, ↓hold_pre, awayP, runOps, regK, step1, newK, genR, appR, obl, buildR, Value.cells, closeK, keepH, outV, retK, ret1, retC, RetV, Option.getD, runD, stepD, afterK, undef, simprocAttr, sxB, ↓sxD, sxE, sxTab]))
  exact hK _ _ _ ((a1.trans b1).trans c1) b2' c2 (b4.le a1) (c4.le (a1.trans b1))
theorem rflimited_ok {x y : Nat} (h1 : IsL M u32V u1 (ofN x)) (h2 : IsL M u32V u2 (ofN y)) (hK1 : (ofN x).length ≤ 128 → (ofN y).length ≤ 128 → K (.ext (.tuple #[.agg #[u1, u2], .int .i64 0])) [] M)
    (hK2 : (128 < (ofN x).length ∨ 128 < (ofN y).length) → K (.ext (.tuple #[.agg #[.slice none 0 0, .slice none 0 0], .int .i64 2])) [] M) : CallS Tryd.prog 65 [.ext (.agg #[u1, u2])] [] M [] K := by
  refine inlS (cs := []) Tryd.mixed Tryd.func65 rfl (by kernel_rfl) 0 rfl rfl ?_
  simp only [Tryd.f65]
  by_cases a : (ofN x).length ≤ 128
  · have d1 : decide ((128 : Int) < ((ofN x).length : Int)) = false := by rw [decide_eq_false_iff_not]; omega
    by_cases b : (ofN y).length ≤ 128
    · have d2 : decide ((128 : Int) < ((ofN y).length : Int)) = false := by rw [decide_eq_false_iff_not]; omega
      (replace hb0 := true_and True); refine Go1.mk ?_; repeat' ((first | (with_reducible refine Go1.go ?_) | ((with_reducible first | refine brv_mk ?_ ?_ | refine gsplitD ?_ ?_ | refine gsplitG ?_ ?_) <;> intro h <;> (try simp only [Bool.not_eq_true', Bool.not_eq_false'] at h) <;> replace hb0 := h) | (refine And.intro ?ob ?_; case ob => ((try simp only [sxO, ne_eq, maxLen] at *); omega)) | fail) <;> (try simp (config := { maxSteps := 1000000 }) only [hb0, h1.one, h1.len, h1.sl, h2.one, h2.len, h2.sl, d1, d2, ↓hold_pre, awayP, runOps, regK, step1, newK, genR, appR, obl, buildR, Value.cells, closeK, keepH, outV, retK, ret1, retC, RetV, Option.getD, runD, stepD, afterK, undef, simprocAttr, sxB, ↓sxD, sxE, sxTab]))
      exact hK1 a b
    · have d2 : decide ((128 : Int) < ((ofN y).length : Int)) = true := by rw [decide_eq_true_eq]; omega
      (replace hb0 := true_and True); refine Go1.mk ?_; repeat' ((first | (with_reducible refine Go1.go ?_) | ((with_reducible first | refine brv_mk ?_ ?_ | refine gsplitD ?_ ?_ | refine gsplitG ?_ ?_) <;> intro h <;> (try simp only [Bool.not_eq_true', Bool.not_eq_false'] at h) <;> replace hb0 := h) | (refine And.intro ?ob ?_; case ob => ((try simp only [sxO, ne_eq, maxLen] at *); omega)) | fail) <;> (try simp (config := { maxSteps := 1000000 }) only [hb0, h1.one, h1.len, h1.sl, h2.one, h2.len, h2.sl, d1, d2, ↓hold_pre, awayP, runOps, regK, step1, newK, genR, appR, obl, buildR, Value.cells, closeK, keepH, outV, retK, ret1, retC, RetV, Option.getD, runD, stepD, afterK, undef, simprocAttr, sxB, ↓sxD, sxE, sxTab]))
      exact hK2 (.inr (by omega))
  · have d1 : decide ((128 : Int) < ((ofN x).length : Int)) = true := by rw [decide_eq_true_eq]; omega
    (replace hb0 := true_and True); refine Go1.mk ?_; repeat' ((first | (with_reducible refine Go1.go ?_) | ((with_reducible first | refine brv_mk ?_ ?_ | refine gsplitD ?_ ?_ | refine gsplitG ?_ ?_) <;> intro h <;> (try simp only [Bool.not_eq_true', Bool.not_eq_false'] at h) <;> replace hb0 := h) | (refine And.intro ?ob ?_; case ob => ((try simp only [sxO, ne_eq, maxLen] at *); omega)) | fail) <;> (try simp (config := { maxSteps := 1000000 }) only [hb0, h1.one, h1.len, h1.sl, h2.one, h2.len, h2.sl, d1, ↓hold_pre, awayP, runOps, regK, step1, newK, genR, appR, obl, buildR, Value.cells, closeK, keepH, outV, retK, ret1, retC, RetV, Option.getD, runD, stepD, afterK, undef, simprocAttr, sxB, ↓sxD, sxE, sxTab]))
    exact hK2 (.inl (by omega))
theorem rfmake_ok (h1 : IsL M u32V u1 l1) (h2 : IsL M u32V u2 l2) (o1 : okN l1) (o2 : okN l2) (b1 : l1.length < 1000000) (b2 : l2.length < 1000000) (hK : FracK M K (makF l1 l2)) : CallS Tryd.prog 12 [.ext u1, .ext u2] [] M [] K := by
  refine inlS (cs := []) Tryd.mixed Tryd.func12 rfl (by kernel_rfl) 0 rfl rfl ?_
  simp only [Tryd.f12]
  unfold makF at hK
  cases hc1 : chkN l1 with
  | false =>
    rw [hc1] at hK
    (replace hb0 := true_and True); refine Go1.mk ?_; repeat' ((first | (with_reducible refine Go1.go ?_) | ((with_reducible first | refine brv_mk ?_ ?_ | refine gsplitD ?_ ?_ | refine gsplitG ?_ ?_) <;> intro h <;> (try simp only [Bool.not_eq_true', Bool.not_eq_false'] at h) <;> replace hb0 := h) | ((first | (with_reducible refine isCall (f := 52) ?_; refine callA_nil (by kernel_rfl) ?_) | (with_reducible refine isCall0 (f := 52) ?_; refine callA0_nil (by kernel_rfl) ?_)); refine (rcheck_ok u1 l1 h1 (by omega) ?_)) | (refine And.intro ?ob ?_; case ob => ((try simp only [sxO, ne_eq, maxLen] at *); omega)) | fail) <;> (try simp (config := { maxSteps := 1000000 }) only [hb0, h1.one, h2.one, hc1, ↓hold_pre, awayP, runOps, regK, step1, newK, genR, appR, obl, buildR, Value.cells, closeK, keepH, outV, retK, ret1, retC, RetV, Option.getD, runD, stepD, afterK, undef, simprocAttr, sxB, ↓sxD, sxE, sxTab]))
    exact hK.err _ (Mem.le.refl _)
  | true =>
    cases hc2 : chkN l2 with
    | false =>
      rw [hc1, hc2] at hK
      (replace hb0 := true_and True); refine Go1.mk ?_; repeat' ((first | (with_reducible refine Go1.go ?_) | ((with_reducible first | refine brv_mk ?_ ?_ | refine gsplitD ?_ ?_ | refine gsplitG ?_ ?_) <;> intro h <;> (try simp only [Bool.not_eq_true', Bool.not_eq_false'] at h) <;> replace hb0 := h) | ((first | (with_reducible refine isCall (f := 52) ?_; refine callA_nil (by kernel_rfl) ?_) | (with_reducible refine isCall0 (f := 52) ?_; refine callA0_nil (by kernel_rfl) ?_)); refine (rcheck_ok u1 l1 h1 (by omega) ?_)) | ((first | (with_reducible refine isCall (f := 52) ?_; refine callA_nil (by kernel_rfl) ?_) | (with_reducible refine isCall0 (f := 52) ?_; refine callA0_nil (by kernel_rfl) ?_)); refine (rcheck_ok u2 l2 h2 (by omega) ?_)) | (refine And.intro ?ob ?_; case ob => ((try simp only [sxO, ne_eq, maxLen] at *); omega)) | fail) <;> (try simp (config := { maxSteps := 1000000 }) only [hb0, h1.one, h2.one, hc1, hc2, ↓hold_pre, awayP, runOps, regK, step1, newK, genR, appR, obl, buildR, Value.cells, closeK, keepH, outV, retK, ret1, retC, RetV, Option.getD, runD, stepD, afterK, undef, simprocAttr, sxB, ↓sxD, sxE, sxTab]))
      exact hK.err _ (Mem.le.refl _)
    | true =>
      rw [hc1, hc2, Bool.and_self, if_pos rfl] at hK
      obtain ⟨e1, x1⟩ := chkN_ok o1 hc1
      obtain ⟨e2, x2⟩ := chkN_ok o2 hc2
      have h1' := h1
      have h2' := h2
      rw [e1] at h1'
      rw [e2] at h2'
      have hz := nil_iff e2
      by_cases h0 : valN l2 = 0
      · rw [if_pos h0] at hK
        have d1 : decide ((l2.length : Int) = 0) = true := by rw [decide_eq_true_eq]; have := hz.2 h0; omega
        (replace hb0 := true_and True); refine Go1.mk ?_; repeat' ((first | (with_reducible refine Go1.go ?_) | ((with_reducible first | refine brv_mk ?_ ?_ | refine gsplitD ?_ ?_ | refine gsplitG ?_ ?_) <;> intro h <;> (try simp only [Bool.not_eq_true', Bool.not_eq_false'] at h) <;> replace hb0 := h) | ((first | (with_reducible refine isCall (f := 52) ?_; refine callA_nil (by kernel_rfl) ?_) | (with_reducible refine isCall0 (f := 52) ?_; refine callA0_nil (by kernel_rfl) ?_)); refine (rcheck_ok u1 l1 h1 (by omega) ?_)) | ((first | (with_reducible refine isCall (f := 52) ?_; refine callA_nil (by kernel_rfl) ?_) | (with_reducible refine isCall0 (f := 52) ?_; refine callA0_nil (by kernel_rfl) ?_)); refine (rcheck_ok u2 l2 h2 (by omega) ?_)) | (refine And.intro ?ob ?_; case ob => ((try simp only [sxO, ne_eq, maxLen] at *); omega)) | fail) <;> (try simp (config := { maxSteps := 1000000 }) only [hb0, h1.one, h2.one, h2.len, h2.sl, hc1, hc2, d1, ↓hold_pre, awayP, runOps, regK, step1, newK, genR, appR, obl, buildR, Value.cells, closeK, keepH, outV, retK, ret1, retC, RetV, Option.getD, runD, stepD, afterK, undef, simprocAttr, sxB, ↓sxD, sxE, sxTab]))
        exact hK.err _ (Mem.le.refl _)
      · rw [if_neg h0] at hK
        have d1 : decide ((l2.length : Int) = 0) = false := by rw [decide_eq_false_iff_not]; have := fun h => h0 (hz.1 h); omega
        (replace hb0 := true_and True); refine Go1.mk ?_; repeat' ((first | (with_reducible refine Go1.go ?_) | ((with_reducible first | refine brv_mk ?_ ?_ | refine gsplitD ?_ ?_ | refine gsplitG ?_ ?_) <;> intro h <;> (try simp only [Bool.not_eq_true', Bool.not_eq_false'] at h) <;> replace hb0 := h) | ((first | (with_reducible refine isCall (f := 52) ?_; refine callA_nil (by kernel_rfl) ?_) | (with_reducible refine isCall0 (f := 52) ?_; refine callA0_nil (by kernel_rfl) ?_)); refine (rcheck_ok u1 l1 h1 (by omega) ?_)) | ((first | (with_reducible refine isCall (f := 52) ?_; refine callA_nil (by kernel_rfl) ?_) | (with_reducible refine isCall0 (f := 52) ?_; refine callA0_nil (by kernel_rfl) ?_)); refine (rcheck_ok u2 l2 h2 (by omega) ?_)) | ((first | (with_reducible refine isCall (f := 53) ?_; refine callA_nil (by kernel_rfl) ?_) | (with_reducible refine isCall0 (f := 53) ?_; refine callA0_nil (by kernel_rfl) ?_)); refine (rlowest_ok u1 u2 _ _ h1' h2' (by rw [← e1]; omega) (by rw [← e2]; omega) (by omega) (fun w1 w2 M1 a1 a2 a3 a4 a5 => Stop.mk ?_))) | (refine And.intro ?ob ?_; case ob => ((try simp only [sxO, ne_eq, maxLen] at *); omega)) | fail) <;> (try simp (config := { maxSteps := 1000000 }) only [hb0, h1.one, h2.one, h2.len, h2.sl, hc1, hc2, d1, ↓hold_pre, awayP, runOps, regK, step1, newK, genR, appR, obl, buildR, Value.cells, closeK, keepH, outV, retK, ret1, retC, RetV, Option.getD, runD, stepD, afterK, undef, simprocAttr, sxB, ↓sxD, sxE, sxTab]))
        refine Stop.go ?_
        (replace hb0 := true_and True); refine Go1.mk ?_; repeat' ((first | (with_reducible refine Go1.go ?_) | ((with_reducible first | refine brv_mk ?_ ?_ | refine gsplitD ?_ ?_ | refine gsplitG ?_ ?_) <;> intro h <;> (try simp only [Bool.not_eq_true', Bool.not_eq_false'] at h) <;> replace hb0 := h) | (refine And.intro ?ob ?_; case ob => ((try simp only [sxO, ne_eq, maxLen] at *); omega)) | fail) <;> (try simp (config := { maxSteps := 1000000 }) only [hb0, a2.one, a3.one, ↓hold_pre, awayP, runOps, regK, step1, newK, genR, appR, obl, buildR, Value.cells, closeK, keepH, outV, retK, ret1, retC, RetV, Option.getD, runD, stepD, afterK, undef, simprocAttr, sxB, ↓sxD, sxE, sxTab]))
        rw [exF_is (by rw [← e1]; omega) (by rw [← e2]; omega)] at hK
        exact hK _ _ _ a1 a2 a3 a4 a5
theorem rorder_bor2 (k n : Nat) (T : TypeId) (u : Value) (x y : Nat) (L : List Nat) (hL : L = ofN y) (hn : n = L.length) (hv : IsL M u32V u (ofN x)) (hx : (ofN x).length < 100000000) (hy : (ofN y).length < 100000000) (hK : K (.ext (.int .i64 (cmpN x y))) [(k, T, cE u32V L)] M) :
    CallS Tryd.prog 57 [.ext u, .slo k 0 n 1] [(k, T, cE u32V L)] M [] K := by
  refine CallS.bor ⟨⟨_, rfl⟩, trivial⟩ fun us M' hM hb' => ?_
  obtain ⟨v1, _, rfl, h1, v2, _, rfl, h2, rfl⟩ := hb'
  have h1 : v1 = u := h1
  subst h1
  have g1 := h2.isL (g := u32V) (L := L) (T := T) (by simp [lkH]) hn
  rw [hL] at g1
  exact rorder_ok v1 v2 x y (hv.le hM) g1 hx hy (BorK.same hK)
theorem cmp_one (g : Nat) : decide (cmpN g 1 = 0) = (g == 1) := by
  rw [Bool.eq_iff_iff, decide_eq_true_eq, beq_iff_eq]
  unfold cmpN
  by_cases h : g = 1
  · subst h; simp
  · rw [if_neg h]
    constructor
    · intro h2; split at h2 <;> omega
    · intro h2; exact absurd h2 h
theorem ofN_1 : ofN 1 = [1] := by rw [ofN_pos (by decide), show 1 / 4294967296 = 0 from rfl, ofN_zero]
theorem rfcheck_ok (h1 : IsL M u32V u1 l1) (h2 : IsL M u32V u2 l2) (o1 : okN l1) (o2 : okN l2) (b1 : l1.length < 1000000) (b2 : l2.length < 1000000) (hK : ∀ M', Mem.le M M' → K (.ext (.bool (chkF l1 l2))) [] M') : CallS Tryd.prog 17 [.ext (.agg #[u1, u2])] [] M [] K := by
  refine inlS (cs := []) Tryd.mixed Tryd.func17 rfl (by kernel_rfl) 0 rfl rfl ?_
  simp only [Tryd.f17]
  unfold chkF at hK
  cases hc1 : chkN l1 with
  | false =>
    rw [hc1] at hK
    (replace hb0 := true_and True); refine Go1.mk ?_; repeat' ((first | (with_reducible refine Go1.go ?_) | ((with_reducible first | refine brv_mk ?_ ?_ | refine gsplitD ?_ ?_ | refine gsplitG ?_ ?_) <;> intro h <;> (try simp only [Bool.not_eq_true', Bool.not_eq_false'] at h) <;> replace hb0 := h) | ((first | (with_reducible refine isCall (f := 52) ?_; refine callA_nil (by kernel_rfl) ?_) | (with_reducible refine isCall0 (f := 52) ?_; refine callA0_nil (by kernel_rfl) ?_)); refine (rcheck_ok u1 l1 h1 (by omega) ?_)) | (refine And.intro ?ob ?_; case ob => ((try simp only [sxO, ne_eq, maxLen] at *); omega)) | fail) <;> (try simp (config := { maxSteps := 1000000 }) only [hb0, h1.one, h2.one, hc1, ↓hold_pre, awayP, runOps, regK, step1, newK, genR, appR, obl, buildR, Value.cells, closeK, keepH, outV, retK, ret1, retC, RetV, Option.getD, runD, stepD, afterK, undef, simprocAttr, sxB, ↓sxD, sxE, sxTab]))
    exact hK _ (Mem.le.refl _)
  | true =>
    cases hc2 : chkN l2 with
    | false =>
      rw [hc1, hc2] at hK
      (replace hb0 := true_and True); refine Go1.mk ?_; repeat' ((first | (with_reducible refine Go1.go ?_) | ((with_reducible first | refine brv_mk ?_ ?_ | refine gsplitD ?_ ?_ | refine gsplitG ?_ ?_) <;> intro h <;> (try simp only [Bool.not_eq_true', Bool.not_eq_false'] at h) <;> replace hb0 := h) | ((first | (with_reducible refine isCall (f := 52) ?_; refine callA_nil (by kernel_rfl) ?_) | (with_reducible refine isCall0 (f := 52) ?_; refine callA0_nil (by kernel_rfl) ?_)); refine (rcheck_ok u1 l1 h1 (by omega) ?_)) | ((first | (with_reducible refine isCall (f := 52) ?_; refine callA_nil (by kernel_rfl) ?_) | (with_reducible refine isCall0 (f := 52) ?_; refine callA0_nil (by kernel_rfl) ?_)); refine (rcheck_ok u2 l2 h2 (by omega) ?_)) | (refine And.intro ?ob ?_; case ob => ((try simp only [sxO, ne_eq, maxLen] at *); omega)) | fail) <;> (try simp (config := { maxSteps := 1000000 }) only [hb0, h1.one, h2.one, hc1, hc2, ↓hold_pre, awayP, runOps, regK, step1, newK, genR, appR, obl, buildR, Value.cells, closeK, keepH, outV, retK, ret1, retC, RetV, Option.getD, runD, stepD, afterK, undef, simprocAttr, sxB, ↓sxD, sxE, sxTab]))
      exact hK _ (Mem.le.refl _)
    | true =>
      obtain ⟨e1, _⟩ := chkN_ok o1 hc1
      obtain ⟨e2, _⟩ := chkN_ok o2 hc2
      have h1' := h1
      have h2' := h2
      rw [e1] at h1'
      rw [e2] at h2'
      have hz := nil_iff e2
      by_cases h0 : valN l2 = 0
      · rw [hc1, hc2, decide_eq_true h0] at hK
        have d1 : decide ((0 : Int) < (l2.length : Int)) = false := by rw [decide_eq_false_iff_not]; have := hz.2 h0; omega
        (replace hb0 := true_and True); refine Go1.mk ?_; repeat' ((first | (with_reducible refine Go1.go ?_) | ((with_reducible first | refine brv_mk ?_ ?_ | refine gsplitD ?_ ?_ | refine gsplitG ?_ ?_) <;> intro h <;> (try simp only [Bool.not_eq_true', Bool.not_eq_false'] at h) <;> replace hb0 := h) | ((first | (with_reducible refine isCall (f := 52) ?_; refine callA_nil (by kernel_rfl) ?_) | (with_reducible refine isCall0 (f := 52) ?_; refine callA0_nil (by kernel_rfl) ?_)); refine (rcheck_ok u1 l1 h1 (by omega) ?_)) | ((first | (with_reducible refine isCall (f := 52) ?_; refine callA_nil (by kernel_rfl) ?_) | (with_reducible refine isCall0 (f := 52) ?_; refine callA0_nil (by kernel_rfl) ?_)); refine (rcheck_ok u2 l2 h2 (by omega) ?_)) | (refine And.intro ?ob ?_; case ob => ((try simp only [sxO, ne_eq, maxLen] at *); omega)) | fail) <;> (try simp (config := { maxSteps := 1000000 }) only [hb0, h1.one, h2.one, h2.len, h2.sl, hc1, hc2, d1, ↓hold_pre, awayP, runOps, regK, step1, newK, genR, appR, obl, buildR, Value.cells, closeK, keepH, outV, retK, ret1, retC, RetV, Option.getD, runD, stepD, afterK, undef, simprocAttr, sxB, ↓sxD, sxE, sxTab]))
        exact hK _ (Mem.le.refl _)
      have d1 : decide ((0 : Int) < (l2.length : Int)) = true := by rw [decide_eq_true_eq]; have := fun h => h0 (hz.1 h); omega
      rw [hc1, hc2, decide_eq_false h0] at hK
      have hgl := len_mono (Nat.gcd_le_right (valN l1) (show 0 < valN l2 by omega))
      rw [← e2] at hgl
      have hcm := cmp_one (Nat.gcd (valN l1) (valN l2))
      (replace hb0 := true_and True); refine Go1.mk ?_; repeat' ((first | (with_reducible refine Go1.go ?_) | ((with_reducible first | refine brv_mk ?_ ?_ | refine gsplitD ?_ ?_ | refine gsplitG ?_ ?_) <;> intro h <;> (try simp only [Bool.not_eq_true', Bool.not_eq_false'] at h) <;> replace hb0 := h) | ((first | (with_reducible refine isCall (f := 52) ?_; refine callA_nil (by kernel_rfl) ?_) | (with_reducible refine isCall0 (f := 52) ?_; refine callA0_nil (by kernel_rfl) ?_)); refine (rcheck_ok u1 l1 h1 (by omega) ?_)) | ((first | (with_reducible refine isCall (f := 52) ?_; refine callA_nil (by kernel_rfl) ?_) | (with_reducible refine isCall0 (f := 52) ?_; refine callA0_nil (by kernel_rfl) ?_)); refine (rcheck_ok u2 l2 h2 (by omega) ?_)) | ((first | (with_reducible refine isCall (f := 58) ?_; refine callA_nil (by kernel_rfl) ?_) | (with_reducible refine isCall0 (f := 58) ?_; refine callA0_nil (by kernel_rfl) ?_)); refine (common_ok u1 u2 _ _ h1' h2' (by rw [← e1]; omega) (by rw [← e2]; omega) (fun g M1 a1 a2 a3 => Stop.mk ?_))) | (refine And.intro ?ob ?_; case ob => ((try simp only [sxO, ne_eq, maxLen] at *); omega)) | fail) <;> (try simp (config := { maxSteps := 1000000 }) only [hb0, h1.one, h2.one, h2.len, h2.sl, hc1, hc2, d1, ↓hold_pre, awayP, runOps, regK, step1, newK, genR, appR, obl, buildR, Value.cells, closeK, keepH, outV, retK, ret1, retC, RetV, Option.getD, runD, stepD, afterK, undef, simprocAttr, sxB, ↓sxD, sxE, sxTab]))
      have a1 : Mem.le M M1 := a1
      refine Stop.go ?_
      (replace hb0 := true_and True); refine Go1.mk ?_; repeat' ((first | (with_reducible refine Go1.go ?_) | ((with_reducible first | refine brv_mk ?_ ?_ | refine gsplitD ?_ ?_ | refine gsplitG ?_ ?_) <;> intro h <;> (try simp only [Bool.not_eq_true', Bool.not_eq_false'] at h) <;> replace hb0 := h) | ((with_reducible refine isCall (f := 57) ?_); refine callA ?_) | ((with_reducible refine isCall0 (f := 57) ?_); refine callA0 ?_) | ((with_reducible refine isCallS (f := 57) ?_); refine (rorder_bor2 23 1 _ g _ 1 [1] ofN_1.symm rfl a2 (by omega) (by rw [ofN_1]; decide) ?_)) | (refine And.intro ?ob ?_; case ob => ((try simp only [sxO, ne_eq, maxLen] at *); omega)) | fail) <;> (try simp (config := { maxSteps := 1000000 }) only [hb0, a2.one, hcm, cE_ment, hasK_nil, cE_kill, cE_len, u32_one, u32_app1, u32_set, Nat.mul_one, ↓hold_pre, awayP, runOps, regK, step1, newK, genR, appR, obl, buildR, Value.cells, closeK, keepH, outV, retK, ret1, retC, RetV, Option.getD, runD, stepD, afterK, undef, simprocAttr, sxB, ↓sxD, sxE, sxTab]))
      exact hK _ a1
theorem rforder_ok {v1 v2 : Value} {n1 d1 n2 d2 : Nat} (i1 : IsL M u32V u1 (ofN n1)) (i2 : IsL M u32V u2 (ofN d1)) (j1 : IsL M u32V v1 (ofN n2)) (j2 : IsL M u32V v2 (ofN d2)) (b1 : (ofN n1).length < 400000) (b2 : (ofN d1).length < 400000) (b3 : (ofN n2).length < 400000) (b4 : (ofN d2).length < 400000) (hK : ∀ M', Mem.le M M' → K (.ext (.int .i64 (cmpN (n1 * d2) (n2 * d1)))) [] M') : CallS Tryd.prog 62 [.ext (.agg #[u1, u2]), .ext (.agg #[v1, v2])] [] M [] K := by
  refine inlS (cs := []) Tryd.mixed Tryd.func62 rfl (by kernel_rfl) 0 rfl rfl ?_
  simp only [Tryd.f62]
  have t1 := mul_len n1 d2
  have t2 := mul_len n2 d1
  have hm := Mem.le.refl M
  (replace hb0 := true_and True); refine Go1.mk ?_; repeat' ((first | (with_reducible refine Go1.go ?_) | ((with_reducible first | refine brv_mk ?_ ?_ | refine gsplitD ?_ ?_ | refine gsplitG ?_ ?_) <;> intro h <;> (try simp only [Bool.not_eq_true', Bool.not_eq_false'] at h) <;> replace hb0 := h) | ((first | (with_reducible refine isCall (f := 69) ?_; refine callA_nil (by kernel_rfl) ?_) | (with_reducible refine isCall0 (f := 69) ?_; refine callA0_nil (by kernel_rfl) ?_)); refine (times_ok u1 v2 n1 d2 i1 j2 (by omega) (by omega) (fun wx M1 m1 hx fx => Stop.mk ?_))) | ((with_reducible refine isDraw [some 5, some 6, some 7, some 8, some 9, some 10, some 11, some 12, some 13, some 14, some 15, some 4] (by decide) ?_); refine draw_rule [(0, []), (1, []), (2, [1]), (3, [1]), (5, [1, 3]), (6, [1, 3]), (7, [1, 3, 6]), (8, [1, 3, 6]), (4, [6, 8]), (9, []), (10, []), (11, [])] [[], [0], [], [2], [0, 1, 2, 3], [], [5], [], [7], [0, 1, 2, 3, 4, 5, 6, 7, 8], [0, 1, 2, 3, 4, 5, 6, 7, 8, 9], [0, 1, 2, 3, 4, 5, 6, 7, 8, 9, 10]] [5, 6, 7, 8, 9, 10, 11, 12, 13] [] (by kernel_rfl) (by kernel_rfl) (by kernel_rfl) (by kernel_rfl) (by exact trivial) ?_) | (refine And.intro ?ob ?_; case ob => ((try simp only [sxO, ne_eq, maxLen] at *); omega)) | fail) <;> (try simp (config := { maxSteps := 1000000 }) only [hb0, i1.one, i2.one, j1.one, j2.one, ↓hold_pre, awayP, runOps, regK, step1, newK, genR, appR, obl, buildR, Value.cells, closeK, keepH, outV, retK, ret1, retC, RetV, Option.getD, runD, stepD, afterK, undef, simprocAttr, sxB, ↓sxD, sxE, sxTab]))
  have m1 : Mem.le M M1 := m1
  have i1 := i1.le m1
  have i2 := i2.le m1
  have j1 := j1.le m1
  have j2 := j2.le m1
  have fx := fx.le hm
  have hm := hm.trans m1
  refine Stop.go ?_
  (replace hb0 := true_and True); refine Go1.mk ?_; repeat' ((first | (with_reducible refine Go1.go ?_) | ((with_reducible first | refine brv_mk ?_ ?_ | refine gsplitD ?_ ?_ | refine gsplitG ?_ ?_) <;> intro h <;> (try simp only [Bool.not_eq_true', Bool.not_eq_false'] at h) <;> replace hb0 := h) | ((first | (with_reducible refine isCall (f := 69) ?_; refine callA_nil (by kernel_rfl) ?_) | (with_reducible refine isCall0 (f := 69) ?_; refine callA0_nil (by kernel_rfl) ?_)); refine (times_ok v1 u2 n2 d1 j1 i2 (by omega) (by omega) (fun wy M2 m2 hy fy => Stop.mk ?_))) | ((with_reducible refine isDraw [some 5, some 6, some 7, some 8, some 9, some 10, some 11, some 12, some 13, some 14, some 15, some 4] (by decide) ?_); refine draw_rule [(0, []), (1, []), (2, [1]), (3, [1]), (5, [1, 3]), (6, [1, 3]), (7, [1, 3, 6]), (8, [1, 3, 6]), (4, [6, 8]), (9, []), (10, []), (11, [])] [[], [0], [], [2], [0, 1, 2, 3], [], [5], [], [7], [0, 1, 2, 3, 4, 5, 6, 7, 8], [0, 1, 2, 3, 4, 5, 6, 7, 8, 9], [0, 1, 2, 3, 4, 5, 6, 7, 8, 9, 10]] [5, 6, 7, 8, 9, 10, 11, 12, 13] [] (by kernel_rfl) (by kernel_rfl) (by kernel_rfl) (by kernel_rfl) (by exact trivial) ?_) | (refine And.intro ?ob ?_; case ob => ((try simp only [sxO, ne_eq, maxLen] at *); omega)) | fail) <;> (try simp (config := { maxSteps := 1000000 }) only [hb0, i1.one, i2.one, j1.one, j2.one, hx.one, ↓hold_pre, awayP, runOps, regK, step1, newK, genR, appR, obl, buildR, Value.cells, closeK, keepH, outV, retK, ret1, retC, RetV, Option.getD, runD, stepD, afterK, undef, simprocAttr, sxB, ↓sxD, sxE, sxTab]))
  have m2 : Mem.le M1 M2 := m2
  have i1 := i1.le m2
  have i2 := i2.le m2
  have j1 := j1.le m2
  have j2 := j2.le m2
  have hx := hx.le m2
  have fy := fy.le hm
  have hm := hm.trans m2
  refine Stop.go ?_
  (replace hb0 := true_and True); refine Go1.mk ?_; repeat' ((first | (with_reducible refine Go1.go ?_) | ((with_reducible first | refine brv_mk ?_ ?_ | refine gsplitD ?_ ?_ | refine gsplitG ?_ ?_) <;> intro h <;> (try simp only [Bool.not_eq_true', Bool.not_eq_false'] at h) <;> replace hb0 := h) | ((first | (with_reducible refine isCall (f := 57) ?_; refine callA_nil (by kernel_rfl) ?_) | (with_reducible refine isCall0 (f := 57) ?_; refine callA0_nil (by kernel_rfl) ?_)); refine (rorder_ok wx wy _ _ hx hy (by omega) (by omega) ?_)) | (refine And.intro ?ob ?_; case ob => ((try simp only [sxO, ne_eq, maxLen] at *); omega)) | fail) <;> (try simp (config := { maxSteps := 1000000 }) only [hb0, i1.one, i2.one, j1.one, j2.one, hx.one, hy.one, ↓hold_pre, awayP, runOps, regK, step1, newK, genR, appR, obl, buildR, Value.cells, closeK, keepH, outV, retK, ret1, retC, RetV, Option.getD, runD, stepD, afterK, undef, simprocAttr, sxB, ↓sxD, sxE, sxTab]))
  exact hK _ hm
theorem rfplus_ok {v1 v2 : Value} {n1 d1 n2 d2 : Nat} (i1 : IsL M u32V u1 (ofN n1)) (i2 : IsL M u32V u2 (ofN d1)) (j1 : IsL M u32V v1 (ofN n2)) (j2 : IsL M u32V v2 (ofN d2)) (b1 : (ofN n1).length < 400000) (b2 : (ofN d1).length < 400000) (b3 : (ofN n2).length < 400000) (b4 : (ofN d2).length < 400000) (q3 : 0 < d1) (r3 : 0 < d2) (hK : ∀ w1 w2 M', Mem.le M M' → IsL M' u32V w1 (ofN ((n1 * d2 + n2 * d1) / Nat.gcd (n1 * d2 + n2 * d1) (d1 * d2))) → IsL M' u32V w2 (ofN ((d1 * d2) / Nat.gcd (n1 * d2 + n2 * d1) (d1 * d2))) → FreshS M w1 → FreshS M w2 → K (.ext (.agg #[w1, w2])) [] M') : CallS Tryd.prog 66 [.ext (.agg #[u1, u2]), .ext (.agg #[v1, v2])] [] M [] K := by
  refine inlS (cs := []) Tryd.mixed Tryd.func66 rfl (by kernel_rfl) 0 rfl rfl ?_
  simp only [Tryd.f66]
  have t1 := mul_len n1 d2
  have t2 := mul_len n2 d1
  have t3 := mul_len d1 d2
  have t0 : 0 < d1 * d2 := Nat.mul_pos q3 r3
  have hm := Mem.le.refl M
  (replace hb0 := true_and True); refine Go1.mk ?_; repeat' ((first | (with_reducible refine Go1.go ?_) | ((with_reducible first | refine brv_mk ?_ ?_ | refine gsplitD ?_ ?_ | refine gsplitG ?_ ?_) <;> intro h <;> (try simp only [Bool.not_eq_true', Bool.not_eq_false'] at h) <;> replace hb0 := h) | ((first | (with_reducible refine isCall (f := 69) ?_; refine callA_nil (by kernel_rfl) ?_) | (with_reducible refine isCall0 (f := 69) ?_; refine callA0_nil (by kernel_rfl) ?_)); refine (times_ok u1 v2 n1 d2 i1 j2 (by omega) (by omega) (fun wx M1 m1 hx fx => Stop.mk ?_))) | ((with_reducible refine isDraw [some 5, some 6, some 7, some 8, some 9, some 10, some 11, some 12, some 13, some 14, some 15, some 16, some 17, some 18, some 19, some 20, some 21, none] (by decide) ?_); refine draw_rule [(0, []), (1, []), (2, [1]), (3, [1]), (5, [1, 3]), (6, [1, 3]), (7, [1, 3, 6]), (8, [1, 3, 6]), (11, [1, 3, 6, 8]), (12, [1, 3, 6, 8]), (13, [1, 3, 6, 8, 12]), (14, [1, 3, 6, 8, 12]), (4, [6, 8, 12, 14]), (9, [12, 14]), (10, [12, 14]), (15, []), (16, []), (17, [])] [[], [0], [], [2], [0, 1, 2, 3], [], [5], [], [7], [0, 1, 2, 3, 4, 5, 6, 7, 8], [0, 1, 2, 3, 4, 5, 6, 7, 8, 9], [], [11], [], [13], [0, 1, 2, 3, 4, 5, 6, 7, 8, 9, 10, 11, 12, 13, 14], [0, 1, 2, 3, 4, 5, 6, 7, 8, 9, 10, 11, 12, 13, 14, 15], [0, 1, 2, 3, 4, 5, 6, 7, 8, 9, 10, 11, 12, 13, 14, 15, 16]] [5, 6, 7, 8, 9, 10, 11, 12, 13, 14, 15, 16, 17, 18, 19] [] (by kernel_rfl) (by kernel_rfl) (by kernel_rfl) (by kernel_rfl) (by exact trivial) ?_) | (refine And.intro ?ob ?_; case ob => ((try simp only [sxO, ne_eq, maxLen] at *); omega)) | fail) <;> (try simp (config := { maxSteps := 1000000 }) only [hb0, i1.one, i2.one, j1.one, j2.one, ↓hold_pre, awayP, runOps, regK, step1, newK, genR, appR, obl, buildR, Value.cells, closeK, keepH, outV, retK, ret1, retC, RetV, Option.getD, runD, stepD, afterK, undef, simprocAttr, sxB, ↓sxD, sxE, sxTab]))
  have m1 : Mem.le M M1 := m1
  have i1 := i1.le m1
  have i2 := i2.le m1
  have j1 := j1.le m1
  have j2 := j2.le m1
  have fx := fx.le hm
  have hm := hm.trans m1
  refine Stop.go ?_
  (replace hb0 := true_and True); refine Go1.mk ?_; repeat' ((first | (with_reducible refine Go1.go ?_) | ((with_reducible first | refine brv_mk ?_ ?_ | refine gsplitD ?_ ?_ | refine gsplitG ?_ ?_) <;> intro h <;> (try simp only [Bool.not_eq_true', Bool.not_eq_false'] at h) <;> replace hb0 := h) | ((first | (with_reducible refine isCall (f := 69) ?_; refine callA_nil (by kernel_rfl) ?_) | (with_reducible refine isCall0 (f := 69) ?_; refine callA0_nil (by kernel_rfl) ?_)); refine (times_ok v1 u2 n2 d1 j1 i2 (by omega) (by omega) (fun wy M2 m2 hy fy => Stop.mk ?_))) | ((with_reducible refine isDraw [some 5, some 6, some 7, some 8, some 9, some 10, some 11, some 12, some 13, some 14, some 15, some 16, some 17, some 18, some 19, some 20, some 21, none] (by decide) ?_); refine draw_rule [(0, []), (1, []), (2, [1]), (3, [1]), (5, [1, 3]), (6, [1, 3]), (7, [1, 3, 6]), (8, [1, 3, 6]), (11, [1, 3, 6, 8]), (12, [1, 3, 6, 8]), (13, [1, 3, 6, 8, 12]), (14, [1, 3, 6, 8, 12]), (4, [6, 8, 12, 14]), (9, [12, 14]), (10, [12, 14]), (15, []), (16, []), (17, [])] [[], [0], [], [2], [0, 1, 2, 3], [], [5], [], [7], [0, 1, 2, 3, 4, 5, 6, 7, 8], [0, 1, 2, 3, 4, 5, 6, 7, 8, 9], [], [11], [], [13], [0, 1, 2, 3, 4, 5, 6, 7, 8, 9, 10, 11, 12, 13, 14], [0, 1, 2, 3, 4, 5, 6, 7, 8, 9, 10, 11, 12, 13, 14, 15], [0, 1, 2, 3, 4, 5, 6, 7, 8, 9, 10, 11, 12, 13, 14, 15, 16]] [5, 6, 7, 8, 9, 10, 11, 12, 13, 14, 15, 16, 17, 18, 19] [] (by kernel_rfl) (by kernel_rfl) (by kernel_rfl) (by kernel_rfl) (by exact trivial) ?_) | (refine And.intro ?ob ?_; case ob => ((try simp only [sxO, ne_eq, maxLen] at *); omega)) | fail) <;> (try simp (config := { maxSteps := 1000000 }) only [hb0, i1.one, i2.one, j1.one, j2.one, hx.one, ↓hold_pre, awayP, runOps, regK, step1, newK, genR, appR, obl, buildR, Value.cells, closeK, keepH, outV, retK, ret1, retC, RetV, Option.getD, runD, stepD, afterK, undef, simprocAttr, sxB, ↓sxD, sxE, sxTab]))
  have m2 : Mem.le M1 M2 := m2
  have i1 := i1.le m2
  have i2 := i2.le m2
  have j1 := j1.le m2
  have j2 := j2.le m2
  have hx := hx.le m2
  have fy := fy.le hm
  have hm := hm.trans m2
  refine Stop.go ?_
  (replace hb0 := true_and True); refine Go1.mk ?_; repeat' ((first | (with_reducible refine Go1.go ?_) | ((with_reducible first | refine brv_mk ?_ ?_ | refine gsplitD ?_ ?_ | refine gsplitG ?_ ?_) <;> intro h <;> (try simp only [Bool.not_eq_true', Bool.not_eq_false'] at h) <;> replace hb0 := h) | ((first | (with_reducible refine isCall (f := 96) ?_; refine callA_nil (by kernel_rfl) ?_) | (with_reducible refine isCall0 (f := 96) ?_; refine callA0_nil (by kernel_rfl) ?_)); refine (plus_ok wx wy _ _ hx hy (by omega) (by omega) (fun ws M3 m3 hs fs => Stop.mk ?_))) | ((with_reducible refine isDraw [some 5, some 6, some 7, some 8, some 9, some 10, some 11, some 12, some 13, some 14, some 15, some 16, some 17, some 18, some 19, some 20, some 21, none] (by decide) ?_); refine draw_rule [(0, []), (1, []), (2, [1]), (3, [1]), (5, [1, 3]), (6, [1, 3]), (7, [1, 3, 6]), (8, [1, 3, 6]), (11, [1, 3, 6, 8]), (12, [1, 3, 6, 8]), (13, [1, 3, 6, 8, 12]), (14, [1, 3, 6, 8, 12]), (4, [6, 8, 12, 14]), (9, [12, 14]), (10, [12, 14]), (15, []), (16, []), (17, [])] [[], [0], [], [2], [0, 1, 2, 3], [], [5], [], [7], [0, 1, 2, 3, 4, 5, 6, 7, 8], [0, 1, 2, 3, 4, 5, 6, 7, 8, 9], [], [11], [], [13], [0, 1, 2, 3, 4, 5, 6, 7, 8, 9, 10, 11, 12, 13, 14], [0, 1, 2, 3, 4, 5, 6, 7, 8, 9, 10, 11, 12, 13, 14, 15], [0, 1, 2, 3, 4, 5, 6, 7, 8, 9, 10, 11, 12, 13, 14, 15, 16]] [5, 6, 7, 8, 9, 10, 11, 12, 13, 14, 15, 16, 17, 18, 19] [] (by kernel_rfl) (by kernel_rfl) (by kernel_rfl) (by kernel_rfl) (by exact trivial) ?_) | (refine And.intro ?ob ?_; case ob => ((try simp only [sxO, ne_eq, maxLen] at *); omega)) | fail) <;> (try simp (config := { maxSteps := 1000000 }) only [hb0, i1.one, i2.one, j1.one, j2.one, hx.one, hy.one, ↓hold_pre, awayP, runOps, regK, step1, newK, genR, appR, obl, buildR, Value.cells, closeK, keepH, outV, retK, ret1, retC, RetV, Option.getD, runD, stepD, afterK, undef, simprocAttr, sxB, ↓sxD, sxE, sxTab]))
  have m3 : Mem.le M2 M3 := m3
  have i1 := i1.le m3
  have i2 := i2.le m3
  have j1 := j1.le m3
  have j2 := j2.le m3
  have hx := hx.le m3
  have hy := hy.le m3
  have fs := fs.le hm
  have hm := hm.trans m3
  refine Stop.go ?_
  (replace hb0 := true_and True); refine Go1.mk ?_; repeat' ((first | (with_reducible refine Go1.go ?_) | ((with_reducible first | refine brv_mk ?_ ?_ | refine gsplitD ?_ ?_ | refine gsplitG ?_ ?_) <;> intro h <;> (try simp only [Bool.not_eq_true', Bool.not_eq_false'] at h) <;> replace hb0 := h) | ((first | (with_reducible refine isCall (f := 69) ?_; refine callA_nil (by kernel_rfl) ?_) | (with_reducible refine isCall0 (f := 69) ?_; refine callA0_nil (by kernel_rfl) ?_)); refine (times_ok u2 v2 d1 d2 i2 j2 (by omega) (by omega) (fun wp M4 m4 hp fp => Stop.mk ?_))) | ((with_reducible refine isDraw [some 5, some 6, some 7, some 8, some 9, some 10, some 11, some 12, some 13, some 14, some 15, some 16, some 17, some 18, some 19, some 20, some 21, none] (by decide) ?_); refine draw_rule [(0, []), (1, []), (2, [1]), (3, [1]), (5, [1, 3]), (6, [1, 3]), (7, [1, 3, 6]), (8, [1, 3, 6]), (11, [1, 3, 6, 8]), (12, [1, 3, 6, 8]), (13, [1, 3, 6, 8, 12]), (14, [1, 3, 6, 8, 12]), (4, [6, 8, 12, 14]), (9, [12, 14]), (10, [12, 14]), (15, []), (16, []), (17, [])] [[], [0], [], [2], [0, 1, 2, 3], [], [5], [], [7], [0, 1, 2, 3, 4, 5, 6, 7, 8], [0, 1, 2, 3, 4, 5, 6, 7, 8, 9], [], [11], [], [13], [0, 1, 2, 3, 4, 5, 6, 7, 8, 9, 10, 11, 12, 13, 14], [0, 1, 2, 3, 4, 5, 6, 7, 8, 9, 10, 11, 12, 13, 14, 15], [0, 1, 2, 3, 4, 5, 6, 7, 8, 9, 10, 11, 12, 13, 14, 15, 16]] [5, 6, 7, 8, 9, 10, 11, 12, 13, 14, 15, 16, 17, 18, 19] [] (by kernel_rfl) (by kernel_rfl) (by kernel_rfl) (by kernel_rfl) (by exact trivial) ?_) | (refine And.intro ?ob ?_; case ob => ((try simp only [sxO, ne_eq, maxLen] at *); omega)) | fail) <;> (try simp (config := { maxSteps := 1000000 }) only [hb0, i1.one, i2.one, j1.one, j2.one, hx.one, hy.one, hs.one, ↓hold_pre, awayP, runOps, regK, step1, newK, genR, appR, obl, buildR, Value.cells, closeK, keepH, outV, retK, ret1, retC, RetV, Option.getD, runD, stepD, afterK, undef, simprocAttr, sxB, ↓sxD, sxE, sxTab]))
  have m4 : Mem.le M3 M4 := m4
  have i1 := i1.le m4
  have i2 := i2.le m4
  have j1 := j1.le m4
  have j2 := j2.le m4
  have hx := hx.le m4
  have hy := hy.le m4
  have hs := hs.le m4
  have fp := fp.le hm
  have hm := hm.trans m4
  refine Stop.go ?_
  have t5 := add_len (x := n1 * d2) (y := n2 * d1) (k := 800000) (by omega) (by omega)
  (replace hb0 := true_and True); refine Go1.mk ?_; repeat' ((first | (with_reducible refine Go1.go ?_) | ((with_reducible first | refine brv_mk ?_ ?_ | refine gsplitD ?_ ?_ | refine gsplitG ?_ ?_) <;> intro h <;> (try simp only [Bool.not_eq_true', Bool.not_eq_false'] at h) <;> replace hb0 := h) | ((first | (with_reducible refine isCall (f := 53) ?_; refine callA_nil (by kernel_rfl) ?_) | (with_reducible refine isCall0 (f := 53) ?_; refine callA0_nil (by kernel_rfl) ?_)); refine (rlowest_ok ws wp _ _ hs hp (by omega) (by omega) t0 (fun w1 w2 M5 m5 h1 h2 f1 f2 => Stop.mk ?_))) | ((with_reducible refine isDraw [some 5, some 6, some 7, some 8, some 9, some 10, some 11, some 12, some 13, some 14, some 15, some 16, some 17, some 18, some 19, some 20, some 21, none] (by decide) ?_); refine draw_rule [(0, []), (1, []), (2, [1]), (3, [1]), (5, [1, 3]), (6, [1, 3]), (7, [1, 3, 6]), (8, [1, 3, 6]), (11, [1, 3, 6, 8]), (12, [1, 3, 6, 8]), (13, [1, 3, 6, 8, 12]), (14, [1, 3, 6, 8, 12]), (4, [6, 8, 12, 14]), (9, [12, 14]), (10, [12, 14]), (15, []), (16, []), (17, [])] [[], [0], [], [2], [0, 1, 2, 3], [], [5], [], [7], [0, 1, 2, 3, 4, 5, 6, 7, 8], [0, 1, 2, 3, 4, 5, 6, 7, 8, 9], [], [11], [], [13], [0, 1, 2, 3, 4, 5, 6, 7, 8, 9, 10, 11, 12, 13, 14], [0, 1, 2, 3, 4, 5, 6, 7, 8, 9, 10, 11, 12, 13, 14, 15], [0, 1, 2, 3, 4, 5, 6, 7, 8, 9, 10, 11, 12, 13, 14, 15, 16]] [5, 6, 7, 8, 9, 10, 11, 12, 13, 14, 15, 16, 17, 18, 19] [] (by kernel_rfl) (by kernel_rfl) (by kernel_rfl) (by kernel_rfl) (by exact trivial) ?_) | (refine And.intro ?ob ?_; case ob => ((try simp only [sxO, ne_eq, maxLen] at *); omega)) | fail) <;> (try simp (config := { maxSteps := 1000000 }) only [hb0, i1.one, i2.one, j1.one, j2.one, hx.one, hy.one, hs.one, hp.one, ↓hold_pre, awayP, runOps, regK, step1, newK, genR, appR, obl, buildR, Value.cells, closeK, keepH, outV, retK, ret1, retC, RetV, Option.getD, runD, stepD, afterK, undef, simprocAttr, sxB, ↓sxD, sxE, sxTab]))
  have m5 : Mem.le M4 M5 := m5
  have i1 := i1.le m5
  have i2 := i2.le m5
  have j1 := j1.le m5
  have j2 := j2.le m5
  have hx := hx.le m5
  have hy := hy.le m5
  have hs := hs.le m5
  have hp := hp.le m5
  have f1 := f1.le hm
  have f2 := f2.le hm
  have hm := hm.trans m5
  refine Stop.go ?_
  (replace hb0 := true_and True); refine Go1.mk ?_; repeat' ((first | (with_reducible refine Go1.go ?_) | ((with_reducible first | refine brv_mk ?_ ?_ | refine gsplitD ?_ ?_ | refine gsplitG ?_ ?_) <;> intro h <;> (try simp only [Bool.not_eq_true', Bool.not_eq_false'] at h) <;> replace hb0 := h) | (refine And.intro ?ob ?_; case ob => ((try simp only [sxO, ne_eq, maxLen] at *); omega)) | fail) <;> (try simp (config := { maxSteps := 1000000 }) only [hb0, i1.one, i2.one, j1.one, j2.one, hx.one, hy.one, hs.one, hp.one, h1.one, h2.one, ↓hold_pre, awayP, runOps, regK, step1, newK, genR, appR, obl, buildR, Value.cells, closeK, keepH, outV, retK, ret1, retC, RetV, Option.getD, runD, stepD, afterK, undef, simprocAttr, sxB, ↓sxD, sxE, sxTab]))
  exact hK _ _ _ hm h1 h2 f1 f2
end
end Go.Proofs.YtamghpnjdohnjaaDoor.Sx
namespace Go.Proofs.YtamghpnjdohnjaaDoor.Sx
open Go Go.RowKit
set_option linter.unusedVariables false
set_option linter.unusedSimpArgs false
set_option maxRecDepth 100000
set_option maxHeartbeats 8000000
attribute [local congr] fin_congr finG_congr stepG_congr step1_congr runOps_congr brv_congr obl_congr condK_congr LoopK_congr seqK_congr CutK_congr vc_congr DrawK_congr regK_congr CallK_congr AskK_congr newK_congr retC_congr ret1_congr retK_congr outV_congr closeK_congr genR_congr appR_congr finD_congr finGD_congr stepGD_congr stepD_congr CallK0_congr runD_congr okR_congr CallS_congr vcX_congr
attribute [local congr] Stop_congr
def fmtF (a b : List Nat) : Int × List UInt8 := if chkF a b then (if valN b = 1 then (0, decB (valN a)) else (0, decB (valN a) ++ 47 :: decB (valN b))) else (1, [])
theorem dec_short2 (n : Nat) : ∀ k, n < 2 ^ k → (dec n).length ≤ k := by
  induction n using Nat.strongRecOn with
  | _ n ih =>
    intro k hk
    by_cases h : n = 0
    · subst h; rw [dec_zero]; exact Nat.zero_le _
    · rw [dec_pos h, List.length_append, List.length_singleton]
      cases k with
      | zero => simp at hk; omega
      | succ k =>
        rw [Nat.pow_succ] at hk
        have := ih (n / 10) (Nat.div_lt_self (by omega) (by decide)) k (by omega)
        omega
theorem wN_pow2 (i : Nat) : wN i = 2 ^ (32 * i) := by unfold wN; rw [Nat.pow_mul]
theorem decB_128 {n : Nat} (h : (ofN n).length ≤ 128) : (decB n).length ≤ 5000 := by
  obtain ⟨k, hk⟩ : ∃ k, k = 128 := ⟨_, rfl⟩
  rw [← hk] at h
  have h1 := ofN_len_lt h
  rw [wN_pow2] at h1
  have := dec_short2 _ _ h1
  unfold decB
  split
  · simp
  · omega
theorem fmtR_128 {n : Nat} (h : (ofN n).length ≤ 128) : fmtR (ofN n) = (0, decB n) := by
  unfold fmtR
  rw [chkN_ofN h, if_pos rfl, valN_ofN]
theorem getD_zero {l : List Nat} (h : 0 < l.length) : l.getD 0 0 = l[0] := by simp [List.getD_eq_getElem?_getD, h]
theorem ofN_1' : ofN 1 = [1] := by rw [ofN_pos (by decide), show 1 / 4294967296 = 0 from rfl, ofN_zero]
theorem den_one {d : Nat} (hl : (ofN d).length = 1) : d = (ofN d).getD 0 0 := by
  have := valN_ofN d
  generalize ofN d = l at *
  match l, hl with
  | [a], _ => simp [valN] at this; simp [this]
section
variable {M : Mem} {K : AV → Hp → Mem → Prop} {u1 u2 v1 v2 : Value} {l1 l2 k1 k2 : List Nat}
theorem sameFrac_ok (h1 : IsL M u32V u1 l1) (h2 : IsL M u32V u2 l2) (k1 : IsL M u32V v1 l1) (k2 : IsL M u32V v2 l2) (b1 : l1.length < 1000000000) (b2 : l2.length < 1000000000) (hK : K (.ext (.bool true)) [] M) : CallS Tryd.prog 32 [.ext (.agg #[u1, u2]), .ext (.agg #[v1, v2])] [] M [] K := by
  refine inlS (cs := []) Tryd.mixed Tryd.func32 rfl (by kernel_rfl) 0 rfl rfl ?_
  simp only [Tryd.f32]
  (replace hb0 := true_and True); refine Go1.mk ?_; repeat' ((first | (with_reducible refine Go1.go ?_) | ((with_reducible first | refine brv_mk ?_ ?_ | refine gsplitD ?_ ?_ | refine gsplitG ?_ ?_) <;> intro h <;> (try simp only [Bool.not_eq_true', Bool.not_eq_false'] at h) <;> replace hb0 := h) | ((first | (with_reducible refine isCall (f := 42) ?_; refine callA_nil (by kernel_rfl) ?_) | (with_reducible refine isCall0 (f := 42) ?_; refine callA0_nil (by kernel_rfl) ?_)); refine (sameNat_ok u1 v1 l1 h1 k1 b1 ?_)) | ((first | (with_reducible refine isCall (f := 42) ?_; refine callA_nil (by kernel_rfl) ?_) | (with_reducible refine isCall0 (f := 42) ?_; refine callA0_nil (by kernel_rfl) ?_)); refine (sameNat_ok u2 v2 l2 h2 k2 b2 ?_)) | (refine And.intro ?ob ?_; case ob => ((try simp only [sxO, ne_eq, maxLen] at *); omega)) | fail) <;> (try simp (config := { maxSteps := 1000000 }) only [hb0, h1.one, h2.one, k1.one, k2.one, ↓hold_pre, awayP, runOps, regK, step1, newK, genR, appR, obl, buildR, Value.cells, closeK, keepH, outV, retK, ret1, retC, RetV, Option.getD, runD, stepD, afterK, undef, simprocAttr, sxB, ↓sxD, sxE, sxTab]))
  exact hK
theorem same02_ok (e : Int) (h1 : IsL M u32V u1 l1) (h2 : IsL M u32V u2 l2) (k1 : IsL M u32V v1 l1) (k2 : IsL M u32V v2 l2) (b1 : l1.length < 1000000000) (b2 : l2.length < 1000000000) (hK : K (.ext (.bool true)) [] M) : CallS Tryd.prog 15 [.ext (.agg #[u1, u2]), .ext (.int .i64 e), .ext (.agg #[v1, v2]), .ext (.int .i64 e)] [] M [] K := by
  refine inlS (cs := []) Tryd.mixed Tryd.func15 rfl (by kernel_rfl) 0 rfl rfl ?_
  simp only [Tryd.f15]
  have d1 : decide (e = e) = true := by simp
  (replace hb0 := true_and True); refine Go1.mk ?_; repeat' ((first | (with_reducible refine Go1.go ?_) | ((with_reducible first | refine brv_mk ?_ ?_ | refine gsplitD ?_ ?_ | refine gsplitG ?_ ?_) <;> intro h <;> (try simp only [Bool.not_eq_true', Bool.not_eq_false'] at h) <;> replace hb0 := h) | ((first | (with_reducible refine isCall (f := 32) ?_; refine callA_nil (by kernel_rfl) ?_) | (with_reducible refine isCall0 (f := 32) ?_; refine callA0_nil (by kernel_rfl) ?_)); refine (sameFrac_ok h1 h2 k1 k2 b1 b2 ?_)) | (refine And.intro ?ob ?_; case ob => ((try simp only [sxO, ne_eq, maxLen] at *); omega)) | fail) <;> (try simp (config := { maxSteps := 1000000 }) only [hb0, h1.one, h2.one, k1.one, k2.one, d1, ↓hold_pre, awayP, runOps, regK, step1, newK, genR, appR, obl, buildR, Value.cells, closeK, keepH, outV, retK, ret1, retC, RetV, Option.getD, runD, stepD, afterK, undef, simprocAttr, sxB, ↓sxD, sxE, sxTab]))
  exact hK
theorem cut8_ok (u : Value) (l : List Nat) (hu : IsL M u32V u l) (hK : ∀ w, IsL M u32V w (l.take 8) → K (.ext w) [] M) : CallS Tryd.prog 11 [.ext u] [] M [] K := by
  refine inlS (cs := []) Tryd.mixed Tryd.func11 rfl (by kernel_rfl) 0 rfl rfl ?_
  simp only [Tryd.f11]
  by_cases h : 8 < l.length
  · have d1 : decide ((8 : Int) < (l.length : Int)) = true := by simp; omega
    have hs := hu.sub (Nat.zero_le 8) (by omega)
    have hcap := hu.cap
    have d2 : (8 : Int) ≤ (scap u : Int) := by omega
    (replace hb0 := true_and True); refine Go1.mk ?_; repeat' ((first | (with_reducible refine Go1.go ?_) | ((with_reducible first | refine brv_mk ?_ ?_ | refine gsplitD ?_ ?_ | refine gsplitG ?_ ?_) <;> intro h <;> (try simp only [Bool.not_eq_true', Bool.not_eq_false'] at h) <;> replace hb0 := h) | (refine And.intro ?ob ?_; case ob => ((try simp only [sxO, ne_eq, maxLen] at *); omega)) | fail) <;> (try simp (config := { maxSteps := 1000000 }) only [hb0, hu.one, hu.len, hu.sl, d1, d2, hs.one, ↓hold_pre, awayP, runOps, regK, step1, newK, genR, appR, obl, buildR, Value.cells, closeK, keepH, outV, retK, ret1, retC, RetV, Option.getD, runD, stepD, afterK, undef, simprocAttr, sxB, ↓sxD, sxE, sxTab]))
    exact hK _ hs
  · have d1 : decide ((8 : Int) < (l.length : Int)) = false := by simp; omega
    (replace hb0 := true_and True); refine Go1.mk ?_; repeat' ((first | (with_reducible refine Go1.go ?_) | ((with_reducible first | refine brv_mk ?_ ?_ | refine gsplitD ?_ ?_ | refine gsplitG ?_ ?_) <;> intro h <;> (try simp only [Bool.not_eq_true', Bool.not_eq_false'] at h) <;> replace hb0 := h) | (refine And.intro ?ob ?_; case ob => ((try simp only [sxO, ne_eq, maxLen] at *); omega)) | fail) <;> (try simp (config := { maxSteps := 1000000 }) only [hb0, hu.one, hu.len, hu.sl, d1, ↓hold_pre, awayP, runOps, regK, step1, newK, genR, appR, obl, buildR, Value.cells, closeK, keepH, outV, retK, ret1, retC, RetV, Option.getD, runD, stepD, afterK, undef, simprocAttr, sxB, ↓sxD, sxE, sxTab]))
    refine hK _ ?_
    rw [List.take_of_length_le (by omega)]; exact hu
theorem ffmt_ok (ha : IsF M u1 u2 l1 l2) (hK : ∀ M', Mem.le M M' → K (.ext (.tuple #[.string (bs (fmtF l1 l2).2), .int .i64 (fmtF l1 l2).1])) [] M') : CallS Tryd.prog 45 [.ext (.agg #[u1, u2])] [] M [] K := by
  refine inlS (cs := []) Tryd.mixed Tryd.func45 rfl (by kernel_rfl) 0 rfl rfl ?_
  simp only [Tryd.f45]
  unfold fmtF at hK
  (replace hb0 := true_and True); refine Go1.mk ?_; repeat' ((first | (with_reducible refine Go1.go ?_) | ((with_reducible first | refine brv_mk ?_ ?_ | refine gsplitD ?_ ?_ | refine gsplitG ?_ ?_) <;> intro h <;> (try simp only [Bool.not_eq_true', Bool.not_eq_false'] at h) <;> replace hb0 := h) | ((first | (with_reducible refine isCall (f := 16) ?_; refine callA_nil (by kernel_rfl) ?_) | (with_reducible refine isCall0 (f := 16) ?_; refine callA0_nil (by kernel_rfl) ?_)); refine (fcheck_ok ha.n ha.d ha.on ha.od ha.bn ha.bd (fun M1 m1 => Stop.mk ?_))) | (refine And.intro ?ob ?_; case ob => ((try simp only [sxO, ne_eq, maxLen] at *); omega)) | fail) <;> (try simp (config := { maxSteps := 1000000 }) only [hb0, ha.n.one, ha.d.one, bs_mk, bs_app, bs_ext, bs_size, bs_toList, bs_at, bs_cells, List.take_length, imp_ga, guard_pk, guard_pk2, ↓hold_pre, awayP, runOps, regK, step1, newK, genR, appR, obl, buildR, Value.cells, closeK, keepH, outV, retK, ret1, retC, RetV, Option.getD, runD, stepD, afterK, undef, simprocAttr, sxB, ↓sxD, sxE, sxTab]))
  have m1 : Mem.le M M1 := m1
  have ha1 := ha.le m1
  refine Stop.go ?_
  cases hc : chkF l1 l2 with
  | false =>
    rw [hc] at hK
    (replace hb0 := true_and True); refine Go1.mk ?_; repeat' ((first | (with_reducible refine Go1.go ?_) | ((with_reducible first | refine brv_mk ?_ ?_ | refine gsplitD ?_ ?_ | refine gsplitG ?_ ?_) <;> intro h <;> (try simp only [Bool.not_eq_true', Bool.not_eq_false'] at h) <;> replace hb0 := h) | (refine And.intro ?ob ?_; case ob => ((try simp only [sxO, ne_eq, maxLen] at *); omega)) | fail) <;> (try simp (config := { maxSteps := 1000000 }) only [hb0, ha1.n.one, ha1.d.one, bs_mk, bs_app, bs_ext, bs_size, bs_toList, bs_at, bs_cells, List.take_length, imp_ga, guard_pk, guard_pk2, ↓hold_pre, awayP, runOps, regK, step1, newK, genR, appR, obl, buildR, Value.cells, closeK, keepH, outV, retK, ret1, retC, RetV, Option.getD, runD, stepD, afterK, undef, simprocAttr, sxB, ↓sxD, sxE, sxTab]))
    exact hK _ m1
  | true =>
  rw [hc, if_pos rfl] at hK
  obtain ⟨n, d, hn, hd, e1, e2, q1, q2, q3⟩ := ha1.num hc
  rw [e1, e2] at hK
  (replace hb0 := true_and True); refine Go1.mk ?_; repeat' ((first | (with_reducible refine Go1.go ?_) | ((with_reducible first | refine brv_mk ?_ ?_ | refine gsplitD ?_ ?_ | refine gsplitG ?_ ?_) <;> intro h <;> (try simp only [Bool.not_eq_true', Bool.not_eq_false'] at h) <;> replace hb0 := h) | ((first | (with_reducible refine isCall (f := 79) ?_; refine callA_nil (by kernel_rfl) ?_) | (with_reducible refine isCall0 (f := 79) ?_; refine callA0_nil (by kernel_rfl) ?_)); refine (fmt_ok u1 _ hn (okN_ofN n) (by omega) (fun M2 m2 => Stop.mk ?_))) | (refine And.intro ?ob ?_; case ob => ((try simp only [sxO, ne_eq, maxLen] at *); omega)) | fail) <;> (try simp (config := { maxSteps := 1000000 }) only [hb0, hn.one, hd.one, bs_mk, bs_app, bs_ext, bs_size, bs_toList, bs_at, bs_cells, List.take_length, imp_ga, guard_pk, guard_pk2, ↓hold_pre, awayP, runOps, regK, step1, newK, genR, appR, obl, buildR, Value.cells, closeK, keepH, outV, retK, ret1, retC, RetV, Option.getD, runD, stepD, afterK, undef, simprocAttr, sxB, ↓sxD, sxE, sxTab]))
  have m2 : Mem.le M1 M2 := m2
  have hn := hn.le m2
  have hd := hd.le m2
  rw [fmtR_128 q1]
  have hL1 := decB_128 q1
  have hL2 := decB_128 q2
  refine Stop.go ?_
  by_cases hl : (ofN d).length = 1
  · have z1 : decide (((ofN d).length : Int) = 1) = true := by rw [decide_eq_true_eq]; omega
    have hyi := hd.idx (P := Tryd.prog) (T := 70) tk70 tz70 (by omega) (show 0 < (ofN d).length by omega)
    have hat : (ofN d)[0] = d := by
      rw [← getD_zero (show 0 < (ofN d).length by omega)]; exact (den_one hl).symm
    rw [hat] at hyi
    by_cases hd1 : d = 1
    · have z2 : decide ((d : Int) = 1) = true := by rw [hd1]; decide
      rw [if_pos hd1] at hK
      (replace hb0 := true_and True); refine Go1.mk ?_; repeat' ((first | (with_reducible refine Go1.go ?_) | ((with_reducible first | refine brv_mk ?_ ?_ | refine gsplitD ?_ ?_ | refine gsplitG ?_ ?_) <;> intro h <;> (try simp only [Bool.not_eq_true', Bool.not_eq_false'] at h) <;> replace hb0 := h) | (refine And.intro ?ob ?_; case ob => ((try simp only [sxO, ne_eq, maxLen] at *); omega)) | fail) <;> (try simp (config := { maxSteps := 1000000 }) only [hb0, u32V, hn.one, hd.one, hd.len, hd.sl, z1, z2, hyi, Int.natCast_zero, Int.cast_ofNat_Int, bs_mk, bs_app, bs_ext, bs_size, bs_toList, bs_at, bs_cells, List.take_length, imp_ga, guard_pk, guard_pk2, ↓hold_pre, awayP, runOps, regK, step1, newK, genR, appR, obl, buildR, Value.cells, closeK, keepH, outV, retK, ret1, retC, RetV, Option.getD, runD, stepD, afterK, undef, simprocAttr, sxB, ↓sxD, sxE, sxTab]))
      exact hK _ (m1.trans m2)
    · have z2 : decide ((d : Int) = 1) = false := by rw [decide_eq_false_iff_not]; omega
      rw [if_neg hd1] at hK
      (replace hb0 := true_and True); refine Go1.mk ?_; repeat' ((first | (with_reducible refine Go1.go ?_) | ((with_reducible first | refine brv_mk ?_ ?_ | refine gsplitD ?_ ?_ | refine gsplitG ?_ ?_) <;> intro h <;> (try simp only [Bool.not_eq_true', Bool.not_eq_false'] at h) <;> replace hb0 := h) | ((first | (with_reducible refine isCall (f := 79) ?_; refine callA_nil (by kernel_rfl) ?_) | (with_reducible refine isCall0 (f := 79) ?_; refine callA0_nil (by kernel_rfl) ?_)); refine (fmt_ok u2 _ hd (okN_ofN d) (by omega) (fun M3 m3 => Stop.mk ?_))) | (refine And.intro ?ob ?_; case ob => ((try simp only [sxO, ne_eq, maxLen] at *); omega)) | fail) <;> (try simp (config := { maxSteps := 1000000 }) only [hb0, u32V, hn.one, hd.one, hd.len, hd.sl, z1, z2, hyi, Int.natCast_zero, Int.cast_ofNat_Int, bs_mk, bs_app, bs_ext, bs_size, bs_toList, bs_at, bs_cells, List.take_length, imp_ga, guard_pk, guard_pk2, ↓hold_pre, awayP, runOps, regK, step1, newK, genR, appR, obl, buildR, Value.cells, closeK, keepH, outV, retK, ret1, retC, RetV, Option.getD, runD, stepD, afterK, undef, simprocAttr, sxB, ↓sxD, sxE, sxTab]))
      rw [fmtR_128 q2]
      refine Stop.go ?_
      (replace hb0 := true_and True); refine Go1.mk ?_; repeat' ((first | (with_reducible refine Go1.go ?_) | ((with_reducible first | refine brv_mk ?_ ?_ | refine gsplitD ?_ ?_ | refine gsplitG ?_ ?_) <;> intro h <;> (try simp only [Bool.not_eq_true', Bool.not_eq_false'] at h) <;> replace hb0 := h) | (refine And.intro ?ob ?_; case ob => ((try simp only [sxO, ne_eq, maxLen] at *); omega)) | fail) <;> (try simp (config := { maxSteps := 1000000 }) only [hb0, List.length_append, List.append_assoc, bs_mk, bs_app, bs_ext, bs_size, bs_toList, bs_at, bs_cells, List.take_length, imp_ga, guard_pk, guard_pk2, ↓hold_pre, awayP, runOps, regK, step1, newK, genR, appR, obl, buildR, Value.cells, closeK, keepH, outV, retK, ret1, retC, RetV, Option.getD, runD, stepD, afterK, undef, simprocAttr, sxB, ↓sxD, sxE, sxTab]))
      exact hK _ ((m1.trans m2).trans m3)
  · have z1 : decide (((ofN d).length : Int) = 1) = false := by rw [decide_eq_false_iff_not]; omega
    rw [if_neg (fun h => hl (by rw [h, ofN_1']; rfl))] at hK
    (replace hb0 := true_and True); refine Go1.mk ?_; repeat' ((first | (with_reducible refine Go1.go ?_) | ((with_reducible first | refine brv_mk ?_ ?_ | refine gsplitD ?_ ?_ | refine gsplitG ?_ ?_) <;> intro h <;> (try simp only [Bool.not_eq_true', Bool.not_eq_false'] at h) <;> replace hb0 := h) | ((first | (with_reducible refine isCall (f := 79) ?_; refine callA_nil (by kernel_rfl) ?_) | (with_reducible refine isCall0 (f := 79) ?_; refine callA0_nil (by kernel_rfl) ?_)); refine (fmt_ok u2 _ hd (okN_ofN d) (by omega) (fun M3 m3 => Stop.mk ?_))) | (refine And.intro ?ob ?_; case ob => ((try simp only [sxO, ne_eq, maxLen] at *); omega)) | fail) <;> (try simp (config := { maxSteps := 1000000 }) only [hb0, hn.one, hd.one, hd.len, hd.sl, z1, bs_mk, bs_app, bs_ext, bs_size, bs_toList, bs_at, bs_cells, List.take_length, imp_ga, guard_pk, guard_pk2, ↓hold_pre, awayP, runOps, regK, step1, newK, genR, appR, obl, buildR, Value.cells, closeK, keepH, outV, retK, ret1, retC, RetV, Option.getD, runD, stepD, afterK, undef, simprocAttr, sxB, ↓sxD, sxE, sxTab]))
    rw [fmtR_128 q2]
    refine Stop.go ?_
    (replace hb0 := true_and True); refine Go1.mk ?_; repeat' ((first | (with_reducible refine Go1.go ?_) | ((with_reducible first | refine brv_mk ?_ ?_ | refine gsplitD ?_ ?_ | refine gsplitG ?_ ?_) <;> intro h <;> (try simp only [Bool.not_eq_true', Bool.not_eq_false'] at h) <;> replace hb0 := h) | (refine And.intro ?ob ?_; case ob => ((try simp only [sxO, ne_eq, maxLen] at *); omega)) | fail) <;> (try simp (config := { maxSteps := 1000000 }) only [hb0, List.length_append, List.append_assoc, bs_mk, bs_app, bs_ext, bs_size, bs_toList, bs_at, bs_cells, List.take_length, imp_ga, guard_pk, guard_pk2, ↓hold_pre, awayP, runOps, regK, step1, newK, genR, appR, obl, buildR, Value.cells, closeK, keepH, outV, retK, ret1, retC, RetV, Option.getD, runD, stepD, afterK, undef, simprocAttr, sxB, ↓sxD, sxE, sxTab]))
    exact hK _ ((m1.trans m2).trans m3)
theorem awake02_ok (hK : ∀ M', Mem.le M M' → K (.ext (.bool true)) [] M') : CallS Tryd.prog 18 [] [] M [] K := by
  refine inlS (cs := []) Tryd.mixed Tryd.func18 rfl (by kernel_rfl) 0 rfl rfl ?_
  simp only [Tryd.f18]
  have e1 : ofF 1 6 = (0, 1, 6) := by decide +kernel
  have e2 : ofF 1 3 = (0, 1, 3) := by decide +kernel
  have e3 : addF (ofN 1) (ofN 6) (ofN 1) (ofN 3) = (0, 1, 2) := by decide +kernel
  have e4 : fmtF (ofN 1) (ofN 2) = (0, [49, 47, 50]) := by decide +kernel
  have hs : ([49, 47, 50] == ([49, 47, 50] : List UInt8)) = true := by decide
  have sm : ∀ n, n < 10 → (ofN n).length ≤ 1 := fun n hn => ofN_len_le (by rw [show wN 1 = 4294967296 from rfl]; omega)
  have s1 := sm 1 (by decide)
  have s2 := sm 2 (by decide)
  have s3 := sm 3 (by decide)
  have s6 := sm 6 (by decide)
  (replace hb0 := true_and True); refine Go1.mk ?_; repeat' ((first | (with_reducible refine Go1.go ?_) | ((with_reducible first | refine brv_mk ?_ ?_ | refine gsplitD ?_ ?_ | refine gsplitG ?_ ?_) <;> intro h <;> (try simp only [Bool.not_eq_true', Bool.not_eq_false'] at h) <;> replace hb0 := h) | ((first | (with_reducible refine isCall (f := 13) ?_; refine callA_nil (by kernel_rfl) ?_) | (with_reducible refine isCall0 (f := 13) ?_; refine callA0_nil (by kernel_rfl) ?_)); refine (fof_ok 1 6 (by decide) (by decide) (by decide) (by decide) (fun w1 w2 M1 a1 a2 a3 a4 a5 => Stop.mk ?_))) | (refine And.intro ?ob ?_; case ob => ((try simp only [sxO, ne_eq, maxLen] at *); omega)) | fail) <;> (try simp (config := { maxSteps := 1000000 }) only [hb0, ↓hold_pre, awayP, runOps, regK, step1, newK, genR, appR, obl, buildR, Value.cells, closeK, keepH, outV, retK, ret1, retC, RetV, Option.getD, runD, stepD, afterK, undef, simprocAttr, sxB, ↓sxD, sxE, sxTab]))
  have a1 : Mem.le M M1 := a1
  rw [e1] at a2 a3 ⊢
  have a2 : IsL M1 u32V w1 (ofN 1) := a2
  have a3 : IsL M1 u32V w2 (ofN 6) := a3
  refine Stop.go ?_
  (replace hb0 := true_and True); refine Go1.mk ?_; repeat' ((first | (with_reducible refine Go1.go ?_) | ((with_reducible first | refine brv_mk ?_ ?_ | refine gsplitD ?_ ?_ | refine gsplitG ?_ ?_) <;> intro h <;> (try simp only [Bool.not_eq_true', Bool.not_eq_false'] at h) <;> replace hb0 := h) | ((first | (with_reducible refine isCall (f := 13) ?_; refine callA_nil (by kernel_rfl) ?_) | (with_reducible refine isCall0 (f := 13) ?_; refine callA0_nil (by kernel_rfl) ?_)); refine (fof_ok 1 3 (by decide) (by decide) (by decide) (by decide) (fun w3 w4 M2 b1 b2 b3 b4 b5 => Stop.mk ?_))) | (refine And.intro ?ob ?_; case ob => ((try simp only [sxO, ne_eq, maxLen] at *); omega)) | fail) <;> (try simp (config := { maxSteps := 1000000 }) only [hb0, a2.one, a3.one, ↓hold_pre, awayP, runOps, regK, step1, newK, genR, appR, obl, buildR, Value.cells, closeK, keepH, outV, retK, ret1, retC, RetV, Option.getD, runD, stepD, afterK, undef, simprocAttr, sxB, ↓sxD, sxE, sxTab]))
  have b1 : Mem.le M1 M2 := b1
  rw [e2] at b2 b3 ⊢
  have b2 : IsL M2 u32V w3 (ofN 1) := b2
  have b3 : IsL M2 u32V w4 (ofN 3) := b3
  have a2 := a2.le b1
  have a3 := a3.le b1
  refine Stop.go ?_
  (replace hb0 := true_and True); refine Go1.mk ?_; repeat' ((first | (with_reducible refine Go1.go ?_) | ((with_reducible first | refine brv_mk ?_ ?_ | refine gsplitD ?_ ?_ | refine gsplitG ?_ ?_) <;> intro h <;> (try simp only [Bool.not_eq_true', Bool.not_eq_false'] at h) <;> replace hb0 := h) | ((first | (with_reducible refine isCall (f := 22) ?_; refine callA_nil (by kernel_rfl) ?_) | (with_reducible refine isCall0 (f := 22) ?_; refine callA0_nil (by kernel_rfl) ?_)); refine (fadd_ok ⟨a2, a3, okN_ofN _, okN_ofN _, by omega, by omega⟩ ⟨b2, b3, okN_ofN _, okN_ofN _, by omega, by omega⟩ (fun w5 w6 M3 c1 c2 c3 c4 c5 => Stop.mk ?_))) | (refine And.intro ?ob ?_; case ob => ((try simp only [sxO, ne_eq, maxLen] at *); omega)) | fail) <;> (try simp (config := { maxSteps := 1000000 }) only [hb0, a2.one, a3.one, b2.one, b3.one, ↓hold_pre, awayP, runOps, regK, step1, newK, genR, appR, obl, buildR, Value.cells, closeK, keepH, outV, retK, ret1, retC, RetV, Option.getD, runD, stepD, afterK, undef, simprocAttr, sxB, ↓sxD, sxE, sxTab]))
  have c1 : Mem.le M2 M3 := c1
  rw [e3] at c2 c3 ⊢
  have c2 : IsL M3 u32V w5 (ofN 1) := c2
  have c3 : IsL M3 u32V w6 (ofN 2) := c3
  refine Stop.go ?_
  (replace hb0 := true_and True); refine Go1.mk ?_; repeat' ((first | (with_reducible refine Go1.go ?_) | ((with_reducible first | refine brv_mk ?_ ?_ | refine gsplitD ?_ ?_ | refine gsplitG ?_ ?_) <;> intro h <;> (try simp only [Bool.not_eq_true', Bool.not_eq_false'] at h) <;> replace hb0 := h) | ((first | (with_reducible refine isCall (f := 45) ?_; refine callA_nil (by kernel_rfl) ?_) | (with_reducible refine isCall0 (f := 45) ?_; refine callA0_nil (by kernel_rfl) ?_)); refine (ffmt_ok ⟨c2, c3, okN_ofN _, okN_ofN _, by omega, by omega⟩ (fun M4 d1 => Stop.mk ?_))) | (refine And.intro ?ob ?_; case ob => ((try simp only [sxO, ne_eq, maxLen] at *); omega)) | fail) <;> (try simp (config := { maxSteps := 1000000 }) only [hb0, c2.one, c3.one, bs_mk, bs_app, bs_ext, bs_size, bs_toList, bs_at, bs_cells, List.take_length, imp_ga, guard_pk, guard_pk2, ↓hold_pre, awayP, runOps, regK, step1, newK, genR, appR, obl, buildR, Value.cells, closeK, keepH, outV, retK, ret1, retC, RetV, Option.getD, runD, stepD, afterK, undef, simprocAttr, sxB, ↓sxD, sxE, sxTab]))
  rw [e4]
  refine Stop.go ?_
  (replace hb0 := true_and True); refine Go1.mk ?_; repeat' ((first | (with_reducible refine Go1.go ?_) | ((with_reducible first | refine brv_mk ?_ ?_ | refine gsplitD ?_ ?_ | refine gsplitG ?_ ?_) <;> intro h <;> (try simp only [Bool.not_eq_true', Bool.not_eq_false'] at h) <;> replace hb0 := h) | (refine And.intro ?ob ?_; case ob => ((try simp only [sxO, ne_eq, maxLen] at *); omega)) | fail) <;> (try simp (config := { maxSteps := 1000000 }) only [hb0, hs, bs_mk, bs_app, bs_ext, bs_size, bs_toList, bs_at, bs_cells, List.take_length, imp_ga, guard_pk, guard_pk2, ↓hold_pre, awayP, runOps, regK, step1, newK, genR, appR, obl, buildR, Value.cells, closeK, keepH, outV, retK, ret1, retC, RetV, Option.getD, runD, stepD, afterK, undef, simprocAttr, sxB, ↓sxD, sxE, sxTab]))
  exact hK _ (((a1.trans b1).trans c1).trans d1)
end
end Go.Proofs.YtamghpnjdohnjaaDoor.Sx
namespace Go.Proofs.YtamghpnjdohnjaaDoor.Sx
open Go Go.RowKit
set_option linter.unusedVariables false
set_option linter.unusedSimpArgs false
set_option maxRecDepth 100000
set_option maxHeartbeats 8000000
attribute [local congr] fin_congr finG_congr stepG_congr step1_congr runOps_congr brv_congr obl_congr condK_congr LoopK_congr seqK_congr CutK_congr vc_congr DrawK_congr regK_congr CallK_congr AskK_congr newK_congr retC_congr ret1_congr retK_congr outV_congr closeK_congr genR_congr appR_congr finD_congr finGD_congr stepGD_congr stepD_congr CallK0_congr runD_congr okR_congr CallS_congr vcX_congr
attribute [local congr] Stop_congr
section
variable {M : Mem} {K : AV → Hp → Mem → Prop} {u1 u2 : Value} {l1 l2 : List Nat}
def t2St (M : Mem) (w : Value) : St := { env := [(0, .ext w)], hp := [], M := M, kb := 0, fx := [] }
theorem trim02_ok (u : Value) (l : List Nat) (hu : IsL M u32V u l) (ho : okN l) (hK : ∀ w n, IsL M u32V w (ofN n) → (ofN n).length ≤ 8 → K (.ext w) [] M) : CallS Tryd.prog 59 [.ext u] [] M [] K := by
  refine inlS (cs := []) Tryd.mixed Tryd.func59 rfl (by kernel_rfl) 0 rfl rfl ?_
  simp only [Tryd.f59]
  (replace hb0 := true_and True); refine Go1.mk ?_; repeat' ((first | (with_reducible refine Go1.go ?_) | ((with_reducible first | refine brv_mk ?_ ?_ | refine gsplitD ?_ ?_ | refine gsplitG ?_ ?_) <;> intro h <;> (try simp only [Bool.not_eq_true', Bool.not_eq_false'] at h) <;> replace hb0 := h) | ((first | (with_reducible refine isCall (f := 11) ?_; refine callA_nil (by kernel_rfl) ?_) | (with_reducible refine isCall0 (f := 11) ?_; refine callA0_nil (by kernel_rfl) ?_)); refine (cut8_ok u l hu (fun u hu => Stop.mk ?_))) | (refine And.intro ?ob ?_; case ob => ((try simp only [sxO, ne_eq, maxLen] at *); omega)) | fail) <;> (try simp (config := { maxSteps := 1000000 }) only [hb0, hu.one, ↓hold_pre, awayP, runOps, regK, step1, newK, genR, appR, obl, buildR, Value.cells, closeK, keepH, outV, retK, ret1, retC, RetV, Option.getD, runD, stepD, afterK, undef, simprocAttr, sxB, ↓sxD, sxE, sxTab]))
  have ho := okN_take ho 8
  have hl : (l.take 8).length ≤ 8 := by rw [List.length_take]; omega
  generalize l.take 8 = l at *
  refine Stop.go ?_
  (replace hb0 := true_and True); refine Go1.mk ?_; repeat' ((first | (with_reducible refine Go1.go ?_) | ((with_reducible first | refine brv_mk ?_ ?_ | refine gsplitD ?_ ?_ | refine gsplitG ?_ ?_) <;> intro h <;> (try simp only [Bool.not_eq_true', Bool.not_eq_false'] at h) <;> replace hb0 := h) | (refine And.intro ?ob ?_; case ob => ((try simp only [sxO, ne_eq, maxLen] at *); omega)) | fail) <;> (try simp (config := { maxSteps := 1000000 }) only [hb0, hu.one, ↓hold_pre, awayP, runOps, regK, step1, newK, genR, appR, obl, buildR, Value.cells, closeK, keepH, outV, retK, ret1, retC, RetV, Option.getD, runD, stepD, afterK, undef, simprocAttr, sxB, ↓sxD, sxE, sxTab]))
  refine ⟨fun d z => ∃ j w, j = d ∧ j ≤ l.length ∧ (∀ i (h : i < l.length), j ≤ i → l[i] = 0) ∧ IsL M u32V w (l.take j) ∧ z = t2St M w, ⟨l.length, t2St M u, le_sub ⟨rfl, trivial⟩ trivial rfl rfl rfl (keepLt0 _), ⟨_, u, rfl, Nat.le_refl _, fun i h hi => by omega, by rw [List.take_length]; exact hu, rfl⟩⟩, ?_⟩
  clear hu
  rintro d z ⟨j, w, rfl, hj, hz, hw, rfl⟩
  have key : (∀ h : 0 < j, l[j - 1] ≠ 0) → K (.ext w) [] M := fun h => by
    have e := take_canon ho hj hz h
    rw [e] at hw
    exact hK w (valN l) hw (by rw [← e, List.length_take]; omega)
  have hlw : (l.take j).length = j := by rw [List.length_take]; omega
  have hwl := hw.len
  rw [hlw] at hwl
  by_cases hlt : 0 < j
  case neg =>
    obtain rfl : j = 0 := by omega
    have d1 : decide ((0 : Int) < ((0 : Nat) : Int)) = false := by decide
    (replace hb0 := true_and True); refine Go1.mk ?_; repeat' ((first | (with_reducible refine Go1.go ?_) | ((with_reducible first | refine brv_mk ?_ ?_ | refine gsplitD ?_ ?_ | refine gsplitG ?_ ?_) <;> intro h <;> (try simp only [Bool.not_eq_true', Bool.not_eq_false'] at h) <;> replace hb0 := h) | (refine And.intro ?ob ?_; case ob => ((try simp only [sxO, ne_eq, maxLen] at *); omega)) | fail) <;> (try simp (config := { maxSteps := 1000000 }) only [hb0, t2St, hw.one, hw.sl, hwl, d1, ↓hold_pre, awayP, runOps, regK, step1, newK, genR, appR, obl, buildR, Value.cells, closeK, keepH, outV, retK, ret1, retC, RetV, Option.getD, runD, stepD, afterK, undef, simprocAttr, sxB, ↓sxD, sxE, sxTab]))
    exact key (fun h => by omega)
  have d1 : decide ((0 : Int) < (j : Int)) = true := by simp; omega
  have w1 := pred_i hlt (by omega)
  have hi : j - 1 < (l.take j).length := by omega
  have hxi := hw.idx (P := Tryd.prog) (T := 70) tk70 tz70 (by omega) hi
  rw [hlw, List.getElem_take] at hxi
  by_cases h0 : l[j - 1] = 0
  · have d4 : decide ((l[j - 1] : Int) = 0) = true := by simp; omega
    have hs := hw.sub (Nat.zero_le (j - 1)) (by omega)
    rw [List.drop_zero, Nat.sub_zero, List.take_take, Nat.min_eq_left (by omega)] at hs
    have hcap := hw.cap
    have d5 : ((j - 1 : Nat) : Int) ≤ (scap w : Int) := by omega
    have d6 : (0 : Int) ≤ ((j - 1 : Nat) : Int) := by omega
    (replace hb0 := true_and True); refine Go1.mk ?_; repeat' ((first | (with_reducible refine Go1.go ?_) | ((with_reducible first | refine brv_mk ?_ ?_ | refine gsplitD ?_ ?_ | refine gsplitG ?_ ?_) <;> intro h <;> (try simp only [Bool.not_eq_true', Bool.not_eq_false'] at h) <;> replace hb0 := h) | (refine And.intro ?ob ?_; case ob => ((try simp only [sxO, ne_eq, maxLen] at *); omega)) | fail) <;> (try simp (config := { maxSteps := 1000000 }) only [hb0, t2St, u32V, hw.one, hw.sl, hwl, d1, w1, hxi, d4, d5, d6, hs.one, ↓hold_pre, awayP, runOps, regK, step1, newK, genR, appR, obl, buildR, Value.cells, closeK, keepH, outV, retK, ret1, retC, RetV, Option.getD, runD, stepD, afterK, undef, simprocAttr, sxB, ↓sxD, sxE, sxTab]))
    exact ⟨j - 1, t2St M _, by omega, le_sub ⟨rfl, trivial⟩ trivial rfl rfl rfl (keepLt0 _), j - 1, _, rfl, by omega, fun i h hi => by
      rcases Nat.lt_or_ge i j with h1 | h1
      · obtain rfl : i = j - 1 := by omega
        exact h0
      · exact hz i h h1, hs, rfl⟩
  · have d4 : decide ((l[j - 1] : Int) = 0) = false := by simp; omega
    (replace hb0 := true_and True); refine Go1.mk ?_; repeat' ((first | (with_reducible refine Go1.go ?_) | ((with_reducible first | refine brv_mk ?_ ?_ | refine gsplitD ?_ ?_ | refine gsplitG ?_ ?_) <;> intro h <;> (try simp only [Bool.not_eq_true', Bool.not_eq_false'] at h) <;> replace hb0 := h) | (refine And.intro ?ob ?_; case ob => ((try simp only [sxO, ne_eq, maxLen] at *); omega)) | fail) <;> (try simp (config := { maxSteps := 1000000 }) only [hb0, t2St, u32V, hw.one, hw.sl, hwl, d1, w1, hxi, d4, ↓hold_pre, awayP, runOps, regK, step1, newK, genR, appR, obl, buildR, Value.cells, closeK, keepH, outV, retK, ret1, retC, RetV, Option.getD, runD, stepD, afterK, undef, simprocAttr, sxB, ↓sxD, sxE, sxTab]))
    exact key (fun h => h0)
theorem rfmake_bor2 (k n : Nat) (T : TypeId) (L : List Nat) (hn : n = L.length) (h1 : IsL M u32V u1 l1) (o1 : okN l1) (o2 : okN L) (b1 : l1.length < 1000000) (b2 : L.length < 1000000) (hK : ∀ w1 w2 M', Mem.le M M' → IsL M' u32V w1 (ofN (makF l1 L).2.1) → IsL M' u32V w2 (ofN (makF l1 L).2.2) → FreshS M w1 → FreshS M w2 → K (.ext (.tuple #[.agg #[w1, w2], .int .i64 (makF l1 L).1])) [(k, T, cE u32V L)] M') :
    CallS Tryd.prog 12 [.ext u1, .slo k 0 n 1] [(k, T, cE u32V L)] M [] K := by
  refine CallS.bor ⟨⟨_, rfl⟩, trivial⟩ fun us M' hM hb' => ?_
  obtain ⟨v1, _, rfl, e1, v2, _, rfl, e2, rfl⟩ := hb'
  have e1 : v1 = u1 := e1
  subst e1
  have g1 := e2.isL (g := u32V) (L := L) (T := T) (by simp [lkH]) hn
  refine rfmake_ok (h1.le hM) g1 o1 o2 b1 b2 fun w1 w2 M2 a1 a2 a3 a4 a5 => ?_
  exact ⟨fun j hj => rfl, fun M3 h5 h6 _ => hK w1 w2 M3 h5 (a2.move a4 h6) (a3.move a5 h6) (a4.le hM) (a5.le hM)⟩
theorem chkF_low {n d : Nat} (h1 : (ofN n).length ≤ 128) (h2 : (ofN d).length ≤ 128) (h0 : 0 < d) : chkF (ofN (n / Nat.gcd n d)) (ofN (d / Nat.gcd n d)) = true := by
  have hg : 0 < Nat.gcd n d := Nat.gcd_pos_of_pos_right _ h0
  have a := len_mono (Nat.div_le_self n (Nat.gcd n d))
  have b := len_mono (Nat.div_le_self d (Nat.gcd n d))
  have c : d / Nat.gcd n d ≠ 0 := by
    have := Nat.div_pos (Nat.gcd_le_right n h0) hg
    omega
  have e : Nat.gcd (n / Nat.gcd n d) (d / Nat.gcd n d) = 1 := Nat.gcd_div_gcd_div_gcd_of_pos_right h0
  unfold chkF
  rw [chkN_ofN (by omega), chkN_ofN (by omega), valN_ofN, valN_ofN, decide_eq_false c, e]
  rfl
def GivK (M : Mem) (K : AV → Hp → Mem → Prop) (z : Int) : Prop := ∀ w1 w2 M' l1 l2, Mem.le M M' → IsF M' w1 w2 l1 l2 → l1.length ≤ 8 → l2.length ≤ 8 → (z.tmod 7 ≠ 3 → chkF l1 l2 = true) → K (.ext (.agg #[w1, w2])) [] M'
theorem GivK.made {z : Int} (hK : GivK M K z) {n d : Nat} {w1 w2 : Value} {M' : Mem} (hM : Mem.le M M') (h1 : (ofN n).length ≤ 8) (h2 : (ofN d).length ≤ 8) (h0 : 0 < d) (a1 : IsL M' u32V w1 (ofN (makF (ofN n) (ofN d)).2.1)) (a2 : IsL M' u32V w2 (ofN (makF (ofN n) (ofN d)).2.2)) : K (.ext (.agg #[w1, w2])) [] M' := by
  have e : makF (ofN n) (ofN d) = (0, n / Nat.gcd n d, d / Nat.gcd n d) := by
    unfold makF
    rw [chkN_ofN (by omega), chkN_ofN (by omega), Bool.and_self, if_pos rfl, valN_ofN, valN_ofN, if_neg (by omega), exF_is (by omega) (by omega)]
  rw [e] at a1 a2
  have a := len_mono (Nat.div_le_self n (Nat.gcd n d))
  have b := len_mono (Nat.div_le_self d (Nat.gcd n d))
  exact hK w1 w2 M' _ _ hM ⟨a1, a2, okN_ofN _, okN_ofN _, by simp only; omega, by simp only; omega⟩ (by simp only; omega) (by simp only; omega) (fun _ => chkF_low (by omega) (by omega) h0)
def gvSt (M : Mem) (u w : Value) : St := { env := [(7, .ext w), (6, .own 6 0), (0, .ext u)], hp := [(6, 25, [.ext (.slice none 0 0), .ext (.slice none 0 0)])], M := M, kb := 0, fx := [] }
def gwSt (M : Mem) (u : Value) : St := { env := [(7, .slo 23 0 1 1), (6, .own 6 0), (0, .ext u)], hp := [(23, 70, cE u32V [1]), (6, 25, [.ext (.slice none 0 0), .ext (.slice none 0 0)])], M := M, kb := 0, fx := [] }
theorem frac_ok (u v : Value) (x y : List Nat) (z : Int) (hu : IsL M u32V u x) (hv : IsL M u32V v y) (ox : okN x) (oy : okN y) (hK : GivK M K z) : CallS Tryd.prog 19 [.ext u, .ext v, .ext (.int .i64 z)] [] M [] K := by
  refine inlS (cs := [6]) Tryd.mixed Tryd.func19 rfl (by kernel_rfl) 0 rfl rfl ?_
  simp only [Tryd.f19]
  by_cases h3 : z.tmod 7 = 3
  · have d1 : decide (z.tmod 7 = 3) = true := by rw [decide_eq_true_eq]; exact h3
    (replace hb0 := true_and True); refine Go1.mk ?_; repeat' ((first | (with_reducible refine Go1.go ?_) | ((with_reducible first | refine brv_mk ?_ ?_ | refine gsplitD ?_ ?_ | refine gsplitG ?_ ?_) <;> intro h <;> (try simp only [Bool.not_eq_true', Bool.not_eq_false'] at h) <;> replace hb0 := h) | ((first | (with_reducible refine isCall (f := 11) ?_; refine callA_nil (by kernel_rfl) ?_) | (with_reducible refine isCall0 (f := 11) ?_; refine callA0_nil (by kernel_rfl) ?_)); refine (cut8_ok u x hu (fun a ha => Stop.mk ?_))) | (refine And.intro ?ob ?_; case ob => ((try simp only [sxO, ne_eq, maxLen] at *); omega)) | fail) <;> (try simp (config := { maxSteps := 1000000 }) only [hb0, hu.one, hv.one, d1, ↓hold_pre, awayP, runOps, regK, step1, newK, genR, appR, obl, buildR, Value.cells, closeK, keepH, outV, retK, ret1, retC, RetV, Option.getD, runD, stepD, afterK, undef, simprocAttr, sxB, ↓sxD, sxE, sxTab]))
    refine Stop.go ?_
    (replace hb0 := true_and True); refine Go1.mk ?_; repeat' ((first | (with_reducible refine Go1.go ?_) | ((with_reducible first | refine brv_mk ?_ ?_ | refine gsplitD ?_ ?_ | refine gsplitG ?_ ?_) <;> intro h <;> (try simp only [Bool.not_eq_true', Bool.not_eq_false'] at h) <;> replace hb0 := h) | ((first | (with_reducible refine isCall (f := 11) ?_; refine callA_nil (by kernel_rfl) ?_) | (with_reducible refine isCall0 (f := 11) ?_; refine callA0_nil (by kernel_rfl) ?_)); refine (cut8_ok v y hv (fun b hb => Stop.mk ?_))) | (refine And.intro ?ob ?_; case ob => ((try simp only [sxO, ne_eq, maxLen] at *); omega)) | fail) <;> (try simp (config := { maxSteps := 1000000 }) only [hb0, hu.one, hv.one, ha.one, d1, ↓hold_pre, awayP, runOps, regK, step1, newK, genR, appR, obl, buildR, Value.cells, closeK, keepH, outV, retK, ret1, retC, RetV, Option.getD, runD, stepD, afterK, undef, simprocAttr, sxB, ↓sxD, sxE, sxTab]))
    have e1 : (x.take 8).length ≤ 8 := by rw [List.length_take]; omega
    have e2 : (y.take 8).length ≤ 8 := by rw [List.length_take]; omega
    refine Stop.go ?_
    (replace hb0 := true_and True); refine Go1.mk ?_; repeat' ((first | (with_reducible refine Go1.go ?_) | ((with_reducible first | refine brv_mk ?_ ?_ | refine gsplitD ?_ ?_ | refine gsplitG ?_ ?_) <;> intro h <;> (try simp only [Bool.not_eq_true', Bool.not_eq_false'] at h) <;> replace hb0 := h) | (refine And.intro ?ob ?_; case ob => ((try simp only [sxO, ne_eq, maxLen] at *); omega)) | fail) <;> (try simp (config := { maxSteps := 1000000 }) only [hb0, hu.one, hv.one, ha.one, hb.one, d1, ↓hold_pre, awayP, runOps, regK, step1, newK, genR, appR, obl, buildR, Value.cells, closeK, keepH, outV, retK, ret1, retC, RetV, Option.getD, runD, stepD, afterK, undef, simprocAttr, sxB, ↓sxD, sxE, sxTab]))
    exact hK _ _ _ _ _ (Mem.le.refl _) ⟨ha, hb, okN_take ox 8, okN_take oy 8, by omega, by omega⟩ e1 e2 (fun h => absurd h3 h)
  have d1 : decide (z.tmod 7 = 3) = false := by rw [decide_eq_false_iff_not]; exact h3
  (replace hb0 := true_and True); refine Go1.mk ?_; repeat' ((first | (with_reducible refine Go1.go ?_) | ((with_reducible first | refine brv_mk ?_ ?_ | refine gsplitD ?_ ?_ | refine gsplitG ?_ ?_) <;> intro h <;> (try simp only [Bool.not_eq_true', Bool.not_eq_false'] at h) <;> replace hb0 := h) | ((first | (with_reducible refine isCall (f := 59) ?_; refine callA_nil (by kernel_rfl) ?_) | (with_reducible refine isCall0 (f := 59) ?_; refine callA0_nil (by kernel_rfl) ?_)); refine (trim02_ok v y hv oy (fun w d hw hwl => Stop.mk ?_))) | (refine And.intro ?ob ?_; case ob => ((try simp only [sxO, ne_eq, maxLen] at *); omega)) | fail) <;> (try simp (config := { maxSteps := 1000000 }) only [hb0, hu.one, hv.one, d1, ↓hold_pre, awayP, runOps, regK, step1, newK, genR, appR, obl, buildR, Value.cells, closeK, keepH, outV, retK, ret1, retC, RetV, Option.getD, runD, stepD, afterK, undef, simprocAttr, sxB, ↓sxD, sxE, sxTab]))
  refine Stop.go ?_
  (replace hb0 := true_and True); refine Go1.mk ?_; repeat' ((first | (with_reducible refine Go1.go ?_) | ((with_reducible first | refine brv_mk ?_ ?_ | refine gsplitD ?_ ?_ | refine gsplitG ?_ ?_) <;> intro h <;> (try simp only [Bool.not_eq_true', Bool.not_eq_false'] at h) <;> replace hb0 := h) | (refine And.intro ?ob ?_; case ob => ((try simp only [sxO, ne_eq, maxLen] at *); omega)) | fail) <;> (try simp (config := { maxSteps := 1000000 }) only [hb0, hu.one, hv.one, hw.one, ↓hold_pre, awayP, runOps, regK, step1, newK, genR, appR, obl, buildR, Value.cells, closeK, keepH, outV, retK, ret1, retC, RetV, Option.getD, runD, stepD, afterK, undef, simprocAttr, sxB, ↓sxD, sxE, sxTab]))
  refine ⟨fun s => (∃ w d, IsL M u32V w (ofN d) ∧ 0 < d ∧ (ofN d).length ≤ 8 ∧ s = gvSt M u w) ∨ s = gwSt M u, ?_, ?_⟩
  · by_cases h0 : (ofN d).length = 0
    · have d2 : decide (((ofN d).length : Int) = 0) = true := by rw [decide_eq_true_eq]; omega
      (replace hb0 := true_and True); refine Go1.mk ?_; repeat' ((first | (with_reducible refine Go1.go ?_) | ((with_reducible first | refine brv_mk ?_ ?_ | refine gsplitD ?_ ?_ | refine gsplitG ?_ ?_) <;> intro h <;> (try simp only [Bool.not_eq_true', Bool.not_eq_false'] at h) <;> replace hb0 := h) | (refine And.intro ?ob ?_; case ob => ((try simp only [sxO, ne_eq, maxLen] at *); omega)) | fail) <;> (try simp (config := { maxSteps := 1000000 }) only [hb0, hu.one, hw.one, hw.len, hw.sl, d2, ↓hold_pre, awayP, runOps, regK, step1, newK, genR, appR, obl, buildR, Value.cells, closeK, keepH, outV, retK, ret1, retC, RetV, Option.getD, runD, stepD, afterK, undef, simprocAttr, sxB, ↓sxD, sxE, sxTab]))
      exact ⟨gwSt M u, le_sub ⟨rfl, rfl, rfl, trivial⟩ ⟨rfl, rfl, trivial⟩ rfl rfl rfl (keepLt0 _), .inr rfl⟩
    · have d2 : decide (((ofN d).length : Int) = 0) = false := by rw [decide_eq_false_iff_not]; omega
      have hd0 : 0 < d := by
        rcases Nat.eq_zero_or_pos d with h | h
        · rw [h, ofN_zero] at h0; exact absurd rfl h0
        · exact h
      (replace hb0 := true_and True); refine Go1.mk ?_; repeat' ((first | (with_reducible refine Go1.go ?_) | ((with_reducible first | refine brv_mk ?_ ?_ | refine gsplitD ?_ ?_ | refine gsplitG ?_ ?_) <;> intro h <;> (try simp only [Bool.not_eq_true', Bool.not_eq_false'] at h) <;> replace hb0 := h) | (refine And.intro ?ob ?_; case ob => ((try simp only [sxO, ne_eq, maxLen] at *); omega)) | fail) <;> (try simp (config := { maxSteps := 1000000 }) only [hb0, hu.one, hw.one, hw.len, hw.sl, d2, ↓hold_pre, awayP, runOps, regK, step1, newK, genR, appR, obl, buildR, Value.cells, closeK, keepH, outV, retK, ret1, retC, RetV, Option.getD, runD, stepD, afterK, undef, simprocAttr, sxB, ↓sxD, sxE, sxTab]))
      exact ⟨gvSt M u w, le_sub ⟨rfl, rfl, rfl, trivial⟩ ⟨rfl, trivial⟩ rfl rfl rfl (keepLt0 _), .inl ⟨w, d, hw, hd0, hwl, rfl⟩⟩
  clear hw hwl
  rintro s (⟨w, d, hw, hd0, hwl, rfl⟩ | rfl)
  · (replace hb0 := true_and True); refine Go1.mk ?_; repeat' ((first | (with_reducible refine Go1.go ?_) | ((with_reducible first | refine brv_mk ?_ ?_ | refine gsplitD ?_ ?_ | refine gsplitG ?_ ?_) <;> intro h <;> (try simp only [Bool.not_eq_true', Bool.not_eq_false'] at h) <;> replace hb0 := h) | ((first | (with_reducible refine isCall (f := 59) ?_; refine callA_nil (by kernel_rfl) ?_) | (with_reducible refine isCall0 (f := 59) ?_; refine callA0_nil (by kernel_rfl) ?_)); refine (trim02_ok u x hu ox (fun w3 n hn hnl => Stop.mk ?_))) | (refine And.intro ?ob ?_; case ob => ((try simp only [sxO, ne_eq, maxLen] at *); omega)) | fail) <;> (try simp (config := { maxSteps := 1000000 }) only [hb0, gvSt, hu.one, hw.one, ↓hold_pre, awayP, runOps, regK, step1, newK, genR, appR, obl, buildR, Value.cells, closeK, keepH, outV, retK, ret1, retC, RetV, Option.getD, runD, stepD, afterK, undef, simprocAttr, sxB, ↓sxD, sxE, sxTab]))
    refine Stop.go ?_
    (replace hb0 := true_and True); refine Go1.mk ?_; repeat' ((first | (with_reducible refine Go1.go ?_) | ((with_reducible first | refine brv_mk ?_ ?_ | refine gsplitD ?_ ?_ | refine gsplitG ?_ ?_) <;> intro h <;> (try simp only [Bool.not_eq_true', Bool.not_eq_false'] at h) <;> replace hb0 := h) | ((first | (with_reducible refine isCall (f := 12) ?_; refine callA_nil (by kernel_rfl) ?_) | (with_reducible refine isCall0 (f := 12) ?_; refine callA0_nil (by kernel_rfl) ?_)); refine (rfmake_ok hn hw (okN_ofN _) (okN_ofN _) (by omega) (by omega) (fun w1 w2 M1 a1 a2 a3 a4 a5 => Stop.mk ?_))) | (refine And.intro ?ob ?_; case ob => ((try simp only [sxO, ne_eq, maxLen] at *); omega)) | fail) <;> (try simp (config := { maxSteps := 1000000 }) only [hb0, hu.one, hw.one, hn.one, ↓hold_pre, awayP, runOps, regK, step1, newK, genR, appR, obl, buildR, Value.cells, closeK, keepH, outV, retK, ret1, retC, RetV, Option.getD, runD, stepD, afterK, undef, simprocAttr, sxB, ↓sxD, sxE, sxTab]))
    refine Stop.go ?_
    (replace hb0 := true_and True); refine Go1.mk ?_; repeat' ((first | (with_reducible refine Go1.go ?_) | ((with_reducible first | refine brv_mk ?_ ?_ | refine gsplitD ?_ ?_ | refine gsplitG ?_ ?_) <;> intro h <;> (try simp only [Bool.not_eq_true', Bool.not_eq_false'] at h) <;> replace hb0 := h) | (refine And.intro ?ob ?_; case ob => ((try simp only [sxO, ne_eq, maxLen] at *); omega)) | fail) <;> (try simp (config := { maxSteps := 1000000 }) only [hb0, a2.one, a3.one, ↓hold_pre, awayP, runOps, regK, step1, newK, genR, appR, obl, buildR, Value.cells, closeK, keepH, outV, retK, ret1, retC, RetV, Option.getD, runD, stepD, afterK, undef, simprocAttr, sxB, ↓sxD, sxE, sxTab]))
    exact hK.made a1 hnl hwl hd0 a2 a3
  · (replace hb0 := true_and True); refine Go1.mk ?_; repeat' ((first | (with_reducible refine Go1.go ?_) | ((with_reducible first | refine brv_mk ?_ ?_ | refine gsplitD ?_ ?_ | refine gsplitG ?_ ?_) <;> intro h <;> (try simp only [Bool.not_eq_true', Bool.not_eq_false'] at h) <;> replace hb0 := h) | ((first | (with_reducible refine isCall (f := 59) ?_; refine callA_nil (by kernel_rfl) ?_) | (with_reducible refine isCall0 (f := 59) ?_; refine callA0_nil (by kernel_rfl) ?_)); refine (trim02_ok u x hu ox (fun w3 n hn hnl => Stop.mk ?_))) | (refine And.intro ?ob ?_; case ob => ((try simp only [sxO, ne_eq, maxLen] at *); omega)) | fail) <;> (try simp (config := { maxSteps := 1000000 }) only [hb0, gwSt, cE_ment, hasK_nil, cE_kill, cE_len, u32_one, u32_app1, u32_set, Nat.mul_one, hu.one, ↓hold_pre, awayP, runOps, regK, step1, newK, genR, appR, obl, buildR, Value.cells, closeK, keepH, outV, retK, ret1, retC, RetV, Option.getD, runD, stepD, afterK, undef, simprocAttr, sxB, ↓sxD, sxE, sxTab]))
    refine Stop.go ?_
    (replace hb0 := true_and True); refine Go1.mk ?_; repeat' ((first | (with_reducible refine Go1.go ?_) | ((with_reducible first | refine brv_mk ?_ ?_ | refine gsplitD ?_ ?_ | refine gsplitG ?_ ?_) <;> intro h <;> (try simp only [Bool.not_eq_true', Bool.not_eq_false'] at h) <;> replace hb0 := h) | ((with_reducible refine isCall (f := 12) ?_); refine callA ?_) | ((with_reducible refine isCall0 (f := 12) ?_); refine callA0 ?_) | ((with_reducible refine isCallS (f := 12) ?_); refine (rfmake_bor2 23 1 _ [1] rfl hn (okN_ofN _) (by simp [okN]) (by omega) (by simp) (fun w1 w2 M1 a1 a2 a3 a4 a5 => Stop.mk ?_))) | (refine And.intro ?ob ?_; case ob => ((try simp only [sxO, ne_eq, maxLen] at *); omega)) | fail) <;> (try simp (config := { maxSteps := 1000000 }) only [hb0, cE_ment, hasK_nil, cE_kill, cE_len, u32_one, u32_app1, u32_set, Nat.mul_one, hu.one, hn.one, ↓hold_pre, awayP, runOps, regK, step1, newK, genR, appR, obl, buildR, Value.cells, closeK, keepH, outV, retK, ret1, retC, RetV, Option.getD, runD, stepD, afterK, undef, simprocAttr, sxB, ↓sxD, sxE, sxTab]))
    rw [← ofN_1] at a2 a3
    refine Stop.go ?_
    (replace hb0 := true_and True); refine Go1.mk ?_; repeat' ((first | (with_reducible refine Go1.go ?_) | ((with_reducible first | refine brv_mk ?_ ?_ | refine gsplitD ?_ ?_ | refine gsplitG ?_ ?_) <;> intro h <;> (try simp only [Bool.not_eq_true', Bool.not_eq_false'] at h) <;> replace hb0 := h) | (refine And.intro ?ob ?_; case ob => ((try simp only [sxO, ne_eq, maxLen] at *); omega)) | fail) <;> (try simp (config := { maxSteps := 1000000 }) only [hb0, cE_ment, hasK_nil, cE_kill, cE_len, u32_one, u32_app1, u32_set, Nat.mul_one, a2.one, a3.one, ↓hold_pre, awayP, runOps, regK, step1, newK, genR, appR, obl, buildR, Value.cells, closeK, keepH, outV, retK, ret1, retC, RetV, Option.getD, runD, stepD, afterK, undef, simprocAttr, sxB, ↓sxD, sxE, sxTab]))
    exact hK.made a1 hnl (by rw [ofN_1]; decide) (by decide) a2 a3
end
end Go.Proofs.YtamghpnjdohnjaaDoor.Sx
namespace Go.Proofs.YtamghpnjdohnjaaDoor.Sx
open Go Go.RowKit
set_option linter.unusedVariables false
set_option linter.unusedSimpArgs false
set_option maxRecDepth 100000
set_option maxHeartbeats 8000000
attribute [local congr] fin_congr finG_congr stepG_congr step1_congr runOps_congr brv_congr obl_congr condK_congr LoopK_congr seqK_congr CutK_congr vc_congr DrawK_congr regK_congr CallK_congr AskK_congr newK_congr retC_congr ret1_congr retK_congr outV_congr closeK_congr genR_congr appR_congr finD_congr finGD_congr stepGD_congr stepD_congr CallK0_congr runD_congr okR_congr CallS_congr vcX_congr
attribute [local congr] Stop_congr
section
variable {M : Mem} {K : AV → Hp → Mem → Prop} {u1 u2 v1 v2 : Value} {l1 l2 k1 k2 : List Nat}
theorem rfcmp_ok (ha : IsF M u1 u2 l1 l2) (hb : IsF M v1 v2 k1 k2) (hK : ∀ M', Mem.le M M' → K (.ext (.int .i64 (cmpF l1 l2 k1 k2))) [] M') : CallS Tryd.prog 21 [.ext (.agg #[u1, u2]), .ext (.agg #[v1, v2])] [] M [] K := by
  refine inlS (cs := []) Tryd.mixed Tryd.func21 rfl (by kernel_rfl) 0 rfl rfl ?_
  simp only [Tryd.f21]
  unfold cmpF at hK
  (replace hb0 := true_and True); refine Go1.mk ?_; repeat' ((first | (with_reducible refine Go1.go ?_) | ((with_reducible first | refine brv_mk ?_ ?_ | refine gsplitD ?_ ?_ | refine gsplitG ?_ ?_) <;> intro h <;> (try simp only [Bool.not_eq_true', Bool.not_eq_false'] at h) <;> replace hb0 := h) | ((first | (with_reducible refine isCall (f := 17) ?_; refine callA_nil (by kernel_rfl) ?_) | (with_reducible refine isCall0 (f := 17) ?_; refine callA0_nil (by kernel_rfl) ?_)); refine (rfcheck_ok ha.n ha.d ha.on ha.od ha.bn ha.bd (fun M1 m1 => Stop.mk ?_))) | (refine And.intro ?ob ?_; case ob => ((try simp only [sxO, ne_eq, maxLen] at *); omega)) | fail) <;> (try simp (config := { maxSteps := 1000000 }) only [hb0, ha.n.one, ha.d.one, hb.n.one, hb.d.one, ↓hold_pre, awayP, runOps, regK, step1, newK, genR, appR, obl, buildR, Value.cells, closeK, keepH, outV, retK, ret1, retC, RetV, Option.getD, runD, stepD, afterK, undef, simprocAttr, sxB, ↓sxD, sxE, sxTab]))
  have m1 : Mem.le M M1 := m1
  have ha1 := ha.le m1
  have hb1 := hb.le m1
  refine Stop.go ?_
  cases hc1 : chkF l1 l2 with
  | false =>
    rw [hc1] at hK
    (replace hb0 := true_and True); refine Go1.mk ?_; repeat' ((first | (with_reducible refine Go1.go ?_) | ((with_reducible first | refine brv_mk ?_ ?_ | refine gsplitD ?_ ?_ | refine gsplitG ?_ ?_) <;> intro h <;> (try simp only [Bool.not_eq_true', Bool.not_eq_false'] at h) <;> replace hb0 := h) | (refine And.intro ?ob ?_; case ob => ((try simp only [sxO, ne_eq, maxLen] at *); omega)) | fail) <;> (try simp (config := { maxSteps := 1000000 }) only [hb0, ha1.n.one, ha1.d.one, hb1.n.one, hb1.d.one, ↓hold_pre, awayP, runOps, regK, step1, newK, genR, appR, obl, buildR, Value.cells, closeK, keepH, outV, retK, ret1, retC, RetV, Option.getD, runD, stepD, afterK, undef, simprocAttr, sxB, ↓sxD, sxE, sxTab]))
    exact hK _ m1
  | true =>
  (replace hb0 := true_and True); refine Go1.mk ?_; repeat' ((first | (with_reducible refine Go1.go ?_) | ((with_reducible first | refine brv_mk ?_ ?_ | refine gsplitD ?_ ?_ | refine gsplitG ?_ ?_) <;> intro h <;> (try simp only [Bool.not_eq_true', Bool.not_eq_false'] at h) <;> replace hb0 := h) | ((first | (with_reducible refine isCall (f := 17) ?_; refine callA_nil (by kernel_rfl) ?_) | (with_reducible refine isCall0 (f := 17) ?_; refine callA0_nil (by kernel_rfl) ?_)); refine (rfcheck_ok hb1.n hb1.d hb1.on hb1.od hb1.bn hb1.bd (fun M2 m2 => Stop.mk ?_))) | (refine And.intro ?ob ?_; case ob => ((try simp only [sxO, ne_eq, maxLen] at *); omega)) | fail) <;> (try simp (config := { maxSteps := 1000000 }) only [hb0, ha1.n.one, ha1.d.one, hb1.n.one, hb1.d.one, ↓hold_pre, awayP, runOps, regK, step1, newK, genR, appR, obl, buildR, Value.cells, closeK, keepH, outV, retK, ret1, retC, RetV, Option.getD, runD, stepD, afterK, undef, simprocAttr, sxB, ↓sxD, sxE, sxTab]))
  have m2 : Mem.le M1 M2 := m2
  have ha2 := ha1.le m2
  have hb2 := hb1.le m2
  have hm := m1.trans m2
  refine Stop.go ?_
  cases hc2 : chkF k1 k2 with
  | false =>
    rw [hc1, hc2] at hK
    (replace hb0 := true_and True); refine Go1.mk ?_; repeat' ((first | (with_reducible refine Go1.go ?_) | ((with_reducible first | refine brv_mk ?_ ?_ | refine gsplitD ?_ ?_ | refine gsplitG ?_ ?_) <;> intro h <;> (try simp only [Bool.not_eq_true', Bool.not_eq_false'] at h) <;> replace hb0 := h) | (refine And.intro ?ob ?_; case ob => ((try simp only [sxO, ne_eq, maxLen] at *); omega)) | fail) <;> (try simp (config := { maxSteps := 1000000 }) only [hb0, ha2.n.one, ha2.d.one, hb2.n.one, hb2.d.one, ↓hold_pre, awayP, runOps, regK, step1, newK, genR, appR, obl, buildR, Value.cells, closeK, keepH, outV, retK, ret1, retC, RetV, Option.getD, runD, stepD, afterK, undef, simprocAttr, sxB, ↓sxD, sxE, sxTab]))
    exact hK _ hm
  | true =>
  rw [hc1, hc2, Bool.and_self, if_pos rfl] at hK
  obtain ⟨n1, d1, hn1, hd1, e1, e2, q1, q2, q3⟩ := ha2.num hc1
  obtain ⟨n2, d2, hn2, hd2, e3, e4, r1, r2, r3⟩ := hb2.num hc2
  rw [e1, e2, e3, e4] at hK
  have t1 := mul_len n1 d2
  have t2 := mul_len n2 d1
  have t3 := mul_len d1 d2
  have t4 := mul_len n1 n2
  have t0 : 0 < d1 * d2 := Nat.mul_pos q3 r3
  (replace hb0 := true_and True); refine Go1.mk ?_; repeat' ((first | (with_reducible refine Go1.go ?_) | ((with_reducible first | refine brv_mk ?_ ?_ | refine gsplitD ?_ ?_ | refine gsplitG ?_ ?_) <;> intro h <;> (try simp only [Bool.not_eq_true', Bool.not_eq_false'] at h) <;> replace hb0 := h) | ((first | (with_reducible refine isCall (f := 62) ?_; refine callA_nil (by kernel_rfl) ?_) | (with_reducible refine isCall0 (f := 62) ?_; refine callA0_nil (by kernel_rfl) ?_)); refine (rforder_ok hn1 hd1 hn2 hd2 (by omega) (by omega) (by omega) (by omega) (fun M3 m3 => Stop.mk ?_))) | (refine And.intro ?ob ?_; case ob => ((try simp only [sxO, ne_eq, maxLen] at *); omega)) | fail) <;> (try simp (config := { maxSteps := 1000000 }) only [hb0, hn1.one, hd1.one, hn2.one, hd2.one, ↓hold_pre, awayP, runOps, regK, step1, newK, genR, appR, obl, buildR, Value.cells, closeK, keepH, outV, retK, ret1, retC, RetV, Option.getD, runD, stepD, afterK, undef, simprocAttr, sxB, ↓sxD, sxE, sxTab]))
  refine Stop.go ?_
  (replace hb0 := true_and True); refine Go1.mk ?_; repeat' ((first | (with_reducible refine Go1.go ?_) | ((with_reducible first | refine brv_mk ?_ ?_ | refine gsplitD ?_ ?_ | refine gsplitG ?_ ?_) <;> intro h <;> (try simp only [Bool.not_eq_true', Bool.not_eq_false'] at h) <;> replace hb0 := h) | (refine And.intro ?ob ?_; case ob => ((try simp only [sxO, ne_eq, maxLen] at *); omega)) | fail) <;> (try simp (config := { maxSteps := 1000000 }) only [hb0, hn1.one, hd1.one, hn2.one, hd2.one, ↓hold_pre, awayP, runOps, regK, step1, newK, genR, appR, obl, buildR, Value.cells, closeK, keepH, outV, retK, ret1, retC, RetV, Option.getD, runD, stepD, afterK, undef, simprocAttr, sxB, ↓sxD, sxE, sxTab]))
  exact hK _ (hm.trans m3)
theorem rfadd_ok (ha : IsF M u1 u2 l1 l2) (hb : IsF M v1 v2 k1 k2) (hK : FracK M K (addF l1 l2 k1 k2)) : CallS Tryd.prog 23 [.ext (.agg #[u1, u2]), .ext (.agg #[v1, v2])] [] M [] K := by
  refine inlS (cs := []) Tryd.mixed Tryd.func23 rfl (by kernel_rfl) 0 rfl rfl ?_
  simp only [Tryd.f23]
  unfold addF at hK
  (replace hb0 := true_and True); refine Go1.mk ?_; repeat' ((first | (with_reducible refine Go1.go ?_) | ((with_reducible first | refine brv_mk ?_ ?_ | refine gsplitD ?_ ?_ | refine gsplitG ?_ ?_) <;> intro h <;> (try simp only [Bool.not_eq_true', Bool.not_eq_false'] at h) <;> replace hb0 := h) | ((first | (with_reducible refine isCall (f := 17) ?_; refine callA_nil (by kernel_rfl) ?_) | (with_reducible refine isCall0 (f := 17) ?_; refine callA0_nil (by kernel_rfl) ?_)); refine (rfcheck_ok ha.n ha.d ha.on ha.od ha.bn ha.bd (fun M1 m1 => Stop.mk ?_))) | (refine And.intro ?ob ?_; case ob => ((try simp only [sxO, ne_eq, maxLen] at *); omega)) | fail) <;> (try simp (config := { maxSteps := 1000000 }) only [hb0, ha.n.one, ha.d.one, hb.n.one, hb.d.one, ↓hold_pre, awayP, runOps, regK, step1, newK, genR, appR, obl, buildR, Value.cells, closeK, keepH, outV, retK, ret1, retC, RetV, Option.getD, runD, stepD, afterK, undef, simprocAttr, sxB, ↓sxD, sxE, sxTab]))
  have m1 : Mem.le M M1 := m1
  have ha1 := ha.le m1
  have hb1 := hb.le m1
  refine Stop.go ?_
  cases hc1 : chkF l1 l2 with
  | false =>
    rw [hc1] at hK
    (replace hb0 := true_and True); refine Go1.mk ?_; repeat' ((first | (with_reducible refine Go1.go ?_) | ((with_reducible first | refine brv_mk ?_ ?_ | refine gsplitD ?_ ?_ | refine gsplitG ?_ ?_) <;> intro h <;> (try simp only [Bool.not_eq_true', Bool.not_eq_false'] at h) <;> replace hb0 := h) | (refine And.intro ?ob ?_; case ob => ((try simp only [sxO, ne_eq, maxLen] at *); omega)) | fail) <;> (try simp (config := { maxSteps := 1000000 }) only [hb0, ha1.n.one, ha1.d.one, hb1.n.one, hb1.d.one, ↓hold_pre, awayP, runOps, regK, step1, newK, genR, appR, obl, buildR, Value.cells, closeK, keepH, outV, retK, ret1, retC, RetV, Option.getD, runD, stepD, afterK, undef, simprocAttr, sxB, ↓sxD, sxE, sxTab]))
    exact hK.err _ m1
  | true =>
  (replace hb0 := true_and True); refine Go1.mk ?_; repeat' ((first | (with_reducible refine Go1.go ?_) | ((with_reducible first | refine brv_mk ?_ ?_ | refine gsplitD ?_ ?_ | refine gsplitG ?_ ?_) <;> intro h <;> (try simp only [Bool.not_eq_true', Bool.not_eq_false'] at h) <;> replace hb0 := h) | ((first | (with_reducible refine isCall (f := 17) ?_; refine callA_nil (by kernel_rfl) ?_) | (with_reducible refine isCall0 (f := 17) ?_; refine callA0_nil (by kernel_rfl) ?_)); refine (rfcheck_ok hb1.n hb1.d hb1.on hb1.od hb1.bn hb1.bd (fun M2 m2 => Stop.mk ?_))) | (refine And.intro ?ob ?_; case ob => ((try simp only [sxO, ne_eq, maxLen] at *); omega)) | fail) <;> (try simp (config := { maxSteps := 1000000 }) only [hb0, ha1.n.one, ha1.d.one, hb1.n.one, hb1.d.one, ↓hold_pre, awayP, runOps, regK, step1, newK, genR, appR, obl, buildR, Value.cells, closeK, keepH, outV, retK, ret1, retC, RetV, Option.getD, runD, stepD, afterK, undef, simprocAttr, sxB, ↓sxD, sxE, sxTab]))
  have m2 : Mem.le M1 M2 := m2
  have ha2 := ha1.le m2
  have hb2 := hb1.le m2
  have hm := m1.trans m2
  refine Stop.go ?_
  cases hc2 : chkF k1 k2 with
  | false =>
    rw [hc1, hc2] at hK
    (replace hb0 := true_and True); refine Go1.mk ?_; repeat' ((first | (with_reducible refine Go1.go ?_) | ((with_reducible first | refine brv_mk ?_ ?_ | refine gsplitD ?_ ?_ | refine gsplitG ?_ ?_) <;> intro h <;> (try simp only [Bool.not_eq_true', Bool.not_eq_false'] at h) <;> replace hb0 := h) | (refine And.intro ?ob ?_; case ob => ((try simp only [sxO, ne_eq, maxLen] at *); omega)) | fail) <;> (try simp (config := { maxSteps := 1000000 }) only [hb0, ha2.n.one, ha2.d.one, hb2.n.one, hb2.d.one, ↓hold_pre, awayP, runOps, regK, step1, newK, genR, appR, obl, buildR, Value.cells, closeK, keepH, outV, retK, ret1, retC, RetV, Option.getD, runD, stepD, afterK, undef, simprocAttr, sxB, ↓sxD, sxE, sxTab]))
    exact hK.err _ hm
  | true =>
  rw [hc1, hc2, Bool.and_self, if_pos rfl] at hK
  obtain ⟨n1, d1, hn1, hd1, e1, e2, q1, q2, q3⟩ := ha2.num hc1
  obtain ⟨n2, d2, hn2, hd2, e3, e4, r1, r2, r3⟩ := hb2.num hc2
  rw [e1, e2, e3, e4] at hK
  have t1 := mul_len n1 d2
  have t2 := mul_len n2 d1
  have t3 := mul_len d1 d2
  have t4 := mul_len n1 n2
  have t0 : 0 < d1 * d2 := Nat.mul_pos q3 r3
  (replace hb0 := true_and True); refine Go1.mk ?_; repeat' ((first | (with_reducible refine Go1.go ?_) | ((with_reducible first | refine brv_mk ?_ ?_ | refine gsplitD ?_ ?_ | refine gsplitG ?_ ?_) <;> intro h <;> (try simp only [Bool.not_eq_true', Bool.not_eq_false'] at h) <;> replace hb0 := h) | ((first | (with_reducible refine isCall (f := 66) ?_; refine callA_nil (by kernel_rfl) ?_) | (with_reducible refine isCall0 (f := 66) ?_; refine callA0_nil (by kernel_rfl) ?_)); refine (rfplus_ok hn1 hd1 hn2 hd2 (by omega) (by omega) (by omega) (by omega) q3 r3 (fun w1 w2 M3 m3 h1 h2 f1 f2 => Stop.mk ?_))) | (refine And.intro ?ob ?_; case ob => ((try simp only [sxO, ne_eq, maxLen] at *); omega)) | fail) <;> (try simp (config := { maxSteps := 1000000 }) only [hb0, hn1.one, hd1.one, hn2.one, hd2.one, ↓hold_pre, awayP, runOps, regK, step1, newK, genR, appR, obl, buildR, Value.cells, closeK, keepH, outV, retK, ret1, retC, RetV, Option.getD, runD, stepD, afterK, undef, simprocAttr, sxB, ↓sxD, sxE, sxTab]))
  have m3 : Mem.le M2 M3 := m3
  have hn1 := hn1.le m3
  have hd1 := hd1.le m3
  have hn2 := hn2.le m3
  have hd2 := hd2.le m3
  have f1 := f1.le hm
  have f2 := f2.le hm
  have hm := hm.trans m3
  refine Stop.go ?_
  by_cases hl1 : (ofN ((n1 * d2 + n2 * d1) / Nat.gcd ((n1 * d2 + n2 * d1)) ((d1 * d2)))).length ≤ 128
  · by_cases hl2 : (ofN ((d1 * d2) / Nat.gcd ((n1 * d2 + n2 * d1)) ((d1 * d2)))).length ≤ 128
    · unfold exF at hK
      rw [if_pos ⟨hl1, hl2⟩] at hK
      (replace hb0 := true_and True); refine Go1.mk ?_; repeat' ((first | (with_reducible refine Go1.go ?_) | ((with_reducible first | refine brv_mk ?_ ?_ | refine gsplitD ?_ ?_ | refine gsplitG ?_ ?_) <;> intro h <;> (try simp only [Bool.not_eq_true', Bool.not_eq_false'] at h) <;> replace hb0 := h) | ((first | (with_reducible refine isCall (f := 65) ?_; refine callA_nil (by kernel_rfl) ?_) | (with_reducible refine isCall0 (f := 65) ?_; refine callA0_nil (by kernel_rfl) ?_)); refine (rflimited_ok h1 h2 (fun _ _ => ?_) (fun h => absurd h (fun h => h.elim (fun h => by omega) (fun h => by omega))))) | (refine And.intro ?ob ?_; case ob => ((try simp only [sxO, ne_eq, maxLen] at *); omega)) | fail) <;> (try simp (config := { maxSteps := 1000000 }) only [hb0, h1.one, h2.one, ↓hold_pre, awayP, runOps, regK, step1, newK, genR, appR, obl, buildR, Value.cells, closeK, keepH, outV, retK, ret1, retC, RetV, Option.getD, runD, stepD, afterK, undef, simprocAttr, sxB, ↓sxD, sxE, sxTab]))
      exact hK _ _ _ hm h1 h2 f1 f2
    · unfold exF at hK
      rw [if_neg (fun h => hl2 h.2)] at hK
      (replace hb0 := true_and True); refine Go1.mk ?_; repeat' ((first | (with_reducible refine Go1.go ?_) | ((with_reducible first | refine brv_mk ?_ ?_ | refine gsplitD ?_ ?_ | refine gsplitG ?_ ?_) <;> intro h <;> (try simp only [Bool.not_eq_true', Bool.not_eq_false'] at h) <;> replace hb0 := h) | ((first | (with_reducible refine isCall (f := 65) ?_; refine callA_nil (by kernel_rfl) ?_) | (with_reducible refine isCall0 (f := 65) ?_; refine callA0_nil (by kernel_rfl) ?_)); refine (rflimited_ok h1 h2 (fun _ h => absurd h hl2) (fun _ => ?_))) | (refine And.intro ?ob ?_; case ob => ((try simp only [sxO, ne_eq, maxLen] at *); omega)) | fail) <;> (try simp (config := { maxSteps := 1000000 }) only [hb0, h1.one, h2.one, ↓hold_pre, awayP, runOps, regK, step1, newK, genR, appR, obl, buildR, Value.cells, closeK, keepH, outV, retK, ret1, retC, RetV, Option.getD, runD, stepD, afterK, undef, simprocAttr, sxB, ↓sxD, sxE, sxTab]))
      exact hK.err _ hm
  · unfold exF at hK
    rw [if_neg (fun h => hl1 h.1)] at hK
    (replace hb0 := true_and True); refine Go1.mk ?_; repeat' ((first | (with_reducible refine Go1.go ?_) | ((with_reducible first | refine brv_mk ?_ ?_ | refine gsplitD ?_ ?_ | refine gsplitG ?_ ?_) <;> intro h <;> (try simp only [Bool.not_eq_true', Bool.not_eq_false'] at h) <;> replace hb0 := h) | ((first | (with_reducible refine isCall (f := 65) ?_; refine callA_nil (by kernel_rfl) ?_) | (with_reducible refine isCall0 (f := 65) ?_; refine callA0_nil (by kernel_rfl) ?_)); refine (rflimited_ok h1 h2 (fun h _ => absurd h hl1) (fun _ => ?_))) | (refine And.intro ?ob ?_; case ob => ((try simp only [sxO, ne_eq, maxLen] at *); omega)) | fail) <;> (try simp (config := { maxSteps := 1000000 }) only [hb0, h1.one, h2.one, ↓hold_pre, awayP, runOps, regK, step1, newK, genR, appR, obl, buildR, Value.cells, closeK, keepH, outV, retK, ret1, retC, RetV, Option.getD, runD, stepD, afterK, undef, simprocAttr, sxB, ↓sxD, sxE, sxTab]))
    exact hK.err _ hm
theorem rfmul_ok (ha : IsF M u1 u2 l1 l2) (hb : IsF M v1 v2 k1 k2) (hK : FracK M K (mulF l1 l2 k1 k2)) : CallS Tryd.prog 27 [.ext (.agg #[u1, u2]), .ext (.agg #[v1, v2])] [] M [] K := by
  refine inlS (cs := []) Tryd.mixed Tryd.func27 rfl (by kernel_rfl) 0 rfl rfl ?_
  simp only [Tryd.f27]
  unfold mulF at hK
  (replace hb0 := true_and True); refine Go1.mk ?_; repeat' ((first | (with_reducible refine Go1.go ?_) | ((with_reducible first | refine brv_mk ?_ ?_ | refine gsplitD ?_ ?_ | refine gsplitG ?_ ?_) <;> intro h <;> (try simp only [Bool.not_eq_true', Bool.not_eq_false'] at h) <;> replace hb0 := h) | ((first | (with_reducible refine isCall (f := 17) ?_; refine callA_nil (by kernel_rfl) ?_) | (with_reducible refine isCall0 (f := 17) ?_; refine callA0_nil (by kernel_rfl) ?_)); refine (rfcheck_ok ha.n ha.d ha.on ha.od ha.bn ha.bd (fun M1 m1 => Stop.mk ?_))) | (refine And.intro ?ob ?_; case ob => ((try simp only [sxO, ne_eq, maxLen] at *); omega)) | fail) <;> (try simp (config := { maxSteps := 1000000 }) only [hb0, ha.n.one, ha.d.one, hb.n.one, hb.d.one, ↓hold_pre, awayP, runOps, regK, step1, newK, genR, appR, obl, buildR, Value.cells, closeK, keepH, outV, retK, ret1, retC, RetV, Option.getD, runD, stepD, afterK, undef, simprocAttr, sxB, ↓sxD, sxE, sxTab]))
  have m1 : Mem.le M M1 := m1
  have ha1 := ha.le m1
  have hb1 := hb.le m1
  refine Stop.go ?_
  cases hc1 : chkF l1 l2 with
  | false =>
    rw [hc1] at hK
    (replace hb0 := true_and True); refine Go1.mk ?_; repeat' ((first | (with_reducible refine Go1.go ?_) | ((with_reducible first | refine brv_mk ?_ ?_ | refine gsplitD ?_ ?_ | refine gsplitG ?_ ?_) <;> intro h <;> (try simp only [Bool.not_eq_true', Bool.not_eq_false'] at h) <;> replace hb0 := h) | (refine And.intro ?ob ?_; case ob => ((try simp only [sxO, ne_eq, maxLen] at *); omega)) | fail) <;> (try simp (config := { maxSteps := 1000000 }) only [hb0, ha1.n.one, ha1.d.one, hb1.n.one, hb1.d.one, ↓hold_pre, awayP, runOps, regK, step1, newK, genR, appR, obl, buildR, Value.cells, closeK, keepH, outV, retK, ret1, retC, RetV, Option.getD, runD, stepD, afterK, undef, simprocAttr, sxB, ↓sxD, sxE, sxTab]))
    exact hK.err _ m1
  | true =>
  (replace hb0 := true_and True); refine Go1.mk ?_; repeat' ((first | (with_reducible refine Go1.go ?_) | ((with_reducible first | refine brv_mk ?_ ?_ | refine gsplitD ?_ ?_ | refine gsplitG ?_ ?_) <;> intro h <;> (try simp only [Bool.not_eq_true', Bool.not_eq_false'] at h) <;> replace hb0 := h) | ((first | (with_reducible refine isCall (f := 17) ?_; refine callA_nil (by kernel_rfl) ?_) | (with_reducible refine isCall0 (f := 17) ?_; refine callA0_nil (by kernel_rfl) ?_)); refine (rfcheck_ok hb1.n hb1.d hb1.on hb1.od hb1.bn hb1.bd (fun M2 m2 => Stop.mk ?_))) | (refine And.intro ?ob ?_; case ob => ((try simp only [sxO, ne_eq, maxLen] at *); omega)) | fail) <;> (try simp (config := { maxSteps := 1000000 }) only [hb0, ha1.n.one, ha1.d.one, hb1.n.one, hb1.d.one, ↓hold_pre, awayP, runOps, regK, step1, newK, genR, appR, obl, buildR, Value.cells, closeK, keepH, outV, retK, ret1, retC, RetV, Option.getD, runD, stepD, afterK, undef, simprocAttr, sxB, ↓sxD, sxE, sxTab]))
  have m2 : Mem.le M1 M2 := m2
  have ha2 := ha1.le m2
  have hb2 := hb1.le m2
  have hm := m1.trans m2
  refine Stop.go ?_
  cases hc2 : chkF k1 k2 with
  | false =>
    rw [hc1, hc2] at hK
    (replace hb0 := true_and True); refine Go1.mk ?_; repeat' ((first | (with_reducible refine Go1.go ?_) | ((with_reducible first | refine brv_mk ?_ ?_ | refine gsplitD ?_ ?_ | refine gsplitG ?_ ?_) <;> intro h <;> (try simp only [Bool.not_eq_true', Bool.not_eq_false'] at h) <;> replace hb0 := h) | (refine And.intro ?ob ?_; case ob => ((try simp only [sxO, ne_eq, maxLen] at *); omega)) | fail) <;> (try simp (config := { maxSteps := 1000000 }) only [hb0, ha2.n.one, ha2.d.one, hb2.n.one, hb2.d.one, ↓hold_pre, awayP, runOps, regK, step1, newK, genR, appR, obl, buildR, Value.cells, closeK, keepH, outV, retK, ret1, retC, RetV, Option.getD, runD, stepD, afterK, undef, simprocAttr, sxB, ↓sxD, sxE, sxTab]))
    exact hK.err _ hm
  | true =>
  rw [hc1, hc2, Bool.and_self, if_pos rfl] at hK
  obtain ⟨n1, d1, hn1, hd1, e1, e2, q1, q2, q3⟩ := ha2.num hc1
  obtain ⟨n2, d2, hn2, hd2, e3, e4, r1, r2, r3⟩ := hb2.num hc2
  rw [e1, e2, e3, e4] at hK
  have t1 := mul_len n1 d2
  have t2 := mul_len n2 d1
  have t3 := mul_len d1 d2
  have t4 := mul_len n1 n2
  have t0 : 0 < d1 * d2 := Nat.mul_pos q3 r3
  (replace hb0 := true_and True); refine Go1.mk ?_; repeat' ((first | (with_reducible refine Go1.go ?_) | ((with_reducible first | refine brv_mk ?_ ?_ | refine gsplitD ?_ ?_ | refine gsplitG ?_ ?_) <;> intro h <;> (try simp only [Bool.not_eq_true', Bool.not_eq_false'] at h) <;> replace hb0 := h) | ((first | (with_reducible refine isCall (f := 69) ?_; refine callA_nil (by kernel_rfl) ?_) | (with_reducible refine isCall0 (f := 69) ?_; refine callA0_nil (by kernel_rfl) ?_)); refine (times_ok u1 v1 n1 n2 hn1 hn2 (by omega) (by omega) (fun ws M3 m3 hs fs => Stop.mk ?_))) | ((with_reducible refine isDraw [some 15, some 16, some 17, some 18, some 19, some 20, some 21, some 22, some 23, some 24, some 25, some 26, some 27, some 28, none, some 5] (by decide) ?_); refine draw_rule [(0, []), (1, []), (2, [1]), (3, [1]), (5, [1, 3]), (6, [1, 3]), (7, [1, 3, 6]), (8, [1, 3, 6]), (4, [6, 8]), (9, []), (10, []), (11, []), (12, []), (13, []), (14, []), (15, [])] [[], [0], [], [2], [0, 1, 2, 3], [], [5], [], [7], [0, 1, 2, 3, 4, 5, 6, 7, 8], [0, 1, 2, 3, 4, 5, 6, 7, 8, 9], [0, 1, 2, 3, 4, 5, 6, 7, 8, 9, 10], [0, 1, 2, 3, 4, 5, 6, 7, 8, 9, 10, 11], [0, 1, 2, 3, 4, 5, 6, 7, 8, 9, 10, 11], [0, 1, 2, 3, 4, 5, 6, 7, 8, 9, 10, 11, 12, 13], [0, 1, 2, 3, 4, 5, 6, 7, 8, 9, 10, 11, 12, 13, 14]] [15, 16, 17, 18, 19, 20, 21, 22, 23, 27, 28] [] (by kernel_rfl) (by kernel_rfl) (by kernel_rfl) (by kernel_rfl) (by exact trivial) ?_) | (refine And.intro ?ob ?_; case ob => ((try simp only [sxO, ne_eq, maxLen] at *); omega)) | fail) <;> (try simp (config := { maxSteps := 1000000 }) only [hb0, hn1.one, hd1.one, hn2.one, hd2.one, ↓hold_pre, awayP, runOps, regK, step1, newK, genR, appR, obl, buildR, Value.cells, closeK, keepH, outV, retK, ret1, retC, RetV, Option.getD, runD, stepD, afterK, undef, simprocAttr, sxB, ↓sxD, sxE, sxTab]))
  have m3 : Mem.le M2 M3 := m3
  have hn1 := hn1.le m3
  have hd1 := hd1.le m3
  have hn2 := hn2.le m3
  have hd2 := hd2.le m3
  have fs := fs.le hm
  have hm := hm.trans m3
  refine Stop.go ?_
  (replace hb0 := true_and True); refine Go1.mk ?_; repeat' ((first | (with_reducible refine Go1.go ?_) | ((with_reducible first | refine brv_mk ?_ ?_ | refine gsplitD ?_ ?_ | refine gsplitG ?_ ?_) <;> intro h <;> (try simp only [Bool.not_eq_true', Bool.not_eq_false'] at h) <;> replace hb0 := h) | ((first | (with_reducible refine isCall (f := 69) ?_; refine callA_nil (by kernel_rfl) ?_) | (with_reducible refine isCall0 (f := 69) ?_; refine callA0_nil (by kernel_rfl) ?_)); refine (times_ok u2 v2 d1 d2 hd1 hd2 (by omega) (by omega) (fun wp M4 m4 hp fp => Stop.mk ?_))) | ((with_reducible refine isDraw [some 15, some 16, some 17, some 18, some 19, some 20, some 21, some 22, some 23, some 24, some 25, some 26, some 27, some 28, none, some 5] (by decide) ?_); refine draw_rule [(0, []), (1, []), (2, [1]), (3, [1]), (5, [1, 3]), (6, [1, 3]), (7, [1, 3, 6]), (8, [1, 3, 6]), (4, [6, 8]), (9, []), (10, []), (11, []), (12, []), (13, []), (14, []), (15, [])] [[], [0], [], [2], [0, 1, 2, 3], [], [5], [], [7], [0, 1, 2, 3, 4, 5, 6, 7, 8], [0, 1, 2, 3, 4, 5, 6, 7, 8, 9], [0, 1, 2, 3, 4, 5, 6, 7, 8, 9, 10], [0, 1, 2, 3, 4, 5, 6, 7, 8, 9, 10, 11], [0, 1, 2, 3, 4, 5, 6, 7, 8, 9, 10, 11], [0, 1, 2, 3, 4, 5, 6, 7, 8, 9, 10, 11, 12, 13], [0, 1, 2, 3, 4, 5, 6, 7, 8, 9, 10, 11, 12, 13, 14]] [15, 16, 17, 18, 19, 20, 21, 22, 23, 27, 28] [] (by kernel_rfl) (by kernel_rfl) (by kernel_rfl) (by kernel_rfl) (by exact trivial) ?_) | (refine And.intro ?ob ?_; case ob => ((try simp only [sxO, ne_eq, maxLen] at *); omega)) | fail) <;> (try simp (config := { maxSteps := 1000000 }) only [hb0, hn1.one, hd1.one, hn2.one, hd2.one, hs.one, ↓hold_pre, awayP, runOps, regK, step1, newK, genR, appR, obl, buildR, Value.cells, closeK, keepH, outV, retK, ret1, retC, RetV, Option.getD, runD, stepD, afterK, undef, simprocAttr, sxB, ↓sxD, sxE, sxTab]))
  have m4 : Mem.le M3 M4 := m4
  have hn1 := hn1.le m4
  have hd1 := hd1.le m4
  have hn2 := hn2.le m4
  have hd2 := hd2.le m4
  have hs := hs.le m4
  have fp := fp.le hm
  have hm := hm.trans m4
  refine Stop.go ?_
  (replace hb0 := true_and True); refine Go1.mk ?_; repeat' ((first | (with_reducible refine Go1.go ?_) | ((with_reducible first | refine brv_mk ?_ ?_ | refine gsplitD ?_ ?_ | refine gsplitG ?_ ?_) <;> intro h <;> (try simp only [Bool.not_eq_true', Bool.not_eq_false'] at h) <;> replace hb0 := h) | ((first | (with_reducible refine isCall (f := 53) ?_; refine callA_nil (by kernel_rfl) ?_) | (with_reducible refine isCall0 (f := 53) ?_; refine callA0_nil (by kernel_rfl) ?_)); refine (rlowest_ok ws wp _ _ hs hp (by omega) (by omega) t0 (fun w1 w2 M5 m5 h1 h2 f1 f2 => Stop.mk ?_))) | ((with_reducible refine isDraw [some 15, some 16, some 17, some 18, some 19, some 20, some 21, some 22, some 23, some 24, some 25, some 26, some 27, some 28, none, some 5] (by decide) ?_); refine draw_rule [(0, []), (1, []), (2, [1]), (3, [1]), (5, [1, 3]), (6, [1, 3]), (7, [1, 3, 6]), (8, [1, 3, 6]), (4, [6, 8]), (9, []), (10, []), (11, []), (12, []), (13, []), (14, []), (15, [])] [[], [0], [], [2], [0, 1, 2, 3], [], [5], [], [7], [0, 1, 2, 3, 4, 5, 6, 7, 8], [0, 1, 2, 3, 4, 5, 6, 7, 8, 9], [0, 1, 2, 3, 4, 5, 6, 7, 8, 9, 10], [0, 1, 2, 3, 4, 5, 6, 7, 8, 9, 10, 11], [0, 1, 2, 3, 4, 5, 6, 7, 8, 9, 10, 11], [0, 1, 2, 3, 4, 5, 6, 7, 8, 9, 10, 11, 12, 13], [0, 1, 2, 3, 4, 5, 6, 7, 8, 9, 10, 11, 12, 13, 14]] [15, 16, 17, 18, 19, 20, 21, 22, 23, 27, 28] [] (by kernel_rfl) (by kernel_rfl) (by kernel_rfl) (by kernel_rfl) (by exact trivial) ?_) | (refine And.intro ?ob ?_; case ob => ((try simp only [sxO, ne_eq, maxLen] at *); omega)) | fail) <;> (try simp (config := { maxSteps := 1000000 }) only [hb0, hn1.one, hd1.one, hn2.one, hd2.one, hs.one, hp.one, ↓hold_pre, awayP, runOps, regK, step1, newK, genR, appR, obl, buildR, Value.cells, closeK, keepH, outV, retK, ret1, retC, RetV, Option.getD, runD, stepD, afterK, undef, simprocAttr, sxB, ↓sxD, sxE, sxTab]))
  have m5 : Mem.le M4 M5 := m5
  have hn1 := hn1.le m5
  have hd1 := hd1.le m5
  have hn2 := hn2.le m5
  have hd2 := hd2.le m5
  have hs := hs.le m5
  have hp := hp.le m5
  have f1 := f1.le hm
  have f2 := f2.le hm
  have hm := hm.trans m5
  refine Stop.go ?_
  by_cases hl1 : (ofN ((n1 * n2) / Nat.gcd ((n1 * n2)) ((d1 * d2)))).length ≤ 128
  · by_cases hl2 : (ofN ((d1 * d2) / Nat.gcd ((n1 * n2)) ((d1 * d2)))).length ≤ 128
    · unfold exF at hK
      rw [if_pos ⟨hl1, hl2⟩] at hK
      (replace hb0 := true_and True); refine Go1.mk ?_; repeat' ((first | (with_reducible refine Go1.go ?_) | ((with_reducible first | refine brv_mk ?_ ?_ | refine gsplitD ?_ ?_ | refine gsplitG ?_ ?_) <;> intro h <;> (try simp only [Bool.not_eq_true', Bool.not_eq_false'] at h) <;> replace hb0 := h) | ((first | (with_reducible refine isCall (f := 65) ?_; refine callA_nil (by kernel_rfl) ?_) | (with_reducible refine isCall0 (f := 65) ?_; refine callA0_nil (by kernel_rfl) ?_)); refine (rflimited_ok h1 h2 (fun _ _ => ?_) (fun h => absurd h (fun h => h.elim (fun h => by omega) (fun h => by omega))))) | (refine And.intro ?ob ?_; case ob => ((try simp only [sxO, ne_eq, maxLen] at *); omega)) | fail) <;> (try simp (config := { maxSteps := 1000000 }) only [hb0, h1.one, h2.one, ↓hold_pre, awayP, runOps, regK, step1, newK, genR, appR, obl, buildR, Value.cells, closeK, keepH, outV, retK, ret1, retC, RetV, Option.getD, runD, stepD, afterK, undef, simprocAttr, sxB, ↓sxD, sxE, sxTab]))
      exact hK _ _ _ hm h1 h2 f1 f2
    · unfold exF at hK
      rw [if_neg (fun h => hl2 h.2)] at hK
      (replace hb0 := true_and True); refine Go1.mk ?_; repeat' ((first | (with_reducible refine Go1.go ?_) | ((with_reducible first | refine brv_mk ?_ ?_ | refine gsplitD ?_ ?_ | refine gsplitG ?_ ?_) <;> intro h <;> (try simp only [Bool.not_eq_true', Bool.not_eq_false'] at h) <;> replace hb0 := h) | ((first | (with_reducible refine isCall (f := 65) ?_; refine callA_nil (by kernel_rfl) ?_) | (with_reducible refine isCall0 (f := 65) ?_; refine callA0_nil (by kernel_rfl) ?_)); refine (rflimited_ok h1 h2 (fun _ h => absurd h hl2) (fun _ => ?_))) | (refine And.intro ?ob ?_; case ob => ((try simp only [sxO, ne_eq, maxLen] at *); omega)) | fail) <;> (try simp (config := { maxSteps := 1000000 }) only [hb0, h1.one, h2.one, ↓hold_pre, awayP, runOps, regK, step1, newK, genR, appR, obl, buildR, Value.cells, closeK, keepH, outV, retK, ret1, retC, RetV, Option.getD, runD, stepD, afterK, undef, simprocAttr, sxB, ↓sxD, sxE, sxTab]))
      exact hK.err _ hm
  · unfold exF at hK
    rw [if_neg (fun h => hl1 h.1)] at hK
    (replace hb0 := true_and True); refine Go1.mk ?_; repeat' ((first | (with_reducible refine Go1.go ?_) | ((with_reducible first | refine brv_mk ?_ ?_ | refine gsplitD ?_ ?_ | refine gsplitG ?_ ?_) <;> intro h <;> (try simp only [Bool.not_eq_true', Bool.not_eq_false'] at h) <;> replace hb0 := h) | ((first | (with_reducible refine isCall (f := 65) ?_; refine callA_nil (by kernel_rfl) ?_) | (with_reducible refine isCall0 (f := 65) ?_; refine callA0_nil (by kernel_rfl) ?_)); refine (rflimited_ok h1 h2 (fun h _ => absurd h hl1) (fun _ => ?_))) | (refine And.intro ?ob ?_; case ob => ((try simp only [sxO, ne_eq, maxLen] at *); omega)) | fail) <;> (try simp (config := { maxSteps := 1000000 }) only [hb0, h1.one, h2.one, ↓hold_pre, awayP, runOps, regK, step1, newK, genR, appR, obl, buildR, Value.cells, closeK, keepH, outV, retK, ret1, retC, RetV, Option.getD, runD, stepD, afterK, undef, simprocAttr, sxB, ↓sxD, sxE, sxTab]))
    exact hK.err _ hm
theorem rfdiv_ok (ha : IsF M u1 u2 l1 l2) (hb : IsF M v1 v2 k1 k2) (hK : FracK M K (divF l1 l2 k1 k2)) : CallS Tryd.prog 29 [.ext (.agg #[u1, u2]), .ext (.agg #[v1, v2])] [] M [] K := by
  refine inlS (cs := []) Tryd.mixed Tryd.func29 rfl (by kernel_rfl) 0 rfl rfl ?_
  simp only [Tryd.f29]
  unfold divF at hK
  (replace hb0 := true_and True); refine Go1.mk ?_; repeat' ((first | (with_reducible refine Go1.go ?_) | ((with_reducible first | refine brv_mk ?_ ?_ | refine gsplitD ?_ ?_ | refine gsplitG ?_ ?_) <;> intro h <;> (try simp only [Bool.not_eq_true', Bool.not_eq_false'] at h) <;> replace hb0 := h) | ((first | (with_reducible refine isCall (f := 17) ?_; refine callA_nil (by kernel_rfl) ?_) | (with_reducible refine isCall0 (f := 17) ?_; refine callA0_nil (by kernel_rfl) ?_)); refine (rfcheck_ok ha.n ha.d ha.on ha.od ha.bn ha.bd (fun M1 m1 => Stop.mk ?_))) | (refine And.intro ?ob ?_; case ob => ((try simp only [sxO, ne_eq, maxLen] at *); omega)) | fail) <;> (try simp (config := { maxSteps := 1000000 }) only [hb0, ha.n.one, ha.d.one, hb.n.one, hb.d.one, ↓hold_pre, awayP, runOps, regK, step1, newK, genR, appR, obl, buildR, Value.cells, closeK, keepH, outV, retK, ret1, retC, RetV, Option.getD, runD, stepD, afterK, undef, simprocAttr, sxB, ↓sxD, sxE, sxTab]))
  have m1 : Mem.le M M1 := m1
  have ha1 := ha.le m1
  have hb1 := hb.le m1
  refine Stop.go ?_
  cases hc1 : chkF l1 l2 with
  | false =>
    rw [hc1] at hK
    (replace hb0 := true_and True); refine Go1.mk ?_; repeat' ((first | (with_reducible refine Go1.go ?_) | ((with_reducible first | refine brv_mk ?_ ?_ | refine gsplitD ?_ ?_ | refine gsplitG ?_ ?_) <;> intro h <;> (try simp only [Bool.not_eq_true', Bool.not_eq_false'] at h) <;> replace hb0 := h) | (refine And.intro ?ob ?_; case ob => ((try simp only [sxO, ne_eq, maxLen] at *); omega)) | fail) <;> (try simp (config := { maxSteps := 1000000 }) only [hb0, ha1.n.one, ha1.d.one, hb1.n.one, hb1.d.one, ↓hold_pre, awayP, runOps, regK, step1, newK, genR, appR, obl, buildR, Value.cells, closeK, keepH, outV, retK, ret1, retC, RetV, Option.getD, runD, stepD, afterK, undef, simprocAttr, sxB, ↓sxD, sxE, sxTab]))
    exact hK.err _ m1
  | true =>
  (replace hb0 := true_and True); refine Go1.mk ?_; repeat' ((first | (with_reducible refine Go1.go ?_) | ((with_reducible first | refine brv_mk ?_ ?_ | refine gsplitD ?_ ?_ | refine gsplitG ?_ ?_) <;> intro h <;> (try simp only [Bool.not_eq_true', Bool.not_eq_false'] at h) <;> replace hb0 := h) | ((first | (with_reducible refine isCall (f := 17) ?_; refine callA_nil (by kernel_rfl) ?_) | (with_reducible refine isCall0 (f := 17) ?_; refine callA0_nil (by kernel_rfl) ?_)); refine (rfcheck_ok hb1.n hb1.d hb1.on hb1.od hb1.bn hb1.bd (fun M2 m2 => Stop.mk ?_))) | (refine And.intro ?ob ?_; case ob => ((try simp only [sxO, ne_eq, maxLen] at *); omega)) | fail) <;> (try simp (config := { maxSteps := 1000000 }) only [hb0, ha1.n.one, ha1.d.one, hb1.n.one, hb1.d.one, ↓hold_pre, awayP, runOps, regK, step1, newK, genR, appR, obl, buildR, Value.cells, closeK, keepH, outV, retK, ret1, retC, RetV, Option.getD, runD, stepD, afterK, undef, simprocAttr, sxB, ↓sxD, sxE, sxTab]))
  have m2 : Mem.le M1 M2 := m2
  have ha2 := ha1.le m2
  have hb2 := hb1.le m2
  have hm := m1.trans m2
  refine Stop.go ?_
  cases hc2 : chkF k1 k2 with
  | false =>
    rw [hc1, hc2] at hK
    (replace hb0 := true_and True); refine Go1.mk ?_; repeat' ((first | (with_reducible refine Go1.go ?_) | ((with_reducible first | refine brv_mk ?_ ?_ | refine gsplitD ?_ ?_ | refine gsplitG ?_ ?_) <;> intro h <;> (try simp only [Bool.not_eq_true', Bool.not_eq_false'] at h) <;> replace hb0 := h) | (refine And.intro ?ob ?_; case ob => ((try simp only [sxO, ne_eq, maxLen] at *); omega)) | fail) <;> (try simp (config := { maxSteps := 1000000 }) only [hb0, ha2.n.one, ha2.d.one, hb2.n.one, hb2.d.one, ↓hold_pre, awayP, runOps, regK, step1, newK, genR, appR, obl, buildR, Value.cells, closeK, keepH, outV, retK, ret1, retC, RetV, Option.getD, runD, stepD, afterK, undef, simprocAttr, sxB, ↓sxD, sxE, sxTab]))
    exact hK.err _ hm
  | true =>
  rw [hc1, hc2, Bool.and_self, if_pos rfl] at hK
  obtain ⟨n1, d1, hn1, hd1, e1, e2, q1, q2, q3⟩ := ha2.num hc1
  obtain ⟨n2, d2, hn2, hd2, e3, e4, r1, r2, r3⟩ := hb2.num hc2
  rw [e1, e2, e3, e4] at hK
  have t1 := mul_len n1 d2
  have t2 := mul_len n2 d1
  have t3 := mul_len d1 d2
  have t4 := mul_len n1 n2
  have t0 : 0 < d1 * d2 := Nat.mul_pos q3 r3
  by_cases hz : n2 = 0
  · have z1 : decide (((ofN n2).length : Int) = 0) = true := by rw [hz, ofN_zero]; rfl
    rw [if_pos hz] at hK
    (replace hb0 := true_and True); refine Go1.mk ?_; repeat' ((first | (with_reducible refine Go1.go ?_) | ((with_reducible first | refine brv_mk ?_ ?_ | refine gsplitD ?_ ?_ | refine gsplitG ?_ ?_) <;> intro h <;> (try simp only [Bool.not_eq_true', Bool.not_eq_false'] at h) <;> replace hb0 := h) | (refine And.intro ?ob ?_; case ob => ((try simp only [sxO, ne_eq, maxLen] at *); omega)) | fail) <;> (try simp (config := { maxSteps := 1000000 }) only [hb0, hn1.one, hd1.one, hn2.one, hn2.len, hn2.sl, hd2.one, z1, ↓hold_pre, awayP, runOps, regK, step1, newK, genR, appR, obl, buildR, Value.cells, closeK, keepH, outV, retK, ret1, retC, RetV, Option.getD, runD, stepD, afterK, undef, simprocAttr, sxB, ↓sxD, sxE, sxTab]))
    exact hK.err _ hm
  rw [if_neg hz, Nat.mul_comm n2 d1] at hK
  have z1 : decide (((ofN n2).length : Int) = 0) = false := by
    rw [decide_eq_false_iff_not]
    intro h
    exact hz (ofN_nil.1 (List.length_eq_zero_iff.1 (by omega)))
  have z0 : 0 < d1 * n2 := Nat.mul_pos q3 (by omega)
  rw [Nat.mul_comm n2 d1] at t2
  (replace hb0 := true_and True); refine Go1.mk ?_; repeat' ((first | (with_reducible refine Go1.go ?_) | ((with_reducible first | refine brv_mk ?_ ?_ | refine gsplitD ?_ ?_ | refine gsplitG ?_ ?_) <;> intro h <;> (try simp only [Bool.not_eq_true', Bool.not_eq_false'] at h) <;> replace hb0 := h) | ((first | (with_reducible refine isCall (f := 69) ?_; refine callA_nil (by kernel_rfl) ?_) | (with_reducible refine isCall0 (f := 69) ?_; refine callA0_nil (by kernel_rfl) ?_)); refine (times_ok u1 v2 n1 d2 hn1 hd2 (by omega) (by omega) (fun ws M3 m3 hs fs => Stop.mk ?_))) | ((with_reducible refine isDraw [some 20, some 21, some 22, some 23, some 24, some 25, some 26, some 27, some 28, some 29, some 30, some 31, some 32, some 33, none, some 5] (by decide) ?_); refine draw_rule [(0, []), (1, []), (2, [1]), (3, [1]), (5, [1, 3]), (6, [1, 3]), (7, [1, 3, 6]), (8, [1, 3, 6]), (4, [6, 8]), (9, []), (10, []), (11, []), (12, []), (13, []), (14, []), (15, [])] [[], [0], [], [2], [0, 1, 2, 3], [], [5], [], [7], [0, 1, 2, 3, 4, 5, 6, 7, 8], [0, 1, 2, 3, 4, 5, 6, 7, 8, 9], [0, 1, 2, 3, 4, 5, 6, 7, 8, 9, 10], [0, 1, 2, 3, 4, 5, 6, 7, 8, 9, 10, 11], [0, 1, 2, 3, 4, 5, 6, 7, 8, 9, 10, 11], [0, 1, 2, 3, 4, 5, 6, 7, 8, 9, 10, 11, 12, 13], [0, 1, 2, 3, 4, 5, 6, 7, 8, 9, 10, 11, 12, 13, 14]] [20, 21, 22, 23, 24, 25, 26, 27, 28, 32, 33] [] (by kernel_rfl) (by kernel_rfl) (by kernel_rfl) (by kernel_rfl) (by exact trivial) ?_) | (refine And.intro ?ob ?_; case ob => ((try simp only [sxO, ne_eq, maxLen] at *); omega)) | fail) <;> (try simp (config := { maxSteps := 1000000 }) only [hb0, hn1.one, hd1.one, hn2.one, hd2.one, hn2.len, hn2.sl, z1, ↓hold_pre, awayP, runOps, regK, step1, newK, genR, appR, obl, buildR, Value.cells, closeK, keepH, outV, retK, ret1, retC, RetV, Option.getD, runD, stepD, afterK, undef, simprocAttr, sxB, ↓sxD, sxE, sxTab]))
  have m3 : Mem.le M2 M3 := m3
  have hn1 := hn1.le m3
  have hd1 := hd1.le m3
  have hn2 := hn2.le m3
  have hd2 := hd2.le m3
  have fs := fs.le hm
  have hm := hm.trans m3
  refine Stop.go ?_
  (replace hb0 := true_and True); refine Go1.mk ?_; repeat' ((first | (with_reducible refine Go1.go ?_) | ((with_reducible first | refine brv_mk ?_ ?_ | refine gsplitD ?_ ?_ | refine gsplitG ?_ ?_) <;> intro h <;> (try simp only [Bool.not_eq_true', Bool.not_eq_false'] at h) <;> replace hb0 := h) | ((first | (with_reducible refine isCall (f := 69) ?_; refine callA_nil (by kernel_rfl) ?_) | (with_reducible refine isCall0 (f := 69) ?_; refine callA0_nil (by kernel_rfl) ?_)); refine (times_ok u2 v1 d1 n2 hd1 hn2 (by omega) (by omega) (fun wp M4 m4 hp fp => Stop.mk ?_))) | ((with_reducible refine isDraw [some 20, some 21, some 22, some 23, some 24, some 25, some 26, some 27, some 28, some 29, some 30, some 31, some 32, some 33, none, some 5] (by decide) ?_); refine draw_rule [(0, []), (1, []), (2, [1]), (3, [1]), (5, [1, 3]), (6, [1, 3]), (7, [1, 3, 6]), (8, [1, 3, 6]), (4, [6, 8]), (9, []), (10, []), (11, []), (12, []), (13, []), (14, []), (15, [])] [[], [0], [], [2], [0, 1, 2, 3], [], [5], [], [7], [0, 1, 2, 3, 4, 5, 6, 7, 8], [0, 1, 2, 3, 4, 5, 6, 7, 8, 9], [0, 1, 2, 3, 4, 5, 6, 7, 8, 9, 10], [0, 1, 2, 3, 4, 5, 6, 7, 8, 9, 10, 11], [0, 1, 2, 3, 4, 5, 6, 7, 8, 9, 10, 11], [0, 1, 2, 3, 4, 5, 6, 7, 8, 9, 10, 11, 12, 13], [0, 1, 2, 3, 4, 5, 6, 7, 8, 9, 10, 11, 12, 13, 14]] [20, 21, 22, 23, 24, 25, 26, 27, 28, 32, 33] [] (by kernel_rfl) (by kernel_rfl) (by kernel_rfl) (by kernel_rfl) (by exact trivial) ?_) | (refine And.intro ?ob ?_; case ob => ((try simp only [sxO, ne_eq, maxLen] at *); omega)) | fail) <;> (try simp (config := { maxSteps := 1000000 }) only [hb0, hn1.one, hd1.one, hn2.one, hd2.one, hs.one, ↓hold_pre, awayP, runOps, regK, step1, newK, genR, appR, obl, buildR, Value.cells, closeK, keepH, outV, retK, ret1, retC, RetV, Option.getD, runD, stepD, afterK, undef, simprocAttr, sxB, ↓sxD, sxE, sxTab]))
  have m4 : Mem.le M3 M4 := m4
  have hn1 := hn1.le m4
  have hd1 := hd1.le m4
  have hn2 := hn2.le m4
  have hd2 := hd2.le m4
  have hs := hs.le m4
  have fp := fp.le hm
  have hm := hm.trans m4
  refine Stop.go ?_
  (replace hb0 := true_and True); refine Go1.mk ?_; repeat' ((first | (with_reducible refine Go1.go ?_) | ((with_reducible first | refine brv_mk ?_ ?_ | refine gsplitD ?_ ?_ | refine gsplitG ?_ ?_) <;> intro h <;> (try simp only [Bool.not_eq_true', Bool.not_eq_false'] at h) <;> replace hb0 := h) | ((first | (with_reducible refine isCall (f := 53) ?_; refine callA_nil (by kernel_rfl) ?_) | (with_reducible refine isCall0 (f := 53) ?_; refine callA0_nil (by kernel_rfl) ?_)); refine (rlowest_ok ws wp _ _ hs hp (by omega) (by omega) z0 (fun w1 w2 M5 m5 h1 h2 f1 f2 => Stop.mk ?_))) | ((with_reducible refine isDraw [some 20, some 21, some 22, some 23, some 24, some 25, some 26, some 27, some 28, some 29, some 30, some 31, some 32, some 33, none, some 5] (by decide) ?_); refine draw_rule [(0, []), (1, []), (2, [1]), (3, [1]), (5, [1, 3]), (6, [1, 3]), (7, [1, 3, 6]), (8, [1, 3, 6]), (4, [6, 8]), (9, []), (10, []), (11, []), (12, []), (13, []), (14, []), (15, [])] [[], [0], [], [2], [0, 1, 2, 3], [], [5], [], [7], [0, 1, 2, 3, 4, 5, 6, 7, 8], [0, 1, 2, 3, 4, 5, 6, 7, 8, 9], [0, 1, 2, 3, 4, 5, 6, 7, 8, 9, 10], [0, 1, 2, 3, 4, 5, 6, 7, 8, 9, 10, 11], [0, 1, 2, 3, 4, 5, 6, 7, 8, 9, 10, 11], [0, 1, 2, 3, 4, 5, 6, 7, 8, 9, 10, 11, 12, 13], [0, 1, 2, 3, 4, 5, 6, 7, 8, 9, 10, 11, 12, 13, 14]] [20, 21, 22, 23, 24, 25, 26, 27, 28, 32, 33] [] (by kernel_rfl) (by kernel_rfl) (by kernel_rfl) (by kernel_rfl) (by exact trivial) ?_) | (refine And.intro ?ob ?_; case ob => ((try simp only [sxO, ne_eq, maxLen] at *); omega)) | fail) <;> (try simp (config := { maxSteps := 1000000 }) only [hb0, hn1.one, hd1.one, hn2.one, hd2.one, hs.one, hp.one, ↓hold_pre, awayP, runOps, regK, step1, newK, genR, appR, obl, buildR, Value.cells, closeK, keepH, outV, retK, ret1, retC, RetV, Option.getD, runD, stepD, afterK, undef, simprocAttr, sxB, ↓sxD, sxE, sxTab]))
  have m5 : Mem.le M4 M5 := m5
  have hn1 := hn1.le m5
  have hd1 := hd1.le m5
  have hn2 := hn2.le m5
  have hd2 := hd2.le m5
  have hs := hs.le m5
  have hp := hp.le m5
  have f1 := f1.le hm
  have f2 := f2.le hm
  have hm := hm.trans m5
  refine Stop.go ?_
  by_cases hl1 : (ofN ((n1 * d2) / Nat.gcd ((n1 * d2)) ((d1 * n2)))).length ≤ 128
  · by_cases hl2 : (ofN ((d1 * n2) / Nat.gcd ((n1 * d2)) ((d1 * n2)))).length ≤ 128
    · unfold exF at hK
      rw [if_pos ⟨hl1, hl2⟩] at hK
      (replace hb0 := true_and True); refine Go1.mk ?_; repeat' ((first | (with_reducible refine Go1.go ?_) | ((with_reducible first | refine brv_mk ?_ ?_ | refine gsplitD ?_ ?_ | refine gsplitG ?_ ?_) <;> intro h <;> (try simp only [Bool.not_eq_true', Bool.not_eq_false'] at h) <;> replace hb0 := h) | ((first | (with_reducible refine isCall (f := 65) ?_; refine callA_nil (by kernel_rfl) ?_) | (with_reducible refine isCall0 (f := 65) ?_; refine callA0_nil (by kernel_rfl) ?_)); refine (rflimited_ok h1 h2 (fun _ _ => ?_) (fun h => absurd h (fun h => h.elim (fun h => by omega) (fun h => by omega))))) | (refine And.intro ?ob ?_; case ob => ((try simp only [sxO, ne_eq, maxLen] at *); omega)) | fail) <;> (try simp (config := { maxSteps := 1000000 }) only [hb0, h1.one, h2.one, ↓hold_pre, awayP, runOps, regK, step1, newK, genR, appR, obl, buildR, Value.cells, closeK, keepH, outV, retK, ret1, retC, RetV, Option.getD, runD, stepD, afterK, undef, simprocAttr, sxB, ↓sxD, sxE, sxTab]))
      exact hK _ _ _ hm h1 h2 f1 f2
    · unfold exF at hK
      rw [if_neg (fun h => hl2 h.2)] at hK
      (replace hb0 := true_and True); refine Go1.mk ?_; repeat' ((first | (with_reducible refine Go1.go ?_) | ((with_reducible first | refine brv_mk ?_ ?_ | refine gsplitD ?_ ?_ | refine gsplitG ?_ ?_) <;> intro h <;> (try simp only [Bool.not_eq_true', Bool.not_eq_false'] at h) <;> replace hb0 := h) | ((first | (with_reducible refine isCall (f := 65) ?_; refine callA_nil (by kernel_rfl) ?_) | (with_reducible refine isCall0 (f := 65) ?_; refine callA0_nil (by kernel_rfl) ?_)); refine (rflimited_ok h1 h2 (fun _ h => absurd h hl2) (fun _ => ?_))) | (refine And.intro ?ob ?_; case ob => ((try simp only [sxO, ne_eq, maxLen] at *); omega)) | fail) <;> (try simp (config := { maxSteps := 1000000 }) only [hb0, h1.one, h2.one, ↓hold_pre, awayP, runOps, regK, step1, newK, genR, appR, obl, buildR, Value.cells, closeK, keepH, outV, retK, ret1, retC, RetV, Option.getD, runD, stepD, afterK, undef, simprocAttr, sxB, ↓sxD, sxE, sxTab]))
      exact hK.err _ hm
  · unfold exF at hK
    rw [if_neg (fun h => hl1 h.1)] at hK
    (replace hb0 := true_and True); refine Go1.mk ?_; repeat' ((first | (with_reducible refine Go1.go ?_) | ((with_reducible first | refine brv_mk ?_ ?_ | refine gsplitD ?_ ?_ | refine gsplitG ?_ ?_) <;> intro h <;> (try simp only [Bool.not_eq_true', Bool.not_eq_false'] at h) <;> replace hb0 := h) | ((first | (with_reducible refine isCall (f := 65) ?_; refine callA_nil (by kernel_rfl) ?_) | (with_reducible refine isCall0 (f := 65) ?_; refine callA0_nil (by kernel_rfl) ?_)); refine (rflimited_ok h1 h2 (fun h _ => absurd h hl1) (fun _ => ?_))) | (refine And.intro ?ob ?_; case ob => ((try simp only [sxO, ne_eq, maxLen] at *); omega)) | fail) <;> (try simp (config := { maxSteps := 1000000 }) only [hb0, h1.one, h2.one, ↓hold_pre, awayP, runOps, regK, step1, newK, genR, appR, obl, buildR, Value.cells, closeK, keepH, outV, retK, ret1, retC, RetV, Option.getD, runD, stepD, afterK, undef, simprocAttr, sxB, ↓sxD, sxE, sxTab]))
    exact hK.err _ hm
theorem rfsub_ok (ha : IsF M u1 u2 l1 l2) (hb : IsF M v1 v2 k1 k2) (hK : FracK M K (subF l1 l2 k1 k2)) : CallS Tryd.prog 25 [.ext (.agg #[u1, u2]), .ext (.agg #[v1, v2])] [] M [] K := by
  refine inlS (cs := []) Tryd.mixed Tryd.func25 rfl (by kernel_rfl) 0 rfl rfl ?_
  simp only [Tryd.f25]
  unfold subF at hK
  (replace hb0 := true_and True); refine Go1.mk ?_; repeat' ((first | (with_reducible refine Go1.go ?_) | ((with_reducible first | refine brv_mk ?_ ?_ | refine gsplitD ?_ ?_ | refine gsplitG ?_ ?_) <;> intro h <;> (try simp only [Bool.not_eq_true', Bool.not_eq_false'] at h) <;> replace hb0 := h) | ((first | (with_reducible refine isCall (f := 17) ?_; refine callA_nil (by kernel_rfl) ?_) | (with_reducible refine isCall0 (f := 17) ?_; refine callA0_nil (by kernel_rfl) ?_)); refine (rfcheck_ok ha.n ha.d ha.on ha.od ha.bn ha.bd (fun M1 m1 => Stop.mk ?_))) | (refine And.intro ?ob ?_; case ob => ((try simp only [sxO, ne_eq, maxLen] at *); omega)) | fail) <;> (try simp (config := { maxSteps := 1000000 }) only [hb0, ha.n.one, ha.d.one, hb.n.one, hb.d.one, ↓hold_pre, awayP, runOps, regK, step1, newK, genR, appR, obl, buildR, Value.cells, closeK, keepH, outV, retK, ret1, retC, RetV, Option.getD, runD, stepD, afterK, undef, simprocAttr, sxB, ↓sxD, sxE, sxTab]))
  have m1 : Mem.le M M1 := m1
  have ha1 := ha.le m1
  have hb1 := hb.le m1
  refine Stop.go ?_
  cases hc1 : chkF l1 l2 with
  | false =>
    rw [hc1] at hK
    (replace hb0 := true_and True); refine Go1.mk ?_; repeat' ((first | (with_reducible refine Go1.go ?_) | ((with_reducible first | refine brv_mk ?_ ?_ | refine gsplitD ?_ ?_ | refine gsplitG ?_ ?_) <;> intro h <;> (try simp only [Bool.not_eq_true', Bool.not_eq_false'] at h) <;> replace hb0 := h) | (refine And.intro ?ob ?_; case ob => ((try simp only [sxO, ne_eq, maxLen] at *); omega)) | fail) <;> (try simp (config := { maxSteps := 1000000 }) only [hb0, ha1.n.one, ha1.d.one, hb1.n.one, hb1.d.one, ↓hold_pre, awayP, runOps, regK, step1, newK, genR, appR, obl, buildR, Value.cells, closeK, keepH, outV, retK, ret1, retC, RetV, Option.getD, runD, stepD, afterK, undef, simprocAttr, sxB, ↓sxD, sxE, sxTab]))
    exact hK.err _ m1
  | true =>
  (replace hb0 := true_and True); refine Go1.mk ?_; repeat' ((first | (with_reducible refine Go1.go ?_) | ((with_reducible first | refine brv_mk ?_ ?_ | refine gsplitD ?_ ?_ | refine gsplitG ?_ ?_) <;> intro h <;> (try simp only [Bool.not_eq_true', Bool.not_eq_false'] at h) <;> replace hb0 := h) | ((first | (with_reducible refine isCall (f := 17) ?_; refine callA_nil (by kernel_rfl) ?_) | (with_reducible refine isCall0 (f := 17) ?_; refine callA0_nil (by kernel_rfl) ?_)); refine (rfcheck_ok hb1.n hb1.d hb1.on hb1.od hb1.bn hb1.bd (fun M2 m2 => Stop.mk ?_))) | (refine And.intro ?ob ?_; case ob => ((try simp only [sxO, ne_eq, maxLen] at *); omega)) | fail) <;> (try simp (config := { maxSteps := 1000000 }) only [hb0, ha1.n.one, ha1.d.one, hb1.n.one, hb1.d.one, ↓hold_pre, awayP, runOps, regK, step1, newK, genR, appR, obl, buildR, Value.cells, closeK, keepH, outV, retK, ret1, retC, RetV, Option.getD, runD, stepD, afterK, undef, simprocAttr, sxB, ↓sxD, sxE, sxTab]))
  have m2 : Mem.le M1 M2 := m2
  have ha2 := ha1.le m2
  have hb2 := hb1.le m2
  have hm := m1.trans m2
  refine Stop.go ?_
  cases hc2 : chkF k1 k2 with
  | false =>
    rw [hc1, hc2] at hK
    (replace hb0 := true_and True); refine Go1.mk ?_; repeat' ((first | (with_reducible refine Go1.go ?_) | ((with_reducible first | refine brv_mk ?_ ?_ | refine gsplitD ?_ ?_ | refine gsplitG ?_ ?_) <;> intro h <;> (try simp only [Bool.not_eq_true', Bool.not_eq_false'] at h) <;> replace hb0 := h) | (refine And.intro ?ob ?_; case ob => ((try simp only [sxO, ne_eq, maxLen] at *); omega)) | fail) <;> (try simp (config := { maxSteps := 1000000 }) only [hb0, ha2.n.one, ha2.d.one, hb2.n.one, hb2.d.one, ↓hold_pre, awayP, runOps, regK, step1, newK, genR, appR, obl, buildR, Value.cells, closeK, keepH, outV, retK, ret1, retC, RetV, Option.getD, runD, stepD, afterK, undef, simprocAttr, sxB, ↓sxD, sxE, sxTab]))
    exact hK.err _ hm
  | true =>
  rw [hc1, hc2, Bool.and_self, if_pos rfl] at hK
  obtain ⟨n1, d1, hn1, hd1, e1, e2, q1, q2, q3⟩ := ha2.num hc1
  obtain ⟨n2, d2, hn2, hd2, e3, e4, r1, r2, r3⟩ := hb2.num hc2
  rw [e1, e2, e3, e4] at hK
  have t1 := mul_len n1 d2
  have t2 := mul_len n2 d1
  have t3 := mul_len d1 d2
  have t4 := mul_len n1 n2
  have t0 : 0 < d1 * d2 := Nat.mul_pos q3 r3
  by_cases hlt : n1 * d2 < n2 * d1
  · have z1 : decide (cmpN (n1 * d2) (n2 * d1) < 0) = true := by rw [cmpN_lt hlt]; decide
    rw [if_pos hlt] at hK
    (replace hb0 := true_and True); refine Go1.mk ?_; repeat' ((first | (with_reducible refine Go1.go ?_) | ((with_reducible first | refine brv_mk ?_ ?_ | refine gsplitD ?_ ?_ | refine gsplitG ?_ ?_) <;> intro h <;> (try simp only [Bool.not_eq_true', Bool.not_eq_false'] at h) <;> replace hb0 := h) | ((first | (with_reducible refine isCall (f := 62) ?_; refine callA_nil (by kernel_rfl) ?_) | (with_reducible refine isCall0 (f := 62) ?_; refine callA0_nil (by kernel_rfl) ?_)); refine (rforder_ok hn1 hd1 hn2 hd2 (by omega) (by omega) (by omega) (by omega) (fun M3 m3 => Stop.mk ?_))) | (refine And.intro ?ob ?_; case ob => ((try simp only [sxO, ne_eq, maxLen] at *); omega)) | fail) <;> (try simp (config := { maxSteps := 1000000 }) only [hb0, hn1.one, hd1.one, hn2.one, hd2.one, z1, ↓hold_pre, awayP, runOps, regK, step1, newK, genR, appR, obl, buildR, Value.cells, closeK, keepH, outV, retK, ret1, retC, RetV, Option.getD, runD, stepD, afterK, undef, simprocAttr, sxB, ↓sxD, sxE, sxTab]))
    refine Stop.go ?_
    (replace hb0 := true_and True); refine Go1.mk ?_; repeat' ((first | (with_reducible refine Go1.go ?_) | ((with_reducible first | refine brv_mk ?_ ?_ | refine gsplitD ?_ ?_ | refine gsplitG ?_ ?_) <;> intro h <;> (try simp only [Bool.not_eq_true', Bool.not_eq_false'] at h) <;> replace hb0 := h) | (refine And.intro ?ob ?_; case ob => ((try simp only [sxO, ne_eq, maxLen] at *); omega)) | fail) <;> (try simp (config := { maxSteps := 1000000 }) only [hb0, hn1.one, hd1.one, hn2.one, hd2.one, z1, ↓hold_pre, awayP, runOps, regK, step1, newK, genR, appR, obl, buildR, Value.cells, closeK, keepH, outV, retK, ret1, retC, RetV, Option.getD, runD, stepD, afterK, undef, simprocAttr, sxB, ↓sxD, sxE, sxTab]))
    exact hK.err _ (hm.trans m3)
  have z1 : decide (cmpN (n1 * d2) (n2 * d1) < 0) = false := by
    rw [decide_eq_false_iff_not]; unfold cmpN; rw [if_neg hlt]; split <;> omega
  rw [if_neg hlt] at hK
  have t5 := len_mono (show n1 * d2 - n2 * d1 ≤ n1 * d2 by omega)
  (replace hb0 := true_and True); refine Go1.mk ?_; repeat' ((first | (with_reducible refine Go1.go ?_) | ((with_reducible first | refine brv_mk ?_ ?_ | refine gsplitD ?_ ?_ | refine gsplitG ?_ ?_) <;> intro h <;> (try simp only [Bool.not_eq_true', Bool.not_eq_false'] at h) <;> replace hb0 := h) | ((first | (with_reducible refine isCall (f := 62) ?_; refine callA_nil (by kernel_rfl) ?_) | (with_reducible refine isCall0 (f := 62) ?_; refine callA0_nil (by kernel_rfl) ?_)); refine (rforder_ok hn1 hd1 hn2 hd2 (by omega) (by omega) (by omega) (by omega) (fun M3 m3 => Stop.mk ?_))) | (refine And.intro ?ob ?_; case ob => ((try simp only [sxO, ne_eq, maxLen] at *); omega)) | fail) <;> (try simp (config := { maxSteps := 1000000 }) only [hb0, hn1.one, hd1.one, hn2.one, hd2.one, z1, ↓hold_pre, awayP, runOps, regK, step1, newK, genR, appR, obl, buildR, Value.cells, closeK, keepH, outV, retK, ret1, retC, RetV, Option.getD, runD, stepD, afterK, undef, simprocAttr, sxB, ↓sxD, sxE, sxTab]))
  have m3 : Mem.le M2 M3 := m3
  have hn1 := hn1.le m3
  have hd1 := hd1.le m3
  have hn2 := hn2.le m3
  have hd2 := hd2.le m3
  have hm := hm.trans m3
  refine Stop.go ?_
  (replace hb0 := true_and True); refine Go1.mk ?_; repeat' ((first | (with_reducible refine Go1.go ?_) | ((with_reducible first | refine brv_mk ?_ ?_ | refine gsplitD ?_ ?_ | refine gsplitG ?_ ?_) <;> intro h <;> (try simp only [Bool.not_eq_true', Bool.not_eq_false'] at h) <;> replace hb0 := h) | ((first | (with_reducible refine isCall (f := 69) ?_; refine callA_nil (by kernel_rfl) ?_) | (with_reducible refine isCall0 (f := 69) ?_; refine callA0_nil (by kernel_rfl) ?_)); refine (times_ok u1 v2 n1 d2 hn1 hd2 (by omega) (by omega) (fun wx M4 m4 hx fx => Stop.mk ?_))) | ((with_reducible refine isDraw [some 20, some 21, some 22, some 23, some 24, some 25, some 26, some 27, some 28, some 29, some 30, some 31, some 32, some 33, some 34, some 35, some 36, some 37, some 38, some 39, none, some 5] (by decide) ?_); refine draw_rule [(0, []), (1, []), (2, [1]), (3, [1]), (5, [1, 3]), (6, [1, 3]), (7, [1, 3, 6]), (8, [1, 3, 6]), (11, [1, 3, 6, 8]), (12, [1, 3, 6, 8]), (13, [1, 3, 6, 8, 12]), (14, [1, 3, 6, 8, 12]), (4, [6, 8, 12, 14]), (9, [12, 14]), (10, [12, 14]), (15, []), (16, []), (17, []), (18, []), (19, []), (20, []), (21, [])] [[], [0], [], [2], [0, 1, 2, 3], [], [5], [], [7], [0, 1, 2, 3, 4, 5, 6, 7, 8], [0, 1, 2, 3, 4, 5, 6, 7, 8, 9], [], [11], [], [13], [0, 1, 2, 3, 4, 5, 6, 7, 8, 9, 10, 11, 12, 13, 14], [0, 1, 2, 3, 4, 5, 6, 7, 8, 9, 10, 11, 12, 13, 14, 15], [0, 1, 2, 3, 4, 5, 6, 7, 8, 9, 10, 11, 12, 13, 14, 15, 16], [0, 1, 2, 3, 4, 5, 6, 7, 8, 9, 10, 11, 12, 13, 14, 15, 16, 17], [0, 1, 2, 3, 4, 5, 6, 7, 8, 9, 10, 11, 12, 13, 14, 15, 16, 17], [0, 1, 2, 3, 4, 5, 6, 7, 8, 9, 10, 11, 12, 13, 14, 15, 16, 17, 18, 19], [0, 1, 2, 3, 4, 5, 6, 7, 8, 9, 10, 11, 12, 13, 14, 15, 16, 17, 18, 19, 20]] [20, 21, 22, 23, 24, 25, 26, 27, 28, 29, 30, 31, 32, 33, 34, 38, 39] [] (by kernel_rfl) (by kernel_rfl) (by kernel_rfl) (by kernel_rfl) (by exact trivial) ?_) | (refine And.intro ?ob ?_; case ob => ((try simp only [sxO, ne_eq, maxLen] at *); omega)) | fail) <;> (try simp (config := { maxSteps := 1000000 }) only [hb0, hn1.one, hd1.one, hn2.one, hd2.one, z1, ↓hold_pre, awayP, runOps, regK, step1, newK, genR, appR, obl, buildR, Value.cells, closeK, keepH, outV, retK, ret1, retC, RetV, Option.getD, runD, stepD, afterK, undef, simprocAttr, sxB, ↓sxD, sxE, sxTab]))
  have m4 : Mem.le M3 M4 := m4
  have hn1 := hn1.le m4
  have hd1 := hd1.le m4
  have hn2 := hn2.le m4
  have hd2 := hd2.le m4
  have fx := fx.le hm
  have hm := hm.trans m4
  refine Stop.go ?_
  (replace hb0 := true_and True); refine Go1.mk ?_; repeat' ((first | (with_reducible refine Go1.go ?_) | ((with_reducible first | refine brv_mk ?_ ?_ | refine gsplitD ?_ ?_ | refine gsplitG ?_ ?_) <;> intro h <;> (try simp only [Bool.not_eq_true', Bool.not_eq_false'] at h) <;> replace hb0 := h) | ((first | (with_reducible refine isCall (f := 69) ?_; refine callA_nil (by kernel_rfl) ?_) | (with_reducible refine isCall0 (f := 69) ?_; refine callA0_nil (by kernel_rfl) ?_)); refine (times_ok v1 u2 n2 d1 hn2 hd1 (by omega) (by omega) (fun wy M5 m5 hy fy => Stop.mk ?_))) | ((with_reducible refine isDraw [some 20, some 21, some 22, some 23, some 24, some 25, some 26, some 27, some 28, some 29, some 30, some 31, some 32, some 33, some 34, some 35, some 36, some 37, some 38, some 39, none, some 5] (by decide) ?_); refine draw_rule [(0, []), (1, []), (2, [1]), (3, [1]), (5, [1, 3]), (6, [1, 3]), (7, [1, 3, 6]), (8, [1, 3, 6]), (11, [1, 3, 6, 8]), (12, [1, 3, 6, 8]), (13, [1, 3, 6, 8, 12]), (14, [1, 3, 6, 8, 12]), (4, [6, 8, 12, 14]), (9, [12, 14]), (10, [12, 14]), (15, []), (16, []), (17, []), (18, []), (19, []), (20, []), (21, [])] [[], [0], [], [2], [0, 1, 2, 3], [], [5], [], [7], [0, 1, 2, 3, 4, 5, 6, 7, 8], [0, 1, 2, 3, 4, 5, 6, 7, 8, 9], [], [11], [], [13], [0, 1, 2, 3, 4, 5, 6, 7, 8, 9, 10, 11, 12, 13, 14], [0, 1, 2, 3, 4, 5, 6, 7, 8, 9, 10, 11, 12, 13, 14, 15], [0, 1, 2, 3, 4, 5, 6, 7, 8, 9, 10, 11, 12, 13, 14, 15, 16], [0, 1, 2, 3, 4, 5, 6, 7, 8, 9, 10, 11, 12, 13, 14, 15, 16, 17], [0, 1, 2, 3, 4, 5, 6, 7, 8, 9, 10, 11, 12, 13, 14, 15, 16, 17], [0, 1, 2, 3, 4, 5, 6, 7, 8, 9, 10, 11, 12, 13, 14, 15, 16, 17, 18, 19], [0, 1, 2, 3, 4, 5, 6, 7, 8, 9, 10, 11, 12, 13, 14, 15, 16, 17, 18, 19, 20]] [20, 21, 22, 23, 24, 25, 26, 27, 28, 29, 30, 31, 32, 33, 34, 38, 39] [] (by kernel_rfl) (by kernel_rfl) (by kernel_rfl) (by kernel_rfl) (by exact trivial) ?_) | (refine And.intro ?ob ?_; case ob => ((try simp only [sxO, ne_eq, maxLen] at *); omega)) | fail) <;> (try simp (config := { maxSteps := 1000000 }) only [hb0, hn1.one, hd1.one, hn2.one, hd2.one, hx.one, ↓hold_pre, awayP, runOps, regK, step1, newK, genR, appR, obl, buildR, Value.cells, closeK, keepH, outV, retK, ret1, retC, RetV, Option.getD, runD, stepD, afterK, undef, simprocAttr, sxB, ↓sxD, sxE, sxTab]))
  have m5 : Mem.le M4 M5 := m5
  have hn1 := hn1.le m5
  have hd1 := hd1.le m5
  have hn2 := hn2.le m5
  have hd2 := hd2.le m5
  have hx := hx.le m5
  have fy := fy.le hm
  have hm := hm.trans m5
  refine Stop.go ?_
  (replace hb0 := true_and True); refine Go1.mk ?_; repeat' ((first | (with_reducible refine Go1.go ?_) | ((with_reducible first | refine brv_mk ?_ ?_ | refine gsplitD ?_ ?_ | refine gsplitG ?_ ?_) <;> intro h <;> (try simp only [Bool.not_eq_true', Bool.not_eq_false'] at h) <;> replace hb0 := h) | ((first | (with_reducible refine isCall (f := 68) ?_; refine callA_nil (by kernel_rfl) ?_) | (with_reducible refine isCall0 (f := 68) ?_; refine callA0_nil (by kernel_rfl) ?_)); refine (minus_ok wx wy _ _ hx hy (by omega) (by omega) (fun ws M6 m6 hs fs => Stop.mk ?_))) | ((with_reducible refine isDraw [some 20, some 21, some 22, some 23, some 24, some 25, some 26, some 27, some 28, some 29, some 30, some 31, some 32, some 33, some 34, some 35, some 36, some 37, some 38, some 39, none, some 5] (by decide) ?_); refine draw_rule [(0, []), (1, []), (2, [1]), (3, [1]), (5, [1, 3]), (6, [1, 3]), (7, [1, 3, 6]), (8, [1, 3, 6]), (11, [1, 3, 6, 8]), (12, [1, 3, 6, 8]), (13, [1, 3, 6, 8, 12]), (14, [1, 3, 6, 8, 12]), (4, [6, 8, 12, 14]), (9, [12, 14]), (10, [12, 14]), (15, []), (16, []), (17, []), (18, []), (19, []), (20, []), (21, [])] [[], [0], [], [2], [0, 1, 2, 3], [], [5], [], [7], [0, 1, 2, 3, 4, 5, 6, 7, 8], [0, 1, 2, 3, 4, 5, 6, 7, 8, 9], [], [11], [], [13], [0, 1, 2, 3, 4, 5, 6, 7, 8, 9, 10, 11, 12, 13, 14], [0, 1, 2, 3, 4, 5, 6, 7, 8, 9, 10, 11, 12, 13, 14, 15], [0, 1, 2, 3, 4, 5, 6, 7, 8, 9, 10, 11, 12, 13, 14, 15, 16], [0, 1, 2, 3, 4, 5, 6, 7, 8, 9, 10, 11, 12, 13, 14, 15, 16, 17], [0, 1, 2, 3, 4, 5, 6, 7, 8, 9, 10, 11, 12, 13, 14, 15, 16, 17], [0, 1, 2, 3, 4, 5, 6, 7, 8, 9, 10, 11, 12, 13, 14, 15, 16, 17, 18, 19], [0, 1, 2, 3, 4, 5, 6, 7, 8, 9, 10, 11, 12, 13, 14, 15, 16, 17, 18, 19, 20]] [20, 21, 22, 23, 24, 25, 26, 27, 28, 29, 30, 31, 32, 33, 34, 38, 39] [] (by kernel_rfl) (by kernel_rfl) (by kernel_rfl) (by kernel_rfl) (by exact trivial) ?_) | (refine And.intro ?ob ?_; case ob => ((try simp only [sxO, ne_eq, maxLen] at *); omega)) | fail) <;> (try simp (config := { maxSteps := 1000000 }) only [hb0, hn1.one, hd1.one, hn2.one, hd2.one, hx.one, hy.one, ↓hold_pre, awayP, runOps, regK, step1, newK, genR, appR, obl, buildR, Value.cells, closeK, keepH, outV, retK, ret1, retC, RetV, Option.getD, runD, stepD, afterK, undef, simprocAttr, sxB, ↓sxD, sxE, sxTab]))
  have m6 : Mem.le M5 M6 := m6
  have hn1 := hn1.le m6
  have hd1 := hd1.le m6
  have hn2 := hn2.le m6
  have hd2 := hd2.le m6
  have hx := hx.le m6
  have hy := hy.le m6
  have fs := fs.le hm
  have hm := hm.trans m6
  refine Stop.go ?_
  (replace hb0 := true_and True); refine Go1.mk ?_; repeat' ((first | (with_reducible refine Go1.go ?_) | ((with_reducible first | refine brv_mk ?_ ?_ | refine gsplitD ?_ ?_ | refine gsplitG ?_ ?_) <;> intro h <;> (try simp only [Bool.not_eq_true', Bool.not_eq_false'] at h) <;> replace hb0 := h) | ((first | (with_reducible refine isCall (f := 69) ?_; refine callA_nil (by kernel_rfl) ?_) | (with_reducible refine isCall0 (f := 69) ?_; refine callA0_nil (by kernel_rfl) ?_)); refine (times_ok u2 v2 d1 d2 hd1 hd2 (by omega) (by omega) (fun wp M7 m7 hp fp => Stop.mk ?_))) | ((with_reducible refine isDraw [some 20, some 21, some 22, some 23, some 24, some 25, some 26, some 27, some 28, some 29, some 30, some 31, some 32, some 33, some 34, some 35, some 36, some 37, some 38, some 39, none, some 5] (by decide) ?_); refine draw_rule [(0, []), (1, []), (2, [1]), (3, [1]), (5, [1, 3]), (6, [1, 3]), (7, [1, 3, 6]), (8, [1, 3, 6]), (11, [1, 3, 6, 8]), (12, [1, 3, 6, 8]), (13, [1, 3, 6, 8, 12]), (14, [1, 3, 6, 8, 12]), (4, [6, 8, 12, 14]), (9, [12, 14]), (10, [12, 14]), (15, []), (16, []), (17, []), (18, []), (19, []), (20, []), (21, [])] [[], [0], [], [2], [0, 1, 2, 3], [], [5], [], [7], [0, 1, 2, 3, 4, 5, 6, 7, 8], [0, 1, 2, 3, 4, 5, 6, 7, 8, 9], [], [11], [], [13], [0, 1, 2, 3, 4, 5, 6, 7, 8, 9, 10, 11, 12, 13, 14], [0, 1, 2, 3, 4, 5, 6, 7, 8, 9, 10, 11, 12, 13, 14, 15], [0, 1, 2, 3, 4, 5, 6, 7, 8, 9, 10, 11, 12, 13, 14, 15, 16], [0, 1, 2, 3, 4, 5, 6, 7, 8, 9, 10, 11, 12, 13, 14, 15, 16, 17], [0, 1, 2, 3, 4, 5, 6, 7, 8, 9, 10, 11, 12, 13, 14, 15, 16, 17], [0, 1, 2, 3, 4, 5, 6, 7, 8, 9, 10, 11, 12, 13, 14, 15, 16, 17, 18, 19], [0, 1, 2, 3, 4, 5, 6, 7, 8, 9, 10, 11, 12, 13, 14, 15, 16, 17, 18, 19, 20]] [20, 21, 22, 23, 24, 25, 26, 27, 28, 29, 30, 31, 32, 33, 34, 38, 39] [] (by kernel_rfl) (by kernel_rfl) (by kernel_rfl) (by kernel_rfl) (by exact trivial) ?_) | (refine And.intro ?ob ?_; case ob => ((try simp only [sxO, ne_eq, maxLen] at *); omega)) | fail) <;> (try simp (config := { maxSteps := 1000000 }) only [hb0, hn1.one, hd1.one, hn2.one, hd2.one, hx.one, hy.one, hs.one, ↓hold_pre, awayP, runOps, regK, step1, newK, genR, appR, obl, buildR, Value.cells, closeK, keepH, outV, retK, ret1, retC, RetV, Option.getD, runD, stepD, afterK, undef, simprocAttr, sxB, ↓sxD, sxE, sxTab]))
  have m7 : Mem.le M6 M7 := m7
  have hn1 := hn1.le m7
  have hd1 := hd1.le m7
  have hn2 := hn2.le m7
  have hd2 := hd2.le m7
  have hx := hx.le m7
  have hy := hy.le m7
  have hs := hs.le m7
  have fp := fp.le hm
  have hm := hm.trans m7
  refine Stop.go ?_
  (replace hb0 := true_and True); refine Go1.mk ?_; repeat' ((first | (with_reducible refine Go1.go ?_) | ((with_reducible first | refine brv_mk ?_ ?_ | refine gsplitD ?_ ?_ | refine gsplitG ?_ ?_) <;> intro h <;> (try simp only [Bool.not_eq_true', Bool.not_eq_false'] at h) <;> replace hb0 := h) | ((first | (with_reducible refine isCall (f := 53) ?_; refine callA_nil (by kernel_rfl) ?_) | (with_reducible refine isCall0 (f := 53) ?_; refine callA0_nil (by kernel_rfl) ?_)); refine (rlowest_ok ws wp _ _ hs hp (by omega) (by omega) t0 (fun w1 w2 M8 m8 h1 h2 f1 f2 => Stop.mk ?_))) | ((with_reducible refine isDraw [some 20, some 21, some 22, some 23, some 24, some 25, some 26, some 27, some 28, some 29, some 30, some 31, some 32, some 33, some 34, some 35, some 36, some 37, some 38, some 39, none, some 5] (by decide) ?_); refine draw_rule [(0, []), (1, []), (2, [1]), (3, [1]), (5, [1, 3]), (6, [1, 3]), (7, [1, 3, 6]), (8, [1, 3, 6]), (11, [1, 3, 6, 8]), (12, [1, 3, 6, 8]), (13, [1, 3, 6, 8, 12]), (14, [1, 3, 6, 8, 12]), (4, [6, 8, 12, 14]), (9, [12, 14]), (10, [12, 14]), (15, []), (16, []), (17, []), (18, []), (19, []), (20, []), (21, [])] [[], [0], [], [2], [0, 1, 2, 3], [], [5], [], [7], [0, 1, 2, 3, 4, 5, 6, 7, 8], [0, 1, 2, 3, 4, 5, 6, 7, 8, 9], [], [11], [], [13], [0, 1, 2, 3, 4, 5, 6, 7, 8, 9, 10, 11, 12, 13, 14], [0, 1, 2, 3, 4, 5, 6, 7, 8, 9, 10, 11, 12, 13, 14, 15], [0, 1, 2, 3, 4, 5, 6, 7, 8, 9, 10, 11, 12, 13, 14, 15, 16], [0, 1, 2, 3, 4, 5, 6, 7, 8, 9, 10, 11, 12, 13, 14, 15, 16, 17], [0, 1, 2, 3, 4, 5, 6, 7, 8, 9, 10, 11, 12, 13, 14, 15, 16, 17], [0, 1, 2, 3, 4, 5, 6, 7, 8, 9, 10, 11, 12, 13, 14, 15, 16, 17, 18, 19], [0, 1, 2, 3, 4, 5, 6, 7, 8, 9, 10, 11, 12, 13, 14, 15, 16, 17, 18, 19, 20]] [20, 21, 22, 23, 24, 25, 26, 27, 28, 29, 30, 31, 32, 33, 34, 38, 39] [] (by kernel_rfl) (by kernel_rfl) (by kernel_rfl) (by kernel_rfl) (by exact trivial) ?_) | (refine And.intro ?ob ?_; case ob => ((try simp only [sxO, ne_eq, maxLen] at *); omega)) | fail) <;> (try simp (config := { maxSteps := 1000000 }) only [hb0, hn1.one, hd1.one, hn2.one, hd2.one, hx.one, hy.one, hs.one, hp.one, ↓hold_pre, awayP, runOps, regK, step1, newK, genR, appR, obl, buildR, Value.cells, closeK, keepH, outV, retK, ret1, retC, RetV, Option.getD, runD, stepD, afterK, undef, simprocAttr, sxB, ↓sxD, sxE, sxTab]))
  have m8 : Mem.le M7 M8 := m8
  have hn1 := hn1.le m8
  have hd1 := hd1.le m8
  have hn2 := hn2.le m8
  have hd2 := hd2.le m8
  have hx := hx.le m8
  have hy := hy.le m8
  have hs := hs.le m8
  have hp := hp.le m8
  have f1 := f1.le hm
  have f2 := f2.le hm
  have hm := hm.trans m8
  refine Stop.go ?_
  by_cases hl1 : (ofN ((n1 * d2 - n2 * d1) / Nat.gcd ((n1 * d2 - n2 * d1)) ((d1 * d2)))).length ≤ 128
  · by_cases hl2 : (ofN ((d1 * d2) / Nat.gcd ((n1 * d2 - n2 * d1)) ((d1 * d2)))).length ≤ 128
    · unfold exF at hK
      rw [if_pos ⟨hl1, hl2⟩] at hK
      (replace hb0 := true_and True); refine Go1.mk ?_; repeat' ((first | (with_reducible refine Go1.go ?_) | ((with_reducible first | refine brv_mk ?_ ?_ | refine gsplitD ?_ ?_ | refine gsplitG ?_ ?_) <;> intro h <;> (try simp only [Bool.not_eq_true', Bool.not_eq_false'] at h) <;> replace hb0 := h) | ((first | (with_reducible refine isCall (f := 65) ?_; refine callA_nil (by kernel_rfl) ?_) | (with_reducible refine isCall0 (f := 65) ?_; refine callA0_nil (by kernel_rfl) ?_)); refine (rflimited_ok h1 h2 (fun _ _ => ?_) (fun h => absurd h (fun h => h.elim (fun h => by omega) (fun h => by omega))))) | (refine And.intro ?ob ?_; case ob => ((try simp only [sxO, ne_eq, maxLen] at *); omega)) | fail) <;> (try simp (config := { maxSteps := 1000000 }) only [hb0, h1.one, h2.one, ↓hold_pre, awayP, runOps, regK, step1, newK, genR, appR, obl, buildR, Value.cells, closeK, keepH, outV, retK, ret1, retC, RetV, Option.getD, runD, stepD, afterK, undef, simprocAttr, sxB, ↓sxD, sxE, sxTab]))
      exact hK _ _ _ hm h1 h2 f1 f2
    · unfold exF at hK
      rw [if_neg (fun h => hl2 h.2)] at hK
      (replace hb0 := true_and True); refine Go1.mk ?_; repeat' ((first | (with_reducible refine Go1.go ?_) | ((with_reducible first | refine brv_mk ?_ ?_ | refine gsplitD ?_ ?_ | refine gsplitG ?_ ?_) <;> intro h <;> (try simp only [Bool.not_eq_true', Bool.not_eq_false'] at h) <;> replace hb0 := h) | ((first | (with_reducible refine isCall (f := 65) ?_; refine callA_nil (by kernel_rfl) ?_) | (with_reducible refine isCall0 (f := 65) ?_; refine callA0_nil (by kernel_rfl) ?_)); refine (rflimited_ok h1 h2 (fun _ h => absurd h hl2) (fun _ => ?_))) | (refine And.intro ?ob ?_; case ob => ((try simp only [sxO, ne_eq, maxLen] at *); omega)) | fail) <;> (try simp (config := { maxSteps := 1000000 }) only [hb0, h1.one, h2.one, ↓hold_pre, awayP, runOps, regK, step1, newK, genR, appR, obl, buildR, Value.cells, closeK, keepH, outV, retK, ret1, retC, RetV, Option.getD, runD, stepD, afterK, undef, simprocAttr, sxB, ↓sxD, sxE, sxTab]))
      exact hK.err _ hm
  · unfold exF at hK
    rw [if_neg (fun h => hl1 h.1)] at hK
    (replace hb0 := true_and True); refine Go1.mk ?_; repeat' ((first | (with_reducible refine Go1.go ?_) | ((with_reducible first | refine brv_mk ?_ ?_ | refine gsplitD ?_ ?_ | refine gsplitG ?_ ?_) <;> intro h <;> (try simp only [Bool.not_eq_true', Bool.not_eq_false'] at h) <;> replace hb0 := h) | ((first | (with_reducible refine isCall (f := 65) ?_; refine callA_nil (by kernel_rfl) ?_) | (with_reducible refine isCall0 (f := 65) ?_; refine callA0_nil (by kernel_rfl) ?_)); refine (rflimited_ok h1 h2 (fun h _ => absurd h hl1) (fun _ => ?_))) | (refine And.intro ?ob ?_; case ob => ((try simp only [sxO, ne_eq, maxLen] at *); omega)) | fail) <;> (try simp (config := { maxSteps := 1000000 }) only [hb0, h1.one, h2.one, ↓hold_pre, awayP, runOps, regK, step1, newK, genR, appR, obl, buildR, Value.cells, closeK, keepH, outV, retK, ret1, retC, RetV, Option.getD, runD, stepD, afterK, undef, simprocAttr, sxB, ↓sxD, sxE, sxTab]))
    exact hK.err _ hm
end
end Go.Proofs.YtamghpnjdohnjaaDoor.Sx
namespace Go.Proofs.YtamghpnjdohnjaaDoor.Sx
open Go Go.RowKit
set_option linter.unusedVariables false
set_option linter.unusedSimpArgs false
set_option maxRecDepth 100000
set_option maxHeartbeats 8000000
attribute [local congr] fin_congr finG_congr stepG_congr step1_congr runOps_congr brv_congr obl_congr condK_congr LoopK_congr seqK_congr CutK_congr vc_congr DrawK_congr regK_congr CallK_congr AskK_congr newK_congr retC_congr ret1_congr retK_congr outV_congr closeK_congr genR_congr appR_congr finD_congr finGD_congr stepGD_congr stepD_congr CallK0_congr runD_congr okR_congr CallS_congr vcX_congr
attribute [local congr] Stop_congr
theorem exF_len (n d : Nat) : (ofN (exF n d).2.1).length ≤ 128 ∧ (ofN (exF n d).2.2).length ≤ 128 := by
  unfold exF
  split
  · assumption
  · simp only [ofN_zero]; simp
section
variable {M : Mem} {K : AV → Hp → Mem → Prop}
end
end Go.Proofs.YtamghpnjdohnjaaDoor.Sx
namespace Go.Proofs.YtamghpnjdohnjaaDoor.Sx
open Go Go.RowKit
set_option linter.unusedVariables false
set_option linter.unusedSimpArgs false
set_option maxRecDepth 100000
set_option maxHeartbeats 8000000
attribute [local congr] fin_congr finG_congr stepG_congr step1_congr runOps_congr brv_congr obl_congr condK_congr LoopK_congr seqK_congr CutK_congr vc_congr DrawK_congr regK_congr CallK_congr AskK_congr newK_congr retC_congr ret1_congr retK_congr outV_congr closeK_congr genR_congr appR_congr finD_congr finGD_congr stepGD_congr stepD_congr CallK0_congr runD_congr okR_congr CallS_congr vcX_congr
attribute [local congr] Stop_congr
theorem addF_len (a b c d : List Nat) : (ofN (addF a b c d).2.1).length ≤ 128 ∧ (ofN (addF a b c d).2.2).length ≤ 128 := by
  unfold addF
  split
  · exact exF_len _ _
  · simp only [ofN_zero]; simp
theorem mulF_len (a b c d : List Nat) : (ofN (mulF a b c d).2.1).length ≤ 128 ∧ (ofN (mulF a b c d).2.2).length ≤ 128 := by
  unfold mulF
  split
  · exact exF_len _ _
  · simp only [ofN_zero]; simp
theorem subF_len (a b c d : List Nat) : (ofN (subF a b c d).2.1).length ≤ 128 ∧ (ofN (subF a b c d).2.2).length ≤ 128 := by
  unfold subF
  split
  · split
    · simp only [ofN_zero]; simp
    · exact exF_len _ _
  · simp only [ofN_zero]; simp
theorem divF_len (a b c d : List Nat) : (ofN (divF a b c d).2.1).length ≤ 128 ∧ (ofN (divF a b c d).2.2).length ≤ 128 := by
  unfold divF
  split
  · split
    · simp only [ofN_zero]; simp
    · exact exF_len _ _
  · simp only [ofN_zero]; simp
section
variable {M : Mem} {K : AV → Hp → Mem → Prop}
theorem computes_ok (u v u' v' : Value) (i1 i2 i3 i4 : List Int) (z : Int) (hu : IsL M (intVk .u32) u i1) (hv : IsL M (intVk .u32) v i2) (hu' : IsL M (intVk .u32) u' i3) (hv' : IsL M (intVk .u32) v' i4) (o1 : ∀ x ∈ i1, (Lit.int .u32 x).wf = true) (o2 : ∀ x ∈ i2, (Lit.int .u32 x).wf = true) (o3 : ∀ x ∈ i3, (Lit.int .u32 x).wf = true) (o4 : ∀ x ∈ i4, (Lit.int .u32 x).wf = true)
    (hK : ∀ M', Mem.le M M' → K (.ext (.bool true)) [] M') : CallS Tryd.prog 4 [.ext u, .ext v, .ext u', .ext v', .ext (.int .i64 z)] [] M [] K := by
  obtain ⟨hu, o1⟩ := nats_of hu o1
  obtain ⟨hv, o2⟩ := nats_of hv o2
  obtain ⟨hu', o3⟩ := nats_of hu' o3
  obtain ⟨hv', o4⟩ := nats_of hv' o4
  generalize i1.map Int.toNat = i1 at *
  generalize i2.map Int.toNat = i2 at *
  generalize i3.map Int.toNat = i3 at *
  generalize i4.map Int.toNat = i4 at *
  refine inlS (cs := []) Tryd.mixed Tryd.func4 rfl (by kernel_rfl) 0 rfl rfl ?_
  simp only [Tryd.f4]
  have n7 : ((7 : Int) ≠ 0) = True := by decide
  (replace hb0 := true_and True); refine Go1.mk ?_; repeat' ((first | (with_reducible refine Go1.go ?_) | ((with_reducible first | refine brv_mk ?_ ?_ | refine gsplitD ?_ ?_ | refine gsplitG ?_ ?_) <;> intro h <;> (try simp only [Bool.not_eq_true', Bool.not_eq_false'] at h) <;> replace hb0 := h) | ((first | (with_reducible refine isCall (f := 19) ?_; refine callA_nil (by kernel_rfl) ?_) | (with_reducible refine isCall0 (f := 19) ?_; refine callA0_nil (by kernel_rfl) ?_)); refine (frac_ok u v i1 i2 z hu hv o1 o2 (fun a1 a2 M1 al ad m1 ha ab1 ab2 _ => Stop.mk ?_))) | (refine And.intro ?ob ?_; case ob => ((try simp only [sxO, ne_eq, maxLen] at *); omega)) | fail) <;> (try simp (config := { maxSteps := 1000000 }) only [hb0, hu.one, hv.one, hu'.one, hv'.one, n7, ↓hold_pre, awayP, runOps, regK, step1, newK, genR, appR, obl, buildR, Value.cells, closeK, keepH, outV, retK, ret1, retC, RetV, Option.getD, runD, stepD, afterK, undef, simprocAttr, sxB, ↓sxD, sxE, sxTab]))
  have m1 : Mem.le M M1 := m1
  have hu := hu.le m1
  have hv := hv.le m1
  have hu' := hu'.le m1
  have hv' := hv'.le m1
  have hm := m1
  refine Stop.go ?_
  (replace hb0 := true_and True); refine Go1.mk ?_; repeat' ((first | (with_reducible refine Go1.go ?_) | ((with_reducible first | refine brv_mk ?_ ?_ | refine gsplitD ?_ ?_ | refine gsplitG ?_ ?_) <;> intro h <;> (try simp only [Bool.not_eq_true', Bool.not_eq_false'] at h) <;> replace hb0 := h) | ((first | (with_reducible refine isCall (f := 19) ?_; refine callA_nil (by kernel_rfl) ?_) | (with_reducible refine isCall0 (f := 19) ?_; refine callA0_nil (by kernel_rfl) ?_)); refine (frac_ok u' v' i3 i4 _ hu' hv' o3 o4 (fun b1 b2 M2 bl bd m2 hb bb1 bb2 _ => Stop.mk ?_))) | (refine And.intro ?ob ?_; case ob => ((try simp only [sxO, ne_eq, maxLen] at *); omega)) | fail) <;> (try simp (config := { maxSteps := 1000000 }) only [hb0, hu.one, hv.one, hu'.one, hv'.one, ha.n.one, ha.d.one, n7, ↓hold_pre, awayP, runOps, regK, step1, newK, genR, appR, obl, buildR, Value.cells, closeK, keepH, outV, retK, ret1, retC, RetV, Option.getD, runD, stepD, afterK, undef, simprocAttr, sxB, ↓sxD, sxE, sxTab]))
  have m2 : Mem.le M1 M2 := m2
  have hu := hu.le m2
  have hv := hv.le m2
  have hu' := hu'.le m2
  have hv' := hv'.le m2
  have ha := ha.le m2
  have hm := hm.trans m2
  refine Stop.go ?_
  clear hu hv hu' hv' o1 o2 o3 o4
  have e0 : decide (cmpF al ad bl bd = cmpF al ad bl bd) = true := by simp
  obtain ⟨ax, ay⟩ := addF_len al ad bl bd
  obtain ⟨sx, sy⟩ := subF_len al ad bl bd
  obtain ⟨mx, my⟩ := mulF_len al ad bl bd
  obtain ⟨dx, dy⟩ := divF_len al ad bl bd
  (replace hb0 := true_and True); refine Go1.mk ?_; repeat' ((first | (with_reducible refine Go1.go ?_) | ((with_reducible first | refine brv_mk ?_ ?_ | refine gsplitD ?_ ?_ | refine gsplitG ?_ ?_) <;> intro h <;> (try simp only [Bool.not_eq_true', Bool.not_eq_false'] at h) <;> replace hb0 := h) | ((first | (with_reducible refine isCall (f := 20) ?_; refine callA_nil (by kernel_rfl) ?_) | (with_reducible refine isCall0 (f := 20) ?_; refine callA0_nil (by kernel_rfl) ?_)); refine (fcmp_ok ha hb (fun M3 m3 => Stop.mk ?_))) | ((with_reducible refine isDraw [some 26, some 27, some 28, some 29, some 30, some 31, some 32] (by decide) ?_); refine draw_rule [(0, []), (1, [0]), (3, [0, 1]), (4, [0, 1, 3]), (2, [3, 4]), (5, []), (6, [])] [[], [], [0, 1], [], [], [0, 1, 2, 3, 4], [0, 1, 2, 3, 4, 5]] [26, 27, 28, 29, 30] [] (by kernel_rfl) (by kernel_rfl) (by kernel_rfl) (by kernel_rfl) (by exact trivial) ?_) | (refine And.intro ?ob ?_; case ob => ((try simp only [sxO, ne_eq, maxLen] at *); omega)) | fail) <;> (try simp (config := { maxSteps := 1000000 }) only [hb0, ha.n.one, ha.d.one, hb.n.one, hb.d.one, ↓hold_pre, awayP, runOps, regK, step1, newK, genR, appR, obl, buildR, Value.cells, closeK, keepH, outV, retK, ret1, retC, RetV, Option.getD, runD, stepD, afterK, undef, simprocAttr, sxB, ↓sxD, sxE, sxTab]))
  have m3 : Mem.le M2 M3 := m3
  have ha := ha.le m3
  have hb := hb.le m3
  have hm := hm.trans m3
  refine Stop.go ?_
  (replace hb0 := true_and True); refine Go1.mk ?_; repeat' ((first | (with_reducible refine Go1.go ?_) | ((with_reducible first | refine brv_mk ?_ ?_ | refine gsplitD ?_ ?_ | refine gsplitG ?_ ?_) <;> intro h <;> (try simp only [Bool.not_eq_true', Bool.not_eq_false'] at h) <;> replace hb0 := h) | ((first | (with_reducible refine isCall (f := 21) ?_; refine callA_nil (by kernel_rfl) ?_) | (with_reducible refine isCall0 (f := 21) ?_; refine callA0_nil (by kernel_rfl) ?_)); refine (rfcmp_ok ha hb (fun M4 m4 => Stop.mk ?_))) | ((with_reducible refine isDraw [some 26, some 27, some 28, some 29, some 30, some 31, some 32] (by decide) ?_); refine draw_rule [(0, []), (1, [0]), (3, [0, 1]), (4, [0, 1, 3]), (2, [3, 4]), (5, []), (6, [])] [[], [], [0, 1], [], [], [0, 1, 2, 3, 4], [0, 1, 2, 3, 4, 5]] [26, 27, 28, 29, 30] [] (by kernel_rfl) (by kernel_rfl) (by kernel_rfl) (by kernel_rfl) (by exact trivial) ?_) | (refine And.intro ?ob ?_; case ob => ((try simp only [sxO, ne_eq, maxLen] at *); omega)) | fail) <;> (try simp (config := { maxSteps := 1000000 }) only [hb0, ha.n.one, ha.d.one, hb.n.one, hb.d.one, ↓hold_pre, awayP, runOps, regK, step1, newK, genR, appR, obl, buildR, Value.cells, closeK, keepH, outV, retK, ret1, retC, RetV, Option.getD, runD, stepD, afterK, undef, simprocAttr, sxB, ↓sxD, sxE, sxTab]))
  have m4 : Mem.le M3 M4 := m4
  have ha := ha.le m4
  have hb := hb.le m4
  have hm := hm.trans m4
  refine Stop.go ?_
  (replace hb0 := true_and True); refine Go1.mk ?_; repeat' ((first | (with_reducible refine Go1.go ?_) | ((with_reducible first | refine brv_mk ?_ ?_ | refine gsplitD ?_ ?_ | refine gsplitG ?_ ?_) <;> intro h <;> (try simp only [Bool.not_eq_true', Bool.not_eq_false'] at h) <;> replace hb0 := h) | ((first | (with_reducible refine isCall (f := 22) ?_; refine callA_nil (by kernel_rfl) ?_) | (with_reducible refine isCall0 (f := 22) ?_; refine callA0_nil (by kernel_rfl) ?_)); refine (fadd_ok ha hb (fun w0a w0b M5 m5 h0a h0b f0a f0b => Stop.mk ?_))) | (refine And.intro ?ob ?_; case ob => ((try simp only [sxO, ne_eq, maxLen] at *); omega)) | fail) <;> (try simp (config := { maxSteps := 1000000 }) only [hb0, ha.n.one, ha.d.one, hb.n.one, hb.d.one, e0, ↓hold_pre, awayP, runOps, regK, step1, newK, genR, appR, obl, buildR, Value.cells, closeK, keepH, outV, retK, ret1, retC, RetV, Option.getD, runD, stepD, afterK, undef, simprocAttr, sxB, ↓sxD, sxE, sxTab]))
  have m5 : Mem.le M4 M5 := m5
  have ha := ha.le m5
  have hb := hb.le m5
  have f0a := f0a.le hm
  have f0b := f0b.le hm
  have hm := hm.trans m5
  refine Stop.go ?_
  (replace hb0 := true_and True); refine Go1.mk ?_; repeat' ((first | (with_reducible refine Go1.go ?_) | ((with_reducible first | refine brv_mk ?_ ?_ | refine gsplitD ?_ ?_ | refine gsplitG ?_ ?_) <;> intro h <;> (try simp only [Bool.not_eq_true', Bool.not_eq_false'] at h) <;> replace hb0 := h) | ((first | (with_reducible refine isCall (f := 23) ?_; refine callA_nil (by kernel_rfl) ?_) | (with_reducible refine isCall0 (f := 23) ?_; refine callA0_nil (by kernel_rfl) ?_)); refine (rfadd_ok ha hb (fun w0c w0d M6 m6 h0c h0d f0c f0d => Stop.mk ?_))) | (refine And.intro ?ob ?_; case ob => ((try simp only [sxO, ne_eq, maxLen] at *); omega)) | fail) <;> (try simp (config := { maxSteps := 1000000 }) only [hb0, h0a.one, h0b.one, ha.n.one, ha.d.one, hb.n.one, hb.d.one, ↓hold_pre, awayP, runOps, regK, step1, newK, genR, appR, obl, buildR, Value.cells, closeK, keepH, outV, retK, ret1, retC, RetV, Option.getD, runD, stepD, afterK, undef, simprocAttr, sxB, ↓sxD, sxE, sxTab]))
  have m6 : Mem.le M5 M6 := m6
  have h0a := h0a.le m6
  have h0b := h0b.le m6
  have ha := ha.le m6
  have hb := hb.le m6
  have f0c := f0c.le hm
  have f0d := f0d.le hm
  have hm := hm.trans m6
  refine Stop.go ?_
  (replace hb0 := true_and True); refine Go1.mk ?_; repeat' ((first | (with_reducible refine Go1.go ?_) | ((with_reducible first | refine brv_mk ?_ ?_ | refine gsplitD ?_ ?_ | refine gsplitG ?_ ?_) <;> intro h <;> (try simp only [Bool.not_eq_true', Bool.not_eq_false'] at h) <;> replace hb0 := h) | ((first | (with_reducible refine isCall (f := 15) ?_; refine callA_nil (by kernel_rfl) ?_) | (with_reducible refine isCall0 (f := 15) ?_; refine callA0_nil (by kernel_rfl) ?_)); refine (same02_ok _ h0a h0b h0c h0d (by omega) (by omega) ?_)) | ((first | (with_reducible refine isCall (f := 24) ?_; refine callA_nil (by kernel_rfl) ?_) | (with_reducible refine isCall0 (f := 24) ?_; refine callA0_nil (by kernel_rfl) ?_)); refine (fsub_ok ha hb (fun w1a w1b M7 m7 h1a h1b f1a f1b => Stop.mk ?_))) | (refine And.intro ?ob ?_; case ob => ((try simp only [sxO, ne_eq, maxLen] at *); omega)) | fail) <;> (try simp (config := { maxSteps := 1000000 }) only [hb0, h0a.one, h0b.one, h0c.one, h0d.one, ha.n.one, ha.d.one, hb.n.one, hb.d.one, ↓hold_pre, awayP, runOps, regK, step1, newK, genR, appR, obl, buildR, Value.cells, closeK, keepH, outV, retK, ret1, retC, RetV, Option.getD, runD, stepD, afterK, undef, simprocAttr, sxB, ↓sxD, sxE, sxTab]))
  have m7 : Mem.le M6 M7 := m7
  have h0a := h0a.le m7
  have h0b := h0b.le m7
  have h0c := h0c.le m7
  have h0d := h0d.le m7
  have ha := ha.le m7
  have hb := hb.le m7
  have f1a := f1a.le hm
  have f1b := f1b.le hm
  have hm := hm.trans m7
  refine Stop.go ?_
  (replace hb0 := true_and True); refine Go1.mk ?_; repeat' ((first | (with_reducible refine Go1.go ?_) | ((with_reducible first | refine brv_mk ?_ ?_ | refine gsplitD ?_ ?_ | refine gsplitG ?_ ?_) <;> intro h <;> (try simp only [Bool.not_eq_true', Bool.not_eq_false'] at h) <;> replace hb0 := h) | ((first | (with_reducible refine isCall (f := 25) ?_; refine callA_nil (by kernel_rfl) ?_) | (with_reducible refine isCall0 (f := 25) ?_; refine callA0_nil (by kernel_rfl) ?_)); refine (rfsub_ok ha hb (fun w1c w1d M8 m8 h1c h1d f1c f1d => Stop.mk ?_))) | (refine And.intro ?ob ?_; case ob => ((try simp only [sxO, ne_eq, maxLen] at *); omega)) | fail) <;> (try simp (config := { maxSteps := 1000000 }) only [hb0, h1a.one, h1b.one, ha.n.one, ha.d.one, hb.n.one, hb.d.one, ↓hold_pre, awayP, runOps, regK, step1, newK, genR, appR, obl, buildR, Value.cells, closeK, keepH, outV, retK, ret1, retC, RetV, Option.getD, runD, stepD, afterK, undef, simprocAttr, sxB, ↓sxD, sxE, sxTab]))
  have m8 : Mem.le M7 M8 := m8
  have h1a := h1a.le m8
  have h1b := h1b.le m8
  have ha := ha.le m8
  have hb := hb.le m8
  have f1c := f1c.le hm
  have f1d := f1d.le hm
  have hm := hm.trans m8
  refine Stop.go ?_
  (replace hb0 := true_and True); refine Go1.mk ?_; repeat' ((first | (with_reducible refine Go1.go ?_) | ((with_reducible first | refine brv_mk ?_ ?_ | refine gsplitD ?_ ?_ | refine gsplitG ?_ ?_) <;> intro h <;> (try simp only [Bool.not_eq_true', Bool.not_eq_false'] at h) <;> replace hb0 := h) | ((first | (with_reducible refine isCall (f := 15) ?_; refine callA_nil (by kernel_rfl) ?_) | (with_reducible refine isCall0 (f := 15) ?_; refine callA0_nil (by kernel_rfl) ?_)); refine (same02_ok _ h1a h1b h1c h1d (by omega) (by omega) ?_)) | ((first | (with_reducible refine isCall (f := 26) ?_; refine callA_nil (by kernel_rfl) ?_) | (with_reducible refine isCall0 (f := 26) ?_; refine callA0_nil (by kernel_rfl) ?_)); refine (fmul_ok ha hb (fun w2a w2b M9 m9 h2a h2b f2a f2b => Stop.mk ?_))) | (refine And.intro ?ob ?_; case ob => ((try simp only [sxO, ne_eq, maxLen] at *); omega)) | fail) <;> (try simp (config := { maxSteps := 1000000 }) only [hb0, h1a.one, h1b.one, h1c.one, h1d.one, ha.n.one, ha.d.one, hb.n.one, hb.d.one, ↓hold_pre, awayP, runOps, regK, step1, newK, genR, appR, obl, buildR, Value.cells, closeK, keepH, outV, retK, ret1, retC, RetV, Option.getD, runD, stepD, afterK, undef, simprocAttr, sxB, ↓sxD, sxE, sxTab]))
  have m9 : Mem.le M8 M9 := m9
  have h1a := h1a.le m9
  have h1b := h1b.le m9
  have h1c := h1c.le m9
  have h1d := h1d.le m9
  have ha := ha.le m9
  have hb := hb.le m9
  have f2a := f2a.le hm
  have f2b := f2b.le hm
  have hm := hm.trans m9
  refine Stop.go ?_
  (replace hb0 := true_and True); refine Go1.mk ?_; repeat' ((first | (with_reducible refine Go1.go ?_) | ((with_reducible first | refine brv_mk ?_ ?_ | refine gsplitD ?_ ?_ | refine gsplitG ?_ ?_) <;> intro h <;> (try simp only [Bool.not_eq_true', Bool.not_eq_false'] at h) <;> replace hb0 := h) | ((first | (with_reducible refine isCall (f := 27) ?_; refine callA_nil (by kernel_rfl) ?_) | (with_reducible refine isCall0 (f := 27) ?_; refine callA0_nil (by kernel_rfl) ?_)); refine (rfmul_ok ha hb (fun w2c w2d M10 m10 h2c h2d f2c f2d => Stop.mk ?_))) | (refine And.intro ?ob ?_; case ob => ((try simp only [sxO, ne_eq, maxLen] at *); omega)) | fail) <;> (try simp (config := { maxSteps := 1000000 }) only [hb0, h2a.one, h2b.one, ha.n.one, ha.d.one, hb.n.one, hb.d.one, ↓hold_pre, awayP, runOps, regK, step1, newK, genR, appR, obl, buildR, Value.cells, closeK, keepH, outV, retK, ret1, retC, RetV, Option.getD, runD, stepD, afterK, undef, simprocAttr, sxB, ↓sxD, sxE, sxTab]))
  have m10 : Mem.le M9 M10 := m10
  have h2a := h2a.le m10
  have h2b := h2b.le m10
  have ha := ha.le m10
  have hb := hb.le m10
  have f2c := f2c.le hm
  have f2d := f2d.le hm
  have hm := hm.trans m10
  refine Stop.go ?_
  (replace hb0 := true_and True); refine Go1.mk ?_; repeat' ((first | (with_reducible refine Go1.go ?_) | ((with_reducible first | refine brv_mk ?_ ?_ | refine gsplitD ?_ ?_ | refine gsplitG ?_ ?_) <;> intro h <;> (try simp only [Bool.not_eq_true', Bool.not_eq_false'] at h) <;> replace hb0 := h) | ((first | (with_reducible refine isCall (f := 15) ?_; refine callA_nil (by kernel_rfl) ?_) | (with_reducible refine isCall0 (f := 15) ?_; refine callA0_nil (by kernel_rfl) ?_)); refine (same02_ok _ h2a h2b h2c h2d (by omega) (by omega) ?_)) | ((first | (with_reducible refine isCall (f := 28) ?_; refine callA_nil (by kernel_rfl) ?_) | (with_reducible refine isCall0 (f := 28) ?_; refine callA0_nil (by kernel_rfl) ?_)); refine (fdiv_ok ha hb (fun w3a w3b M11 m11 h3a h3b f3a f3b => Stop.mk ?_))) | (refine And.intro ?ob ?_; case ob => ((try simp only [sxO, ne_eq, maxLen] at *); omega)) | fail) <;> (try simp (config := { maxSteps := 1000000 }) only [hb0, h2a.one, h2b.one, h2c.one, h2d.one, ha.n.one, ha.d.one, hb.n.one, hb.d.one, ↓hold_pre, awayP, runOps, regK, step1, newK, genR, appR, obl, buildR, Value.cells, closeK, keepH, outV, retK, ret1, retC, RetV, Option.getD, runD, stepD, afterK, undef, simprocAttr, sxB, ↓sxD, sxE, sxTab]))
  have m11 : Mem.le M10 M11 := m11
  have h2a := h2a.le m11
  have h2b := h2b.le m11
  have h2c := h2c.le m11
  have h2d := h2d.le m11
  have ha := ha.le m11
  have hb := hb.le m11
  have f3a := f3a.le hm
  have f3b := f3b.le hm
  have hm := hm.trans m11
  refine Stop.go ?_
  (replace hb0 := true_and True); refine Go1.mk ?_; repeat' ((first | (with_reducible refine Go1.go ?_) | ((with_reducible first | refine brv_mk ?_ ?_ | refine gsplitD ?_ ?_ | refine gsplitG ?_ ?_) <;> intro h <;> (try simp only [Bool.not_eq_true', Bool.not_eq_false'] at h) <;> replace hb0 := h) | ((first | (with_reducible refine isCall (f := 29) ?_; refine callA_nil (by kernel_rfl) ?_) | (with_reducible refine isCall0 (f := 29) ?_; refine callA0_nil (by kernel_rfl) ?_)); refine (rfdiv_ok ha hb (fun w3c w3d M12 m12 h3c h3d f3c f3d => Stop.mk ?_))) | (refine And.intro ?ob ?_; case ob => ((try simp only [sxO, ne_eq, maxLen] at *); omega)) | fail) <;> (try simp (config := { maxSteps := 1000000 }) only [hb0, h3a.one, h3b.one, ha.n.one, ha.d.one, hb.n.one, hb.d.one, ↓hold_pre, awayP, runOps, regK, step1, newK, genR, appR, obl, buildR, Value.cells, closeK, keepH, outV, retK, ret1, retC, RetV, Option.getD, runD, stepD, afterK, undef, simprocAttr, sxB, ↓sxD, sxE, sxTab]))
  have m12 : Mem.le M11 M12 := m12
  have h3a := h3a.le m12
  have h3b := h3b.le m12
  have ha := ha.le m12
  have hb := hb.le m12
  have f3c := f3c.le hm
  have f3d := f3d.le hm
  have hm := hm.trans m12
  refine Stop.go ?_
  (replace hb0 := true_and True); refine Go1.mk ?_; repeat' ((first | (with_reducible refine Go1.go ?_) | ((with_reducible first | refine brv_mk ?_ ?_ | refine gsplitD ?_ ?_ | refine gsplitG ?_ ?_) <;> intro h <;> (try simp only [Bool.not_eq_true', Bool.not_eq_false'] at h) <;> replace hb0 := h) | ((first | (with_reducible refine isCall (f := 15) ?_; refine callA_nil (by kernel_rfl) ?_) | (with_reducible refine isCall0 (f := 15) ?_; refine callA0_nil (by kernel_rfl) ?_)); refine (same02_ok _ h3a h3b h3c h3d (by omega) (by omega) ?_)) | ((first | (with_reducible refine isCall (f := 18) ?_; refine callA_nil (by kernel_rfl) ?_) | (with_reducible refine isCall0 (f := 18) ?_; refine callA0_nil (by kernel_rfl) ?_)); refine (awake02_ok (fun M13 m13 => Stop.mk ?_))) | (refine And.intro ?ob ?_; case ob => ((try simp only [sxO, ne_eq, maxLen] at *); omega)) | fail) <;> (try simp (config := { maxSteps := 1000000 }) only [hb0, h3a.one, h3b.one, h3c.one, h3d.one, ha.n.one, ha.d.one, hb.n.one, hb.d.one, ↓hold_pre, awayP, runOps, regK, step1, newK, genR, appR, obl, buildR, Value.cells, closeK, keepH, outV, retK, ret1, retC, RetV, Option.getD, runD, stepD, afterK, undef, simprocAttr, sxB, ↓sxD, sxE, sxTab]))
  have m13 : Mem.le M12 M13 := m13
  have h3a := h3a.le m13
  have h3b := h3b.le m13
  have h3c := h3c.le m13
  have h3d := h3d.le m13
  have ha := ha.le m13
  have hb := hb.le m13
  have hm := hm.trans m13
  refine Stop.go ?_
  (replace hb0 := true_and True); refine Go1.mk ?_; repeat' ((first | (with_reducible refine Go1.go ?_) | ((with_reducible first | refine brv_mk ?_ ?_ | refine gsplitD ?_ ?_ | refine gsplitG ?_ ?_) <;> intro h <;> (try simp only [Bool.not_eq_true', Bool.not_eq_false'] at h) <;> replace hb0 := h) | (refine And.intro ?ob ?_; case ob => ((try simp only [sxO, ne_eq, maxLen] at *); omega)) | fail) <;> (try simp (config := { maxSteps := 1000000 }) only [hb0, h3a.one, h3b.one, h3c.one, h3d.one, ha.n.one, ha.d.one, hb.n.one, hb.d.one, ↓hold_pre, awayP, runOps, regK, step1, newK, genR, appR, obl, buildR, Value.cells, closeK, keepH, outV, retK, ret1, retC, RetV, Option.getD, runD, stepD, afterK, undef, simprocAttr, sxB, ↓sxD, sxE, sxTab]))
  exact hK _ hm
end
end Go.Proofs.YtamghpnjdohnjaaDoor.Sx
