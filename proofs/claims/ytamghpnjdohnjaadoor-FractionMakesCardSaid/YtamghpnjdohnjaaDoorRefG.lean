import Derived.Test.YtamghpnjdohnjaaDoorRefF
/- Numbers: the reference's long quotients. -/
namespace Go.Proofs.YtamghpnjdohnjaaDoor.Sx
open Go Go.RowKit
set_option linter.unusedVariables false
set_option linter.unusedSimpArgs false
set_option maxRecDepth 100000
set_option maxHeartbeats 8000000
attribute [local congr] fin_congr finG_congr stepG_congr step1_congr runOps_congr brv_congr obl_congr condK_congr LoopK_congr seqK_congr CutK_congr vc_congr DrawK_congr regK_congr CallK_congr AskK_congr newK_congr retC_congr ret1_congr retK_congr outV_congr closeK_congr genR_congr appR_congr finD_congr finGD_congr stepGD_congr stepD_congr CallK0_congr runD_congr okR_congr CallS_congr vcX_congr
attribute [local congr] Stop_congr
theorem full_len {l : List Nat} (ho : okN l) (h : (ofN (valN l)).length = l.length) : l = ofN (valN l) := by
  refine canon ho fun hl h0 => ?_
  have h1 := valN_cut l (show l.length - 1 ≤ l.length by omega)
  rw [valN_drop (show l.length - 1 < l.length by omega), List.drop_of_length_le (show l.length ≤ l.length - 1 + 1 by omega), h0] at h1
  simp only [valN, Nat.mul_zero, Nat.add_zero] at h1
  have h2 := valN_lt (okN_take ho (l.length - 1))
  rw [List.length_take, Nat.min_eq_left (by omega), ← h1] at h2
  have := ofN_len_le h2
  omega
theorem guess_facts {m : Nat} {C B : List Nat} (hC : C.length = m + 3) (hB : B.length = m + 2) (hoC : okN C) (hoB : okN B) (htop : 2147483648 ≤ B[m + 1]) (hlt : valN C < 4294967296 * valN B) :
    ∃ p cr vr, cr < p ∧ vr < p ∧ valN C = ((C[m + 2] * 4294967296 + C[m + 1]) * 4294967296 + C[m]) * p + cr ∧ valN B = (B[m + 1] * 4294967296 + B[m]) * p + vr ∧ C[m + 2] ≤ B[m + 1] := by
  have hcC : valN C = (C[m + 2] * 4294967296 + C[m + 1]) * (wN m * 4294967296) + C[m] * wN m + valN (C.take m) := by
    rw [valN_cut C (show m ≤ C.length by omega), valN_drop (show m < C.length by omega), valN_drop (show m + 1 < C.length by omega), valN_drop (show m + 2 < C.length by omega), List.drop_of_length_le (show C.length ≤ m + 2 + 1 by omega)]
    simp only [valN]
    grind
  have hcB : valN B = (B[m + 1] * 4294967296 + B[m]) * wN m + valN (B.take m) := by
    rw [valN_cut B (show m ≤ B.length by omega), valN_drop (show m < B.length by omega), valN_drop (show m + 1 < B.length by omega), List.drop_of_length_le (show B.length ≤ m + 1 + 1 by omega)]
    simp only [valN]
    grind
  have hrC : valN (C.take m) < wN m := by
    have := valN_lt (okN_take hoC m)
    rwa [List.length_take, Nat.min_eq_left (by omega)] at this
  have hrB : valN (B.take m) < wN m := by
    have := valN_lt (okN_take hoB m)
    rwa [List.length_take, Nat.min_eq_left (by omega)] at this
  have b2 := okN_at hoC (show m + 1 < C.length by omega)
  have b3 := okN_at hoC (show m < C.length by omega)
  have b5 := okN_at hoB (show m < B.length by omega)
  have hpp := wN_pos m
  refine ⟨wN m, _, _, hrC, hrB, ?_, hcB, ?_⟩
  · rw [hcC]; grind
  · generalize hc0 : C[m + 2] = c0 at *
    generalize hc1 : C[m + 1] = c1 at *
    generalize hc2 : C[m] = c2 at *
    generalize hv1 : B[m + 1] = v1 at *
    generalize hv2 : B[m] = v2 at *
    generalize valN (C.take m) = cr at *
    generalize valN (B.take m) = vr at *
    generalize wN m = p at *
    generalize valN C = CC at *
    generalize valN B = V at *
    rcases Nat.lt_or_ge v1 c0 with h | h
    · exfalso
      have a1 : (v1 * 4294967296 + v2 + 1) * p * 4294967296 ≤ (c0 * 4294967296) * 4294967296 * p := by
        have : v1 * 4294967296 + v2 + 1 ≤ c0 * 4294967296 := by omega
        have := Nat.mul_le_mul_right (p * 4294967296) this
        grind
      grind
    · exact h
section
variable {M : Mem} {K : AV → Hp → Mem → Prop}
/-- a part of a block of one's own, trimmed into a new number -/
theorem rtrim_part (k o m : Nat) (T : TypeId) (L : List Nat) (x : Nat) (h : OwnN L o m x) (hb : L.length < 1000000000) (hK : ∀ w M', Mem.le M M' → IsL M' u32V w (ofN x) → FreshS M w → K (.ext w) [(k, T, cE u32V L)] M') :
    CallS Tryd.prog 89 [.slo k o m 1] [(k, T, cE u32V L)] M [] K := by
  refine CallS.bor ⟨⟨_, rfl⟩, trivial⟩ fun us M' hM hb' => ?_
  obtain ⟨v1, _, rfl, h1, rfl⟩ := hb'
  have g1 := h1.part (g := u32V) (L := L) (T := T) (by simp [lkH]) h.le
  rw [h.eq] at g1
  refine rtrim_ok v1 (ofN x) g1 (okN_ofN x) (by have := h.len; have := h.le; omega) fun w M2 h2 h3 h4 => ?_
  rw [valN_ofN] at h3
  exact ⟨fun j hj => rfl, fun M3 h5 h6 _ => hK w M3 h5 (h3.move h4 h6) (h4.le hM)⟩
def ss0 (M : Mem) (u v : Value) (s : Nat) : St := { env := [(8, .ext (.int .i64 (s : Int))), (0, .ext u), (1, .ext v)], hp := [], M := M, kb := 0, fx := [] }
def spSt (M : Mem) (la m n s j : Nat) (U B Q : List Nat) : St := { env := [(12, .ext (.int .i64 ((j : Int) - 1))), (11, .ext (.int .i64 (n : Int))), (10, .slo 2011 0 n 1), (9, .slo 1011 0 (la + 1) 1), (8, .ext (.int .i64 (s : Int))), (4, .slo 63 0 m 1)], hp := [(1011, 70, cE u32V U), (2011, 70, cE u32V B), (63, 70, cE u32V Q)], M := M, kb := 0, fx := [] }
def giSt (M : Mem) (la m n s i q r : Nat) (U B Q : List Nat) : St := { env := [(15, .ext (.int .u64 (r : Int))), (14, .ext (.int .u64 (q : Int))), (12, .ext (.int .i64 (i : Int))), (11, .ext (.int .i64 (n : Int))), (10, .slo 2011 0 n 1), (9, .slo 1011 0 (la + 1) 1), (8, .ext (.int .i64 (s : Int))), (4, .slo 63 0 m 1)], hp := [(1011, 70, cE u32V U), (2011, 70, cE u32V B), (63, 70, cE u32V Q)], M := M, kb := 0, fx := [] }
theorem shl32s {t s : Nat} (h : t * 2 ^ s < 4294967296) (hs : s < 32) : IntKind.u32.wrap ((t : Int) * 2 ^ (min s IntKind.u32.bits)) = ((t * 2 ^ s : Nat) : Int) := by
  have h1 : min s IntKind.u32.bits = s := by have : IntKind.u32.bits = 32 := rfl; omega
  rw [h1, show ((t : Int) * 2 ^ s) = ((t * 2 ^ s : Nat) : Int) by simp, wrap32_id h]
theorem split_ok (u v : Value) (x y : Nat) (hu : IsL M u32V u (ofN x)) (hv : IsL M u32V v (ofN y)) (hx : (ofN x).length < 10000000) (hy : (ofN y).length < 10000000) (hy0 : 0 < y)
    (hK : ∀ q r M', Mem.le M M' → IsL M' u32V q (ofN (x / y)) → IsL M' u32V r (ofN (x % y)) → FreshS M q → FreshS M r → K (.ext (.tuple #[q, r])) [] M') : CallS Tryd.prog 78 [.ext u, .ext v] [] M [] K := by
  refine CallS.frzF ?_
  refine inlS (cs := []) Tryd.mixed Tryd.func78 rfl (by kernel_rfl) 0 rfl rfl ?_
  simp only [Tryd.f78]
  by_cases hlt : x < y
  · have e1 : x / y = 0 := Nat.div_eq_of_lt hlt
    have e2 : x % y = x := Nat.mod_eq_of_lt hlt
    rw [e1, e2, ofN_zero] at hK
    have c1 := cmpN_lt hlt
    have hrow := hu.row
    have hmp : List.map AV.ext (List.map u32V (ofN x)) = cE u32V (ofN x) := rfl
    (replace hb0 := true_and True); refine Go1.mk ?_; repeat' ((first | (with_reducible refine Go1.go ?_) | ((with_reducible first | refine brv_mk ?_ ?_ | refine gsplitD ?_ ?_ | refine gsplitG ?_ ?_) <;> intro h <;> (try simp only [Bool.not_eq_true', Bool.not_eq_false'] at h) <;> replace hb0 := h) | ((first | (with_reducible refine isCall (f := 57) ?_; refine callA_nil (by kernel_rfl) ?_) | (with_reducible refine isCall0 (f := 57) ?_; refine callA0_nil (by kernel_rfl) ?_)); refine (rorder_ok u v x y hu hv (by omega) (by omega) ?_)) | (refine And.intro ?ob ?_; case ob => ((try simp only [sxO, ne_eq, maxLen] at *); omega)) | fail) <;> (try simp (config := { maxSteps := 1000000 }) only [hb0, cE_ment, hasK_nil, cE_kill, cE_len, u32_one, u32_app1, u32_set, Nat.mul_one, hu.one, hv.one, hu.len, hu.sl, hrow, hmp, c1, ↓hold_pre, awayP, runOps, regK, step1, newK, genR, appR, obl, buildR, Value.cells, closeK, keepH, outV, retK, ret1, retC, RetV, Option.getD, runD, stepD, afterK, undef, simprocAttr, sxB, ↓sxD, sxE, sxTab]))
    exact FrzF.tup [.slice none 0 0] [] ((ofN x).map u32V) rfl (by simp) (fun w M' g1 g2 g3 => hK _ w M' g1 (isL_nil _ _ _) (by unfold IsL; exact g2) (freshS_nil _ _) g3)
  have c1 : decide (cmpN x y < 0) = false := by
    rw [decide_eq_false_iff_not]; unfold cmpN; rw [if_neg hlt]; split <;> omega
  have hlen := len_mono (show y ≤ x by omega)
  have hl1 : 0 < (ofN y).length := by
    rcases Nat.eq_zero_or_pos (ofN y).length with h | h
    · have := ofN_nil.1 (List.length_eq_zero_iff.1 h); omega
    · exact h
  by_cases hone : (ofN y).length = 1
  · have d1 : decide (((ofN y).length : Int) = 1) = true := by simp; omega
    have hyi := hv.idx (P := Tryd.prog) (T := 70) tk70 tz70 (by omega) hl1
    have hyv : (ofN y)[0] = y := by
      have := valN_ofN y
      generalize ofN y = l at *
      match l, hone with
      | [a], _ => simpa [valN] using this
    have hy32 : y < 4294967296 := by rw [← hyv]; exact ofN_ok_at hl1
    rw [hyv] at hyi
    have w1 : IntKind.u64.wrap (y : Int) = (y : Int) := wrap64_id (by omega)
    (replace hb0 := true_and True); refine Go1.mk ?_; repeat' ((first | (with_reducible refine Go1.go ?_) | ((with_reducible first | refine brv_mk ?_ ?_ | refine gsplitD ?_ ?_ | refine gsplitG ?_ ?_) <;> intro h <;> (try simp only [Bool.not_eq_true', Bool.not_eq_false'] at h) <;> replace hb0 := h) | ((first | (with_reducible refine isCall (f := 57) ?_; refine callA_nil (by kernel_rfl) ?_) | (with_reducible refine isCall0 (f := 57) ?_; refine callA0_nil (by kernel_rfl) ?_)); refine (rorder_ok u v x y hu hv (by omega) (by omega) ?_)) | ((first | (with_reducible refine isCall (f := 104) ?_; refine callA_nil (by kernel_rfl) ?_) | (with_reducible refine isCall0 (f := 104) ?_; refine callA0_nil (by kernel_rfl) ?_)); refine (rsmall_ok u x y hu (by omega) hy0 hy32 (fun w M' h1 h2 h3 => Stop.mk ?_))) | (refine And.intro ?ob ?_; case ob => ((try simp only [sxO, ne_eq, maxLen] at *); omega)) | fail) <;> (try simp (config := { maxSteps := 1000000 }) only [hb0, cE_ment, hasK_nil, cE_kill, cE_len, u32_one, u32_app1, u32_set, Nat.mul_one, u32V, hu.one, hv.one, hv.len, hv.sl, c1, d1, w1, hyi, Int.natCast_zero, Int.cast_ofNat_Int, ↓hold_pre, awayP, runOps, regK, step1, newK, genR, appR, obl, buildR, Value.cells, closeK, keepH, outV, retK, ret1, retC, RetV, Option.getD, runD, stepD, afterK, undef, simprocAttr, sxB, ↓sxD, sxE, sxTab]))
    refine Stop.go ?_
    (replace hb0 := true_and True); refine Go1.mk ?_; repeat' ((first | (with_reducible refine Go1.go ?_) | ((with_reducible first | refine brv_mk ?_ ?_ | refine gsplitD ?_ ?_ | refine gsplitG ?_ ?_) <;> intro h <;> (try simp only [Bool.not_eq_true', Bool.not_eq_false'] at h) <;> replace hb0 := h) | ((first | (with_reducible refine isCall (f := 55) ?_; refine callA_nil (by kernel_rfl) ?_) | (with_reducible refine isCall0 (f := 55) ?_; refine callA0_nil (by kernel_rfl) ?_)); refine (rof_ok (x % y) (by have := Nat.mod_lt x hy0; omega) (fun w2 M2 g1 g2 g3 => Stop.mk ?_))) | (refine And.intro ?ob ?_; case ob => ((try simp only [sxO, ne_eq, maxLen] at *); omega)) | fail) <;> (try simp (config := { maxSteps := 1000000 }) only [hb0, h2.one, ↓hold_pre, awayP, runOps, regK, step1, newK, genR, appR, obl, buildR, Value.cells, closeK, keepH, outV, retK, ret1, retC, RetV, Option.getD, runD, stepD, afterK, undef, simprocAttr, sxB, ↓sxD, sxE, sxTab]))
    refine Stop.go ?_
    (replace hb0 := true_and True); refine Go1.mk ?_; repeat' ((first | (with_reducible refine Go1.go ?_) | ((with_reducible first | refine brv_mk ?_ ?_ | refine gsplitD ?_ ?_ | refine gsplitG ?_ ?_) <;> intro h <;> (try simp only [Bool.not_eq_true', Bool.not_eq_false'] at h) <;> replace hb0 := h) | (refine And.intro ?ob ?_; case ob => ((try simp only [sxO, ne_eq, maxLen] at *); omega)) | fail) <;> (try simp (config := { maxSteps := 1000000 }) only [hb0, h2.one, g2.one, ↓hold_pre, awayP, runOps, regK, step1, newK, genR, appR, obl, buildR, Value.cells, closeK, keepH, outV, retK, ret1, retC, RetV, Option.getD, runD, stepD, afterK, undef, simprocAttr, sxB, ↓sxD, sxE, sxTab]))
    exact .inl (hK _ _ _ (h1.trans g1) (h2.le g1) g2 h3 (g3.le h1))
  have d1 : decide (((ofN y).length : Int) = 1) = false := by simp; omega
  obtain ⟨s, hs, hs32, hbl, hbt⟩ := nrm_plain (y := y) (by omega)
  have ht32 := ofN_ok_at (show (ofN y).length - 1 < (ofN y).length by omega)
  have htn := trimmed_ofN y (by omega)
  have w1 : IntKind.i64.wrap (((ofN y).length : Int) - 1) = (((ofN y).length - 1 : Nat) : Int) := pred_i hl1 (by omega)
  have hn2 : 2 ≤ (ofN y).length := by omega
  obtain ⟨t, ht⟩ : ∃ t, (ofN y)[(ofN y).length - 1]'(by omega) = t := ⟨_, rfl⟩
  have hyi := hv.idx (P := Tryd.prog) (T := 70) tk70 tz70 (by omega) (show (ofN y).length - 1 < (ofN y).length by omega)
  rw [ht] at hs ht32 htn
  simp only [ht] at hyi
  clear ht
  generalize hl : (ofN x).length = la at *
  generalize hm : (ofN y).length = n at *
  (replace hb0 := true_and True); refine Go1.mk ?_; repeat' ((first | (with_reducible refine Go1.go ?_) | ((with_reducible first | refine brv_mk ?_ ?_ | refine gsplitD ?_ ?_ | refine gsplitG ?_ ?_) <;> intro h <;> (try simp only [Bool.not_eq_true', Bool.not_eq_false'] at h) <;> replace hb0 := h) | ((first | (with_reducible refine isCall (f := 57) ?_; refine callA_nil (by kernel_rfl) ?_) | (with_reducible refine isCall0 (f := 57) ?_; refine callA0_nil (by kernel_rfl) ?_)); refine (rorder_ok u v x y hu hv (by omega) (by omega) ?_)) | (refine And.intro ?ob ?_; case ob => ((try simp only [sxO, ne_eq, maxLen] at *); omega)) | fail) <;> (try simp (config := { maxSteps := 1000000 }) only [hb0, cE_ment, hasK_nil, cE_kill, cE_len, u32_one, u32_app1, u32_set, Nat.mul_one, u32V, hu.one, hv.one, hv.len, hv.sl, hm, c1, d1, ↓hold_pre, awayP, runOps, regK, step1, newK, genR, appR, obl, buildR, Value.cells, closeK, keepH, outV, retK, ret1, retC, RetV, Option.getD, runD, stepD, afterK, undef, simprocAttr, sxB, ↓sxD, sxE, sxTab]))
  have hbt1 : t < 2 ^ blen t := (blen_iff (blen t) t).1 (Nat.le_refl _)
  have hb32 := (blen_iff 32 t).2 (by omega)
  have hbp : 0 < blen t := by
    rcases Nat.eq_zero_or_pos (blen t) with h | h
    · have := (blen_iff 0 t).1 (by omega); simp at this; omega
    · exact h
  have hbt2 : 2 ^ (blen t - 1) ≤ t := by
    rcases Nat.lt_or_ge t (2 ^ (blen t - 1)) with h | h
    · have := (blen_iff (blen t - 1) t).2 h; omega
    · exact h
  have hps : t * 2 ^ s < 4294967296 := by
    have : t * 2 ^ s < 2 ^ blen t * 2 ^ s := Nat.mul_lt_mul_of_pos_right hbt1 (Nat.two_pow_pos s)
    rw [← Nat.pow_add, show blen t + s = 32 by omega] at this
    exact this
  have hps2 : 2147483648 ≤ t * 2 ^ s := by
    have := Nat.mul_le_mul_right (2 ^ s) hbt2
    rw [← Nat.pow_add, show blen t - 1 + s = 31 by omega] at this
    exact this
  refine ⟨fun d z => ∃ s', d = s - s' ∧ s' ≤ s ∧ z = ss0 M u v s', ⟨s, ss0 M u v 0, le_sub ⟨rfl, rfl, rfl, trivial⟩ trivial rfl rfl rfl (keepLt0 _), ⟨0, rfl, by omega, rfl⟩⟩, ?_⟩
  rintro d z ⟨s', rfl, hs', rfl⟩
  have hpw : t * 2 ^ s' ≤ t * 2 ^ s := Nat.mul_le_mul_left t (Nat.pow_le_pow_right (by decide) hs')
  have v1 := shl32s (t := t) (s := s') (by omega) (by omega)
  have d0 : (0 : Int) ≤ (s' : Int) := by omega
  by_cases hlt2 : s' < s
  · have h1 : t * 2 ^ s' < 2147483648 := by
      have a1 : t * 2 ^ s' < 2 ^ blen t * 2 ^ s' := Nat.mul_lt_mul_of_pos_right hbt1 (Nat.two_pow_pos s')
      rw [← Nat.pow_add] at a1
      have a2 : 2 ^ (blen t + s') ≤ 2 ^ 31 := Nat.pow_le_pow_right (by decide) (by omega)
      omega
    have d2 : decide (((t * 2 ^ s' : Nat) : Int) < 2147483648) = true := by rw [decide_eq_true_eq]; omega
    have w2 : IntKind.i64.wrap ((s' : Int) + 1) = ((s' + 1 : Nat) : Int) := succ_i (by omega)
    (replace hb0 := true_and True); refine Go1.mk ?_; repeat' ((first | (with_reducible refine Go1.go ?_) | ((with_reducible first | refine brv_mk ?_ ?_ | refine gsplitD ?_ ?_ | refine gsplitG ?_ ?_) <;> intro h <;> (try simp only [Bool.not_eq_true', Bool.not_eq_false'] at h) <;> replace hb0 := h) | (refine And.intro ?ob ?_; case ob => ((try simp only [sxO, ne_eq, maxLen] at *); omega)) | fail) <;> (try simp (config := { maxSteps := 1000000 }) only [hb0, cE_ment, hasK_nil, cE_kill, cE_len, u32_one, u32_app1, u32_set, Nat.mul_one, u32V, ss0, hv.one, hv.len, hv.sl, hm, hyi, w1, v1, d0, d2, w2, ↓hold_pre, awayP, runOps, regK, step1, newK, genR, appR, obl, buildR, Value.cells, closeK, keepH, outV, retK, ret1, retC, RetV, Option.getD, runD, stepD, afterK, undef, simprocAttr, sxB, ↓sxD, sxE, sxTab]))
    exact ⟨s - (s' + 1), ss0 M u v (s' + 1), by omega, le_sub ⟨rfl, rfl, rfl, trivial⟩ trivial rfl rfl rfl (keepLt0 _), s' + 1, rfl, by omega, rfl⟩
  obtain rfl : s' = s := by omega
  have d2 : decide (((t * 2 ^ s' : Nat) : Int) < 2147483648) = false := by rw [decide_eq_false_iff_not]; omega
  have o1 := ofN_len_lt (n := y * 2 ^ s') (k := n) (by omega)
  have w2 : IntKind.i64.wrap (((la + 1 : Nat) : Int) - (n : Int)) = ((la - n + 1 : Nat) : Int) := by rw [wrap_id (by omega) (by omega)]; omega
  have w3 : IntKind.i64.wrap (((la - n + 1 : Nat) : Int) - 1) = ((la - n + 1 : Nat) : Int) - 1 := wrap_id (by omega) (by omega)
  (replace hb0 := true_and True); refine Go1.mk ?_; repeat' ((first | (with_reducible refine Go1.go ?_) | ((with_reducible first | refine brv_mk ?_ ?_ | refine gsplitD ?_ ?_ | refine gsplitG ?_ ?_) <;> intro h <;> (try simp only [Bool.not_eq_true', Bool.not_eq_false'] at h) <;> replace hb0 := h) | ((with_reducible refine isCall (f := 105) ?_); refine callA ?_) | ((with_reducible refine isCall0 (f := 105) ?_); refine callA0 ?_) | ((with_reducible refine isCallS (f := 105) ?_); refine (up_ok 1000 u (ofN x) s' hu (by omega) (okN_ofN x) hs32 (fun U0 h1 h2 h3 => Stop.mk ?_))) | ((with_reducible refine isDraw [some 48, some 49, some 50, some 51, some 52, some 53, some 54, some 55, some 56, some 9, some 10] (by decide) ?_); refine draw_rule [(0, []), (1, []), (3, []), (4, []), (6, []), (7, []), (2, []), (5, []), (8, []), (9, []), (10, [])] [[], [], [0, 1], [], [], [0, 1, 2, 3, 4], [], [6], [0, 1, 2, 3, 4, 5, 6, 7], [0, 1, 2, 3, 4, 5], [0, 1, 2, 3, 4, 5, 6, 7, 8, 9]] [48, 49, 50, 51, 52, 53, 54, 55, 56, 9] [] (by kernel_rfl) (by kernel_rfl) (by kernel_rfl) (by kernel_rfl) (by exact trivial) ?_) | (refine And.intro ?ob ?_; case ob => ((try simp only [sxO, ne_eq, maxLen] at *); omega)) | fail) <;> (try simp (config := { maxSteps := 1000000 }) only [hb0, cE_ment, hasK_nil, cE_kill, cE_len, u32_one, u32_app1, u32_set, Nat.mul_one, u32V, ss0, hu.one, hv.one, hv.len, hv.sl, hm, hyi, w1, v1, d0, d2, ↓hold_pre, awayP, runOps, regK, step1, newK, genR, appR, obl, buildR, Value.cells, closeK, keepH, outV, retK, ret1, retC, RetV, Option.getD, runD, stepD, afterK, undef, simprocAttr, sxB, ↓sxD, sxE, sxTab]))
  rw [hl] at h1
  rw [valN_ofN] at h3
  refine Stop.go ?_
  (replace hb0 := true_and True); refine Go1.mk ?_; repeat' ((first | (with_reducible refine Go1.go ?_) | ((with_reducible first | refine brv_mk ?_ ?_ | refine gsplitD ?_ ?_ | refine gsplitG ?_ ?_) <;> intro h <;> (try simp only [Bool.not_eq_true', Bool.not_eq_false'] at h) <;> replace hb0 := h) | ((with_reducible refine isCall (f := 105) ?_); refine callA ?_) | ((with_reducible refine isCall0 (f := 105) ?_); refine callA0 ?_) | ((with_reducible refine isCallS (f := 105) ?_); refine (up_ok 2000 v (ofN y) s' hv (by omega) (okN_ofN y) hs32 (fun V0 g1 g2 g3 => Stop.mk ?_))) | (refine And.intro ?ob ?_; case ob => ((try simp only [sxO, ne_eq, maxLen] at *); omega)) | fail) <;> (try simp (config := { maxSteps := 1000000 }) only [hb0, cE_ment, hasK_nil, cE_kill, cE_len, u32_one, u32_app1, u32_set, Nat.mul_one, hu.one, hv.one, hv.len, hv.sl, hm, hl, ↓hold_pre, awayP, runOps, regK, step1, newK, genR, appR, obl, buildR, Value.cells, closeK, keepH, outV, retK, ret1, retC, RetV, Option.getD, runD, stepD, afterK, undef, simprocAttr, sxB, ↓sxD, sxE, sxTab]))
  rw [hm] at g1
  rw [valN_ofN] at g3
  refine Stop.go ?_
  have hz0 : AV.ext (Value.int .u32 0) :: List.map AV.ext (repN [Value.int .u32 0] (la - n)) = cE u32V (List.replicate (la - n + 1) 0) := cE_rep u32V (la - n + 1) 0
  have d5 : (0 : Int) ≤ (n : Int) := by omega
  have d6 : (n : Int) ≤ ((n + 1 : Nat) : Int) := by omega
  (replace hb0 := true_and True); refine Go1.mk ?_; repeat' ((first | (with_reducible refine Go1.go ?_) | ((with_reducible first | refine brv_mk ?_ ?_ | refine gsplitD ?_ ?_ | refine gsplitG ?_ ?_) <;> intro h <;> (try simp only [Bool.not_eq_true', Bool.not_eq_false'] at h) <;> replace hb0 := h) | (refine And.intro ?ob ?_; case ob => ((try simp only [sxO, ne_eq, maxLen] at *); omega)) | fail) <;> (try simp (config := { maxSteps := 1000000 }) only [hb0, cE_ment, hasK_nil, cE_kill, cE_len, u32_one, u32_app1, u32_set, Nat.mul_one, hu.one, hv.one, hv.len, hv.sl, hm, hl, d5, d6, w2, w3, hz0, Nat.sub_zero, ↓hold_pre, awayP, runOps, regK, step1, newK, genR, appR, obl, buildR, Value.cells, closeK, keepH, outV, retK, ret1, retC, RetV, Option.getD, runD, stepD, afterK, undef, simprocAttr, sxB, ↓sxD, sxE, sxTab]))
  have hV : V0.take n = ofN (y * 2 ^ s') := by
    have e := valN_take_mod g2 (i := n) (by omega)
    rw [g3, Nat.mod_eq_of_lt o1] at e
    have e2 := full_len (okN_take g2 n) (by rw [e, hbl, List.length_take]; omega)
    rw [e] at e2
    exact e2
  have hvp : 0 < y * 2 ^ s' := Nat.mul_pos hy0 (Nat.two_pow_pos s')
  have hst : DivI (y * 2 ^ s') (la - n + 1) (la - n + 1) (la + 1) U0 U0 (List.replicate (la - n + 1) 0) := by
    refine div_start (n := n) h1 h2 (by omega) ?_
    have a1 : x < wN la := ofN_len_lt (by omega)
    have a2 : wN (n - 1) ≤ y := by
      rcases Nat.lt_or_ge y (wN (n - 1)) with h | h
      · have := ofN_len_le h; omega
      · exact h
    have a3 : wN la = wN (n - 1) * wN (la - n + 1) := by rw [← wN_add, show n - 1 + (la - n + 1) = la by omega]
    have a4 := Nat.mul_le_mul_right (wN (la - n + 1)) a2
    have a5 : x < y * wN (la - n + 1) := by omega
    have a6 := Nat.mul_lt_mul_of_pos_right a5 (Nat.two_pow_pos s')
    rw [h3]
    grind
  have hB0 : 0 < valN (ofN (y * 2 ^ s')) := by rw [valN_ofN]; exact hvp
  obtain ⟨mq, hmq⟩ : ∃ k, la - n + 1 = k := ⟨_, rfl⟩
  rw [hmq] at hst w3 hz0 ⊢
  refine ⟨fun d z => ∃ j U Q, j = d ∧ j ≤ mq ∧ DivI (y * 2 ^ s') j mq (la + 1) U0 U Q ∧ z = spSt M la mq n s' j U (ofN (y * 2 ^ s')) Q,
    ⟨mq, spSt M la mq n s' mq U0 (ofN (y * 2 ^ s')) (List.replicate mq 0), (le_take 2011 n 70 (cE u32V V0) rfl).trans (le_sub ⟨rfl, rfl, rfl, rfl, rfl, rfl, trivial⟩ (by simp [subHp, spSt, lkH, upH, cE_take, hV]) rfl rfl rfl (keepLt0 _)), ⟨_, _, _, rfl, Nat.le_refl _, hst, rfl⟩⟩, ?_⟩
  rintro d z ⟨j, U, Q, rfl, hj, hI, rfl⟩
  by_cases hlt : 0 < j
  case neg =>
    obtain rfl : j = 0 := by omega
    have d2 : decide ((0 : Int) ≤ ((0 : Nat) : Int) - 1) = false := by simp
    obtain ⟨e1, e2⟩ := div_end hI h3 hy0
    have hlq := hI.lq
    have hlu := hI.lu
    have hou := hI.ou
    (replace hb0 := true_and True); refine Go1.mk ?_; repeat' ((first | (with_reducible refine Go1.go ?_) | ((with_reducible first | refine brv_mk ?_ ?_ | refine gsplitD ?_ ?_ | refine gsplitG ?_ ?_) <;> intro h <;> (try simp only [Bool.not_eq_true', Bool.not_eq_false'] at h) <;> replace hb0 := h) | ((with_reducible refine isCall (f := 89) ?_); refine callA ?_) | ((with_reducible refine isCall0 (f := 89) ?_); refine callA0 ?_) | ((with_reducible refine isCallS (f := 89) ?_); refine (rtrim_bor 63 mq _ Q hlq.symm hI.oq (by omega) (fun w M' k1 k2 k3 => Stop.mk ?_))) | (refine And.intro ?ob ?_; case ob => ((try simp only [sxO, ne_eq, maxLen] at *); omega)) | fail) <;> (try simp (config := { maxSteps := 1000000 }) only [hb0, cE_ment, hasK_nil, cE_kill, cE_len, u32_one, u32_app1, u32_set, Nat.mul_one, spSt, d2, ↓hold_pre, awayP, runOps, regK, step1, newK, genR, appR, obl, buildR, Value.cells, closeK, keepH, outV, retK, ret1, retC, RetV, Option.getD, runD, stepD, afterK, undef, simprocAttr, sxB, ↓sxD, sxE, sxTab]))
    rw [e1] at k2
    refine Stop.go ?_
    (replace hb0 := true_and True); refine Go1.mk ?_; repeat' ((first | (with_reducible refine Go1.go ?_) | ((with_reducible first | refine brv_mk ?_ ?_ | refine gsplitD ?_ ?_ | refine gsplitG ?_ ?_) <;> intro h <;> (try simp only [Bool.not_eq_true', Bool.not_eq_false'] at h) <;> replace hb0 := h) | ((with_reducible refine isCall (f := 92) ?_); refine callA ?_) | ((with_reducible refine isCall0 (f := 92) ?_); refine callA0 ?_) | ((with_reducible refine isCallS (f := 92) ?_); refine (down_ok 1011 0 (la + 1) s' U (by omega) (by omega) (by omega) hou (fun U' o' m' k4 k5 => Stop.mk ?_))) | (refine And.intro ?ob ?_; case ob => ((try simp only [sxO, ne_eq, maxLen] at *); omega)) | fail) <;> (try simp (config := { maxSteps := 1000000 }) only [hb0, cE_ment, hasK_nil, cE_kill, cE_len, u32_one, u32_app1, u32_set, Nat.mul_one, ↓hold_pre, awayP, runOps, regK, step1, newK, genR, appR, obl, buildR, Value.cells, closeK, keepH, outV, retK, ret1, retC, RetV, Option.getD, runD, stepD, afterK, undef, simprocAttr, sxB, ↓sxD, sxE, sxTab]))
    rw [List.drop_zero, List.take_of_length_le (by omega), e2] at k5
    refine Stop.go ?_
    (replace hb0 := true_and True); refine Go1.mk ?_; repeat' ((first | (with_reducible refine Go1.go ?_) | ((with_reducible first | refine brv_mk ?_ ?_ | refine gsplitD ?_ ?_ | refine gsplitG ?_ ?_) <;> intro h <;> (try simp only [Bool.not_eq_true', Bool.not_eq_false'] at h) <;> replace hb0 := h) | ((with_reducible refine isCall (f := 89) ?_); refine callA ?_) | ((with_reducible refine isCall0 (f := 89) ?_); refine callA0 ?_) | ((with_reducible refine isCallS (f := 89) ?_); refine (rtrim_part 1011 o' m' _ U' (x % y) k5 (by omega) (fun w2 M2 k6 k7 k8 => Stop.mk ?_))) | (refine And.intro ?ob ?_; case ob => ((try simp only [sxO, ne_eq, maxLen] at *); omega)) | fail) <;> (try simp (config := { maxSteps := 1000000 }) only [hb0, cE_ment, hasK_nil, cE_kill, cE_len, u32_one, u32_app1, u32_set, Nat.mul_one, ↓hold_pre, awayP, runOps, regK, step1, newK, genR, appR, obl, buildR, Value.cells, closeK, keepH, outV, retK, ret1, retC, RetV, Option.getD, runD, stepD, afterK, undef, simprocAttr, sxB, ↓sxD, sxE, sxTab]))
    refine Stop.go ?_
    (replace hb0 := true_and True); refine Go1.mk ?_; repeat' ((first | (with_reducible refine Go1.go ?_) | ((with_reducible first | refine brv_mk ?_ ?_ | refine gsplitD ?_ ?_ | refine gsplitG ?_ ?_) <;> intro h <;> (try simp only [Bool.not_eq_true', Bool.not_eq_false'] at h) <;> replace hb0 := h) | (refine And.intro ?ob ?_; case ob => ((try simp only [sxO, ne_eq, maxLen] at *); omega)) | fail) <;> (try simp (config := { maxSteps := 1000000 }) only [hb0, k2.one, k7.one, ↓hold_pre, awayP, runOps, regK, step1, newK, genR, appR, obl, buildR, Value.cells, closeK, keepH, outV, retK, ret1, retC, RetV, Option.getD, runD, stepD, afterK, undef, simprocAttr, sxB, ↓sxD, sxE, sxTab]))
    exact .inl (hK _ _ _ (k1.trans k6) (k2.le k6) k7 k3 (k8.le k1))
  obtain ⟨i, rfl⟩ : ∃ i, j = i + 1 := ⟨j - 1, by omega⟩
  have ej : (((i + 1 : Nat) : Int) - 1) = (i : Int) := by omega
  have d2 : decide ((0 : Int) ≤ (i : Int)) = true := by simp
  obtain ⟨hU, hlC, hCV, hS0, hvC⟩ := div_part hI o1 (show i + (n + 1) ≤ la + 1 by omega)
  have hPl : (U.take i).length = i := by rw [List.length_take, hI.lu]; omega
  have hoC : okN ((U.drop i).take (n + 1)) := okN_take (okN_drop hI.ou i) (n + 1)
  have step : ∀ (C' : List Nat) (d : Nat), C'.length = n + 1 → okN C' → valN C' + d * (y * 2 ^ s') = valN ((U.drop i).take (n + 1)) → valN C' < y * 2 ^ s' → d < 4294967296 → DivI (y * 2 ^ s') i mq (la + 1) U0 (U.take i ++ (C' ++ U.drop (i + (n + 1)))) (Q.set i d) := fun C' d f1 f2 f3 f4 f5 =>
    div_step hI o1 (by omega) h1 (by omega) f1 f2 f3 f4 f5
  have hQl := hI.lq
  generalize U.take i = P at *
  generalize (U.drop i).take (n + 1) = C at *
  generalize U.drop (i + (n + 1)) = S at *
  subst hU
  clear hI hst hvC hV g1 g2 g3
  rw [← valN_ofN (y * 2 ^ s')] at hCV
  have hdC : valN C / valN (ofN (y * 2 ^ s')) < 4294967296 := by rw [Nat.div_lt_iff_lt_mul hB0]; exact hCV
  obtain ⟨m, rfl⟩ : ∃ m, n = m + 2 := ⟨n - 2, by omega⟩
  have htop : 2147483648 ≤ (ofN (y * 2 ^ s'))[m + 1]'(by omega) := hbt (by omega)
  obtain ⟨p, cr, vr, hcr, hvr, hcC, hcB, ht⟩ := guess_facts hlC hbl hoC (okN_ofN _) htop hCV
  have b1 := okN_at hoC (show m + 2 < C.length by omega)
  have b2 := okN_at hoC (show m + 1 < C.length by omega)
  have b3 := okN_at hoC (show m < C.length by omega)
  have b4 := ofN_ok_at (show m + 1 < (ofN (y * 2 ^ s')).length by omega)
  have b5 := ofN_ok_at (show m < (ofN (y * 2 ^ s')).length by omega)
  have i1 := u32_mid (S := S) hPl (show m + 2 < C.length by omega)
  have i2 := u32_mid (S := S) hPl (show m + 1 < C.length by omega)
  have i3 := u32_mid (S := S) hPl (show m < C.length by omega)
  have j1 := u32_at (show m + 1 < (ofN (y * 2 ^ s')).length by omega)
  have j2 := u32_at (show m < (ofN (y * 2 ^ s')).length by omega)
  generalize C[m + 2] = c0 at *
  generalize C[m + 1] = c1 at *
  generalize C[m] = c2 at *
  generalize (ofN (y * 2 ^ s'))[m + 1] = v1 at *
  generalize (ofN (y * 2 ^ s'))[m] = v2 at *
  have x0 : IntKind.i64.wrap ((i : Int) + ((m + 2 : Nat) : Int)) = ((i + (m + 2) : Nat) : Int) := by rw [wrap_id (by omega) (by omega)]; omega
  have x1 : IntKind.i64.wrap (((i + (m + 2) : Nat) : Int) - 1) = ((i + (m + 1) : Nat) : Int) := by rw [wrap_id (by omega) (by omega)]; omega
  have x2 : IntKind.i64.wrap (((i + (m + 2) : Nat) : Int) - 2) = ((i + m : Nat) : Int) := by rw [wrap_id (by omega) (by omega)]; omega
  have x3 : IntKind.i64.wrap (((m + 2 : Nat) : Int) - 1) = ((m + 1 : Nat) : Int) := by rw [wrap_id (by omega) (by omega)]; omega
  have x4 : IntKind.i64.wrap (((m + 2 : Nat) : Int) - 2) = ((m : Nat) : Int) := by rw [wrap_id (by omega) (by omega)]; omega
  have y0 : (0 : Int) ≤ ((i + (m + 2) : Nat) : Int) := by omega
  have y1 : (0 : Int) ≤ ((i + (m + 1) : Nat) : Int) := by omega
  have y2 : (0 : Int) ≤ ((i + m : Nat) : Int) := by omega
  have y3 : (0 : Int) ≤ ((m + 1 : Nat) : Int) := by omega
  have y4 : (0 : Int) ≤ (m : Int) := by omega
  have z0 : ((i + (m + 2) : Nat) : Int) < ((la + 1 : Nat) : Int) := by omega
  have z1 : ((i + (m + 1) : Nat) : Int) < ((la + 1 : Nat) : Int) := by omega
  have z2 : ((i + m : Nat) : Int) < ((la + 1 : Nat) : Int) := by omega
  have z3 : ((m + 1 : Nat) : Int) < ((m + 2 : Nat) : Int) := by omega
  have z4 : (m : Int) < ((m + 2 : Nat) : Int) := by omega
  have u0 : IntKind.u64.wrap (c0 : Int) = (c0 : Int) := wrap64_id (by omega)
  have u1 : IntKind.u64.wrap (c1 : Int) = (c1 : Int) := wrap64_id (by omega)
  have u2 : IntKind.u64.wrap (c2 : Int) = (c2 : Int) := wrap64_id (by omega)
  have u3 : IntKind.u64.wrap (v1 : Int) = (v1 : Int) := wrap64_id (by omega)
  have u4 : IntKind.u64.wrap (v2 : Int) = (v2 : Int) := wrap64_id (by omega)
  have w5 := shl32 b1
  have w6 := or32 b1 b2
  obtain ⟨top, htp⟩ : ∃ top, c0 * 4294967296 + c1 = top := ⟨_, rfl⟩
  rw [htp] at w6 hcC
  have ht2 : top ≤ v1 * 4294967296 + 4294967295 := by omega
  have w7 := quo64 (s := top) (d := v1) (by omega)
  have w8 := rem64 top v1
  have n1 : ((v1 : Int) = 0) = False := by simp; omega
  have w11 : IntKind.i64.wrap ((i : Int) - 1) = (i : Int) - 1 := wrap_id (by omega) (by omega)
  have d3 : (0 : Int) ≤ (i : Int) := by omega
  have d6 : (i : Int) < (mq : Int) := by omega
  have d7 : (i < Q.length) = True := by simp; omega
  (replace hb0 := true_and True); refine Go1.mk ?_; repeat' ((first | (with_reducible refine Go1.go ?_) | ((with_reducible first | refine brv_mk ?_ ?_ | refine gsplitD ?_ ?_ | refine gsplitG ?_ ?_) <;> intro h <;> (try simp only [Bool.not_eq_true', Bool.not_eq_false'] at h) <;> replace hb0 := h) | ((with_reducible refine isDraw [some 73, some 74, some 75, some 76, some 77, some 78, some 79, some 80, some 81, some 82, some 83, some 84, some 85, some 86, some 87, some 88, some 89, some 13] (by decide) ?_); refine draw_rule [(0, []), (1, []), (2, []), (3, []), (4, []), (5, []), (6, []), (7, []), (8, [5]), (9, [5]), (10, [5]), (11, [5]), (12, [5]), (13, [5]), (14, [5]), (15, [5]), (16, []), (17, [])] [[], [], [], [1, 2], [0, 1, 2, 3], [0, 1, 2, 3, 4], [0, 1, 2, 3, 4, 5], [0, 1, 2, 3, 4, 5, 6], [], [], [], [9, 10], [9, 10, 11], [8, 9, 10, 11, 12], [8, 9, 10, 11, 12, 13], [8, 9, 10, 11, 12, 13, 14], [0, 1, 2, 3, 4, 5, 6, 7, 8, 9, 10, 11, 12, 13, 14, 15], [0, 1, 2, 3, 4, 5, 6, 7, 8, 9, 10, 11, 12, 13, 14, 15, 16]] [73, 74, 75, 76, 77, 78, 79, 80, 81, 82, 83, 84, 85, 86, 87, 88] [] (by kernel_rfl) (by kernel_rfl) (by kernel_rfl) (by kernel_rfl) (by exact trivial) ?_) | ((with_reducible refine isDraw [some 90, some 91, some 92, some 93, some 94, some 95, some 96, some 97, some 98, some 99, some 100, some 101, some 102, some 103, some 104, some 105, some 14, some 15] (by decide) ?_); refine draw_rule [(0, []), (1, []), (2, []), (3, []), (4, []), (5, []), (6, []), (7, []), (8, [5]), (9, [5]), (10, [5]), (11, [5]), (12, [5]), (13, [5]), (14, [5]), (15, [5]), (16, [13]), (17, [])] [[], [], [], [2], [1, 2, 3], [1, 2, 3, 4], [1, 2, 3, 4, 5], [0, 1, 2, 3, 4, 5, 6], [], [], [], [10], [9, 10, 11], [9, 10, 11, 12], [9, 10, 11, 12, 13], [8, 9, 10, 11, 12, 13, 14], [0, 1, 2, 3, 4, 5, 6, 7], [0, 1, 2, 3, 4, 5, 6, 7, 8, 9, 10, 11, 12, 13, 14, 15, 16]] [90, 91, 92, 93, 94, 95, 96, 97, 98, 99, 100, 101, 102, 103, 104, 105, 14] [] (by kernel_rfl) (by kernel_rfl) (by kernel_rfl) (by kernel_rfl) (by exact trivial) ?_) | (refine And.intro ?ob ?_; case ob => ((try simp only [sxO, ne_eq, maxLen] at *); omega)) | fail) <;> (try simp (config := { maxSteps := 1000000 }) only [hb0, cE_ment, hasK_nil, cE_kill, cE_len, u32_one, u32_app1, u32_set, Nat.mul_one, u32V, spSt, ej, d2, i1, i2, j1, x0, x1, x3, y0, y1, y3, z0, z1, z3, u0, u1, u3, w5, w6, w7, w8, n1, ↓hold_pre, awayP, runOps, regK, step1, newK, genR, appR, obl, buildR, Value.cells, closeK, keepH, outV, retK, ret1, retC, RetV, Option.getD, runD, stepD, afterK, undef, simprocAttr, sxB, ↓sxD, sxE, sxTab]))
  refine ⟨fun d z => ∃ q r, q = d ∧ valN C / valN (ofN (y * 2 ^ s')) ≤ q ∧ q * v1 + r = top ∧ r < 8589934592 ∧ z = giSt M la mq (m + 2) s' i q r (P ++ (C ++ S)) (ofN (y * 2 ^ s')) Q,
    ⟨top / v1, giSt M la mq (m + 2) s' i (top / v1) (top % v1) (P ++ (C ++ S)) (ofN (y * 2 ^ s')) Q, le_sub ⟨rfl, rfl, rfl, rfl, rfl, rfl, rfl, rfl, trivial⟩ ⟨rfl, rfl, rfl, trivial⟩ rfl rfl rfl (keepLt0 _), ⟨_, _, rfl, guess_init hcB hcC hcr b3 (by omega), by rw [Nat.mul_comm]; exact Nat.div_add_mod top v1, Nat.lt_trans (Nat.mod_lt _ (by omega)) (by omega), rfl⟩⟩, ?_⟩
  clear w5 w6 w7 w8 i1 i2
  rintro d z ⟨q, r, rfl, hqd, hqr, hr, rfl⟩
  by_cases hrW : 4294967296 ≤ r
  · have d1 : decide ((r : Int) < 4294967296) = false := by simp; omega
    obtain ⟨h5, h6⟩ := guess_brk (u2 := c2) hqr ht2 b5 (by omega) hrW
    have h7 := guess_exit hcB hcC hvr htop hqr h5 h6
    (replace hb0 := true_and True); refine Go1.mk ?_; repeat' ((first | (with_reducible refine Go1.go ?_) | ((with_reducible first | refine brv_mk ?_ ?_ | refine gsplitD ?_ ?_ | refine gsplitG ?_ ?_) <;> intro h <;> (try simp only [Bool.not_eq_true', Bool.not_eq_false'] at h) <;> replace hb0 := h) | ((with_reducible refine isCall (f := 106) ?_); refine callA ?_) | ((with_reducible refine isCall0 (f := 106) ?_); refine callA0 ?_) | ((with_reducible refine isCallS (f := 106) ?_); refine (place_ok P C S (ofN (y * 2 ^ s')) (la + 1) i (m + 2) q (by omega) hPl hlC hbl (by omega) (by omega) hoC (okN_ofN _) (h5) hB0 hqd (h7) (fun C' f1 f2 f3 f4 => Stop.mk ?_))) | ((with_reducible refine isDraw [some 106, some 107, some 108, some 109, some 110, some 111, some 112, some 113, some 114, some 115, some 116, some 117, some 118, some 119, some 120, some 121, some 122, some 123, some 124, some 125, some 126, some 127, some 128, some 129, some 130, some 131, some 132, some 133] (by decide) ?_); refine draw_rule [(0, []), (1, []), (2, []), (3, []), (4, []), (5, []), (6, []), (7, []), (8, []), (9, []), (10, []), (11, []), (12, []), (13, []), (14, [11]), (15, [11]), (16, [11]), (17, [11]), (18, [11]), (19, [11]), (20, [11]), (21, [11]), (22, [11]), (23, [11]), (24, [11]), (25, []), (26, []), (27, [])] [[], [0], [0, 1], [0, 1, 2], [0, 1, 2, 3], [0, 1, 2, 3, 4], [0, 1, 2, 3, 4, 5], [0, 1, 2, 3, 4, 5], [0, 1, 2, 3, 4, 5], [0, 1, 2, 3, 4, 5, 8], [0, 1, 2, 3, 4, 5, 7, 8, 9], [0, 1, 2, 3, 4, 5, 7, 8, 9, 10], [0, 1, 2, 3, 4, 5, 7, 8, 9, 10, 11], [0, 1, 2, 3, 4, 5, 6, 7, 8, 9, 10, 11, 12], [0, 1, 2, 3, 4, 5], [0, 1, 2, 3, 4, 5, 14], [0, 1, 2, 3, 4, 5], [0, 1, 2, 3, 4, 5], [0, 1, 2, 3, 4, 5], [0, 1, 2, 3, 4, 5, 17, 18], [0, 1, 2, 3, 4, 5, 17, 18, 19], [0, 1, 2, 3, 4, 5, 16, 17, 18, 19, 20], [0, 1, 2, 3, 4, 5, 16, 17, 18, 19, 20, 21], [0, 1, 2, 3, 4, 5, 16, 17, 18, 19, 20, 21, 22], [0, 1, 2, 3, 4, 5, 14, 15, 16, 17, 18, 19, 20, 21, 22, 23], [0, 1, 2, 3, 4, 5, 6, 7, 8, 9, 10, 11, 12, 13, 14, 15, 16, 17, 18, 19, 20, 21, 22, 23, 24], [0, 1, 2, 3, 4, 5, 6, 7, 8, 9, 10, 11, 12, 13, 14, 15, 16, 17, 18, 19, 20, 21, 22, 23, 24, 25], [0, 1, 2, 3, 4, 5, 6, 7, 8, 9, 10, 11, 12, 13, 14, 15, 16, 17, 18, 19, 20, 21, 22, 23, 24, 25, 26]] [112, 113, 114, 115, 116, 117, 118, 119, 120, 121, 122, 123, 124, 125, 126, 127, 128, 129, 130] [] (by kernel_rfl) (by kernel_rfl) (by kernel_rfl) (by kernel_rfl) (by exact trivial) ?_) | (refine And.intro ?ob ?_; case ob => ((try simp only [sxO, ne_eq, maxLen] at *); omega)) | fail) <;> (try simp (config := { maxSteps := 1000000 }) only [hb0, cE_ment, hasK_nil, cE_kill, cE_len, u32_one, u32_app1, u32_set, Nat.mul_one, u32V, giSt, plH, d1, x0, x2, x3, x4, y2, y3, y4, z2, z3, z4, ↓hold_pre, awayP, runOps, regK, step1, newK, genR, appR, obl, buildR, Value.cells, closeK, keepH, outV, retK, ret1, retC, RetV, Option.getD, runD, stepD, afterK, undef, simprocAttr, sxB, ↓sxD, sxE, sxTab]))
    rw [valN_ofN] at f3 f4 hdC ⊢
    have st := step C' _ f1 f2 f3 f4 hdC
    refine Stop.go ?_
    (replace hb0 := true_and True); refine Go1.mk ?_; repeat' ((first | (with_reducible refine Go1.go ?_) | ((with_reducible first | refine brv_mk ?_ ?_ | refine gsplitD ?_ ?_ | refine gsplitG ?_ ?_) <;> intro h <;> (try simp only [Bool.not_eq_true', Bool.not_eq_false'] at h) <;> replace hb0 := h) | (refine And.intro ?ob ?_; case ob => ((try simp only [sxO, ne_eq, maxLen] at *); omega)) | fail) <;> (try simp (config := { maxSteps := 1000000 }) only [hb0, cE_ment, hasK_nil, cE_kill, cE_len, u32_one, u32_app1, u32_set, Nat.mul_one, plH, d3, d6, d7, w11, ↓hold_pre, awayP, runOps, regK, step1, newK, genR, appR, obl, buildR, Value.cells, closeK, keepH, outV, retK, ret1, retC, RetV, Option.getD, runD, stepD, afterK, undef, simprocAttr, sxB, ↓sxD, sxE, sxTab]))
    exact ⟨i, spSt M la mq (m + 2) s' i _ _ _, by omega, le_sub ⟨rfl, rfl, rfl, rfl, rfl, rfl, trivial⟩ ⟨rfl, rfl, rfl, trivial⟩ rfl rfl rfl (keepLt0 _), i, _, _, rfl, by omega, st, rfl⟩
  have d1 : decide ((r : Int) < 4294967296) = true := by simp; omega
  have body : ∀ (h : 4294967296 ≤ q ∨ r * 4294967296 + c2 < q * v2), 1 ≤ q ∧ valN C / valN (ofN (y * 2 ^ s')) ≤ q - 1 ∧ (q - 1) * v1 + (r + v1) = top ∧ IntKind.u64.wrap ((q : Int) - 1) = ((q - 1 : Nat) : Int) ∧ IntKind.u64.wrap ((r : Int) + (v1 : Int)) = ((r + v1 : Nat) : Int) := fun h => by
    obtain ⟨h1, h2⟩ := guess_dec hcB hcC hcr hCV hqr hqd h
    have hq2 : q ≤ top / v1 := by rw [Nat.le_div_iff_mul_le (by omega)]; omega
    have hq3 : q ≤ top := Nat.le_trans hq2 (Nat.div_le_self _ _)
    have h6 : 1 ≤ q := Nat.le_trans (Nat.le_add_left 1 _) h1
    exact ⟨h6, Nat.le_sub_one_of_lt h1, h2, by rw [wrap64_i (by omega) (by omega)]; omega, by rw [← Int.natCast_add, wrap64_id (by omega)]⟩
  by_cases hqW : 4294967296 ≤ q
  · have d4 : decide ((4294967296 : Int) ≤ (q : Int)) = true := by simp; omega
    obtain ⟨h1, h2, h3, w7, w8⟩ := body (.inl hqW)
    (replace hb0 := true_and True); refine Go1.mk ?_; repeat' ((first | (with_reducible refine Go1.go ?_) | ((with_reducible first | refine brv_mk ?_ ?_ | refine gsplitD ?_ ?_ | refine gsplitG ?_ ?_) <;> intro h <;> (try simp only [Bool.not_eq_true', Bool.not_eq_false'] at h) <;> replace hb0 := h) | ((with_reducible refine isDraw [some 106, some 107, some 108, some 109, some 110, some 111, some 112, some 113, some 114, some 115, some 116, some 117, some 118, some 119, some 120, some 121, some 122, some 123, some 124, some 125, some 126, some 127, some 128, some 129, some 130, some 131, some 132, some 133] (by decide) ?_); refine draw_rule [(0, []), (1, []), (2, []), (3, []), (4, []), (5, []), (6, []), (7, []), (8, []), (9, []), (10, []), (11, []), (12, []), (13, []), (14, [11]), (15, [11]), (16, [11]), (17, [11]), (18, [11]), (19, [11]), (20, [11]), (21, [11]), (22, [11]), (23, [11]), (24, [11]), (25, []), (26, []), (27, [])] [[], [0], [0, 1], [0, 1, 2], [0, 1, 2, 3], [0, 1, 2, 3, 4], [0, 1, 2, 3, 4, 5], [0, 1, 2, 3, 4, 5], [0, 1, 2, 3, 4, 5], [0, 1, 2, 3, 4, 5, 8], [0, 1, 2, 3, 4, 5, 7, 8, 9], [0, 1, 2, 3, 4, 5, 7, 8, 9, 10], [0, 1, 2, 3, 4, 5, 7, 8, 9, 10, 11], [0, 1, 2, 3, 4, 5, 6, 7, 8, 9, 10, 11, 12], [0, 1, 2, 3, 4, 5], [0, 1, 2, 3, 4, 5, 14], [0, 1, 2, 3, 4, 5], [0, 1, 2, 3, 4, 5], [0, 1, 2, 3, 4, 5], [0, 1, 2, 3, 4, 5, 17, 18], [0, 1, 2, 3, 4, 5, 17, 18, 19], [0, 1, 2, 3, 4, 5, 16, 17, 18, 19, 20], [0, 1, 2, 3, 4, 5, 16, 17, 18, 19, 20, 21], [0, 1, 2, 3, 4, 5, 16, 17, 18, 19, 20, 21, 22], [0, 1, 2, 3, 4, 5, 14, 15, 16, 17, 18, 19, 20, 21, 22, 23], [0, 1, 2, 3, 4, 5, 6, 7, 8, 9, 10, 11, 12, 13, 14, 15, 16, 17, 18, 19, 20, 21, 22, 23, 24], [0, 1, 2, 3, 4, 5, 6, 7, 8, 9, 10, 11, 12, 13, 14, 15, 16, 17, 18, 19, 20, 21, 22, 23, 24, 25], [0, 1, 2, 3, 4, 5, 6, 7, 8, 9, 10, 11, 12, 13, 14, 15, 16, 17, 18, 19, 20, 21, 22, 23, 24, 25, 26]] [112, 113, 114, 115, 116, 117, 118, 119, 120, 121, 122, 123, 124, 125, 126, 127, 128, 129, 130] [] (by kernel_rfl) (by kernel_rfl) (by kernel_rfl) (by kernel_rfl) (by exact trivial) ?_) | ((with_reducible refine isDraw [some 134, some 135, some 136, some 137, some 138, some 139, some 140, some 141, some 142, some 143, some 14, some 15] (by decide) ?_); refine draw_rule [(0, []), (1, []), (2, []), (3, []), (4, []), (5, []), (6, []), (7, []), (8, []), (9, []), (10, [7]), (11, [])] [[], [0], [], [], [], [4], [3, 4, 5], [3, 4, 5, 6], [3, 4, 5, 6, 7], [2, 3, 4, 5, 6, 7, 8], [0, 1], [0, 1, 2, 3, 4, 5, 6, 7, 8, 9, 10]] [134, 135, 136, 137, 138, 139, 140, 141, 142, 143] [14] (by kernel_rfl) (by kernel_rfl) (by kernel_rfl) (by kernel_rfl) (by exact ⟨rfl, trivial⟩) ?_) | (refine And.intro ?ob ?_; case ob => ((try simp only [sxO, ne_eq, maxLen] at *); omega)) | fail) <;> (try simp (config := { maxSteps := 1000000 }) only [hb0, cE_ment, hasK_nil, cE_kill, cE_len, u32_one, u32_app1, u32_set, Nat.mul_one, u32V, giSt, d1, d4, i3, j1, j2, x0, x2, x3, x4, y2, y3, y4, z2, z3, z4, u2, u3, u4, w7, w8, ↓hold_pre, awayP, runOps, regK, step1, newK, genR, appR, obl, buildR, Value.cells, closeK, keepH, outV, retK, ret1, retC, RetV, Option.getD, runD, stepD, afterK, undef, simprocAttr, sxB, ↓sxD, sxE, sxTab]))
    exact ⟨q - 1, giSt M la mq (m + 2) s' i (q - 1) (r + v1) _ _ _, by omega, le_sub ⟨rfl, rfl, rfl, rfl, rfl, rfl, rfl, rfl, trivial⟩ ⟨rfl, rfl, rfl, trivial⟩ rfl rfl rfl (keepLt0 _), _, _, rfl, h2, h3, by omega, rfl⟩
  have d4 : decide ((4294967296 : Int) ≤ (q : Int)) = false := by simp; omega
  have hm2 := mul_le (show q < 4294967296 by omega) b5
  have w9 : IntKind.u64.wrap ((q : Int) * (v2 : Int)) = ((q * v2 : Nat) : Int) := by rw [← Int.natCast_mul, wrap64_id (by omega)]
  have w10 := shl32 (show r < 4294967296 by omega)
  have w12 := or32 (show r < 4294967296 by omega) b3
  by_cases hc : r * 4294967296 + c2 < q * v2
  · have d5 : decide (((r * 4294967296 + c2 : Nat) : Int) < ((q * v2 : Nat) : Int)) = true := by rw [decide_eq_true_eq]; exact Int.ofNat_lt.2 hc
    obtain ⟨h1, h2, h3, w7, w8⟩ := body (.inr hc)
    (replace hb0 := true_and True); refine Go1.mk ?_; repeat' ((first | (with_reducible refine Go1.go ?_) | ((with_reducible first | refine brv_mk ?_ ?_ | refine gsplitD ?_ ?_ | refine gsplitG ?_ ?_) <;> intro h <;> (try simp only [Bool.not_eq_true', Bool.not_eq_false'] at h) <;> replace hb0 := h) | ((with_reducible refine isDraw [some 106, some 107, some 108, some 109, some 110, some 111, some 112, some 113, some 114, some 115, some 116, some 117, some 118, some 119, some 120, some 121, some 122, some 123, some 124, some 125, some 126, some 127, some 128, some 129, some 130, some 131, some 132, some 133] (by decide) ?_); refine draw_rule [(0, []), (1, []), (2, []), (3, []), (4, []), (5, []), (6, []), (7, []), (8, []), (9, []), (10, []), (11, []), (12, []), (13, []), (14, [11]), (15, [11]), (16, [11]), (17, [11]), (18, [11]), (19, [11]), (20, [11]), (21, [11]), (22, [11]), (23, [11]), (24, [11]), (25, []), (26, []), (27, [])] [[], [0], [0, 1], [0, 1, 2], [0, 1, 2, 3], [0, 1, 2, 3, 4], [0, 1, 2, 3, 4, 5], [0, 1, 2, 3, 4, 5], [0, 1, 2, 3, 4, 5], [0, 1, 2, 3, 4, 5, 8], [0, 1, 2, 3, 4, 5, 7, 8, 9], [0, 1, 2, 3, 4, 5, 7, 8, 9, 10], [0, 1, 2, 3, 4, 5, 7, 8, 9, 10, 11], [0, 1, 2, 3, 4, 5, 6, 7, 8, 9, 10, 11, 12], [0, 1, 2, 3, 4, 5], [0, 1, 2, 3, 4, 5, 14], [0, 1, 2, 3, 4, 5], [0, 1, 2, 3, 4, 5], [0, 1, 2, 3, 4, 5], [0, 1, 2, 3, 4, 5, 17, 18], [0, 1, 2, 3, 4, 5, 17, 18, 19], [0, 1, 2, 3, 4, 5, 16, 17, 18, 19, 20], [0, 1, 2, 3, 4, 5, 16, 17, 18, 19, 20, 21], [0, 1, 2, 3, 4, 5, 16, 17, 18, 19, 20, 21, 22], [0, 1, 2, 3, 4, 5, 14, 15, 16, 17, 18, 19, 20, 21, 22, 23], [0, 1, 2, 3, 4, 5, 6, 7, 8, 9, 10, 11, 12, 13, 14, 15, 16, 17, 18, 19, 20, 21, 22, 23, 24], [0, 1, 2, 3, 4, 5, 6, 7, 8, 9, 10, 11, 12, 13, 14, 15, 16, 17, 18, 19, 20, 21, 22, 23, 24, 25], [0, 1, 2, 3, 4, 5, 6, 7, 8, 9, 10, 11, 12, 13, 14, 15, 16, 17, 18, 19, 20, 21, 22, 23, 24, 25, 26]] [112, 113, 114, 115, 116, 117, 118, 119, 120, 121, 122, 123, 124, 125, 126, 127, 128, 129, 130] [] (by kernel_rfl) (by kernel_rfl) (by kernel_rfl) (by kernel_rfl) (by exact trivial) ?_) | ((with_reducible refine isDraw [some 134, some 135, some 136, some 137, some 138, some 139, some 140, some 141, some 142, some 143, some 14, some 15] (by decide) ?_); refine draw_rule [(0, []), (1, []), (2, []), (3, []), (4, []), (5, []), (6, []), (7, []), (8, []), (9, []), (10, [7]), (11, [])] [[], [0], [], [], [], [4], [3, 4, 5], [3, 4, 5, 6], [3, 4, 5, 6, 7], [2, 3, 4, 5, 6, 7, 8], [0, 1], [0, 1, 2, 3, 4, 5, 6, 7, 8, 9, 10]] [134, 135, 136, 137, 138, 139, 140, 141, 142, 143] [14] (by kernel_rfl) (by kernel_rfl) (by kernel_rfl) (by kernel_rfl) (by exact ⟨rfl, trivial⟩) ?_) | (refine And.intro ?ob ?_; case ob => ((try simp only [sxO, ne_eq, maxLen] at *); omega)) | fail) <;> (try simp (config := { maxSteps := 1000000 }) only [hb0, cE_ment, hasK_nil, cE_kill, cE_len, u32_one, u32_app1, u32_set, Nat.mul_one, u32V, giSt, d1, d4, d5, i3, j1, j2, x0, x2, x3, x4, y2, y3, y4, z2, z3, z4, u2, u3, u4, w7, w8, w9, w10, w12, ↓hold_pre, awayP, runOps, regK, step1, newK, genR, appR, obl, buildR, Value.cells, closeK, keepH, outV, retK, ret1, retC, RetV, Option.getD, runD, stepD, afterK, undef, simprocAttr, sxB, ↓sxD, sxE, sxTab]))
    exact ⟨q - 1, giSt M la mq (m + 2) s' i (q - 1) (r + v1) _ _ _, by omega, le_sub ⟨rfl, rfl, rfl, rfl, rfl, rfl, rfl, rfl, trivial⟩ ⟨rfl, rfl, rfl, trivial⟩ rfl rfl rfl (keepLt0 _), _, _, rfl, h2, h3, by omega, rfl⟩
  · have d5 : decide (((r * 4294967296 + c2 : Nat) : Int) < ((q * v2 : Nat) : Int)) = false := by rw [decide_eq_false_iff_not]; exact fun h => hc (Int.ofNat_lt.1 h)
    have h7 := guess_exit hcB hcC hvr htop hqr (by omega) (show q * v2 ≤ r * 4294967296 + c2 by omega)
    (replace hb0 := true_and True); refine Go1.mk ?_; repeat' ((first | (with_reducible refine Go1.go ?_) | ((with_reducible first | refine brv_mk ?_ ?_ | refine gsplitD ?_ ?_ | refine gsplitG ?_ ?_) <;> intro h <;> (try simp only [Bool.not_eq_true', Bool.not_eq_false'] at h) <;> replace hb0 := h) | ((with_reducible refine isCall (f := 106) ?_); refine callA ?_) | ((with_reducible refine isCall0 (f := 106) ?_); refine callA0 ?_) | ((with_reducible refine isCallS (f := 106) ?_); refine (place_ok P C S (ofN (y * 2 ^ s')) (la + 1) i (m + 2) q (by omega) hPl hlC hbl (by omega) (by omega) hoC (okN_ofN _) (by omega) hB0 hqd (h7) (fun C' f1 f2 f3 f4 => Stop.mk ?_))) | ((with_reducible refine isDraw [some 106, some 107, some 108, some 109, some 110, some 111, some 112, some 113, some 114, some 115, some 116, some 117, some 118, some 119, some 120, some 121, some 122, some 123, some 124, some 125, some 126, some 127, some 128, some 129, some 130, some 131, some 132, some 133] (by decide) ?_); refine draw_rule [(0, []), (1, []), (2, []), (3, []), (4, []), (5, []), (6, []), (7, []), (8, []), (9, []), (10, []), (11, []), (12, []), (13, []), (14, [11]), (15, [11]), (16, [11]), (17, [11]), (18, [11]), (19, [11]), (20, [11]), (21, [11]), (22, [11]), (23, [11]), (24, [11]), (25, []), (26, []), (27, [])] [[], [0], [0, 1], [0, 1, 2], [0, 1, 2, 3], [0, 1, 2, 3, 4], [0, 1, 2, 3, 4, 5], [0, 1, 2, 3, 4, 5], [0, 1, 2, 3, 4, 5], [0, 1, 2, 3, 4, 5, 8], [0, 1, 2, 3, 4, 5, 7, 8, 9], [0, 1, 2, 3, 4, 5, 7, 8, 9, 10], [0, 1, 2, 3, 4, 5, 7, 8, 9, 10, 11], [0, 1, 2, 3, 4, 5, 6, 7, 8, 9, 10, 11, 12], [0, 1, 2, 3, 4, 5], [0, 1, 2, 3, 4, 5, 14], [0, 1, 2, 3, 4, 5], [0, 1, 2, 3, 4, 5], [0, 1, 2, 3, 4, 5], [0, 1, 2, 3, 4, 5, 17, 18], [0, 1, 2, 3, 4, 5, 17, 18, 19], [0, 1, 2, 3, 4, 5, 16, 17, 18, 19, 20], [0, 1, 2, 3, 4, 5, 16, 17, 18, 19, 20, 21], [0, 1, 2, 3, 4, 5, 16, 17, 18, 19, 20, 21, 22], [0, 1, 2, 3, 4, 5, 14, 15, 16, 17, 18, 19, 20, 21, 22, 23], [0, 1, 2, 3, 4, 5, 6, 7, 8, 9, 10, 11, 12, 13, 14, 15, 16, 17, 18, 19, 20, 21, 22, 23, 24], [0, 1, 2, 3, 4, 5, 6, 7, 8, 9, 10, 11, 12, 13, 14, 15, 16, 17, 18, 19, 20, 21, 22, 23, 24, 25], [0, 1, 2, 3, 4, 5, 6, 7, 8, 9, 10, 11, 12, 13, 14, 15, 16, 17, 18, 19, 20, 21, 22, 23, 24, 25, 26]] [112, 113, 114, 115, 116, 117, 118, 119, 120, 121, 122, 123, 124, 125, 126, 127, 128, 129, 130] [] (by kernel_rfl) (by kernel_rfl) (by kernel_rfl) (by kernel_rfl) (by exact trivial) ?_) | (refine And.intro ?ob ?_; case ob => ((try simp only [sxO, ne_eq, maxLen] at *); omega)) | fail) <;> (try simp (config := { maxSteps := 1000000 }) only [hb0, cE_ment, hasK_nil, cE_kill, cE_len, u32_one, u32_app1, u32_set, Nat.mul_one, u32V, giSt, plH, d1, d4, d5, i3, j1, j2, x0, x2, x3, x4, y2, y3, y4, z2, z3, z4, u2, u3, u4, w9, w10, w12, ↓hold_pre, awayP, runOps, regK, step1, newK, genR, appR, obl, buildR, Value.cells, closeK, keepH, outV, retK, ret1, retC, RetV, Option.getD, runD, stepD, afterK, undef, simprocAttr, sxB, ↓sxD, sxE, sxTab]))
    rw [valN_ofN] at f3 f4 hdC ⊢
    have st := step C' _ f1 f2 f3 f4 hdC
    refine Stop.go ?_
    (replace hb0 := true_and True); refine Go1.mk ?_; repeat' ((first | (with_reducible refine Go1.go ?_) | ((with_reducible first | refine brv_mk ?_ ?_ | refine gsplitD ?_ ?_ | refine gsplitG ?_ ?_) <;> intro h <;> (try simp only [Bool.not_eq_true', Bool.not_eq_false'] at h) <;> replace hb0 := h) | (refine And.intro ?ob ?_; case ob => ((try simp only [sxO, ne_eq, maxLen] at *); omega)) | fail) <;> (try simp (config := { maxSteps := 1000000 }) only [hb0, cE_ment, hasK_nil, cE_kill, cE_len, u32_one, u32_app1, u32_set, Nat.mul_one, plH, d3, d6, d7, w11, ↓hold_pre, awayP, runOps, regK, step1, newK, genR, appR, obl, buildR, Value.cells, closeK, keepH, outV, retK, ret1, retC, RetV, Option.getD, runD, stepD, afterK, undef, simprocAttr, sxB, ↓sxD, sxE, sxTab]))
    exact ⟨i, spSt M la mq (m + 2) s' i _ _ _, by omega, le_sub ⟨rfl, rfl, rfl, rfl, rfl, rfl, trivial⟩ ⟨rfl, rfl, rfl, trivial⟩ rfl rfl rfl (keepLt0 _), i, _, _, rfl, by omega, st, rfl⟩
end
end Go.Proofs.YtamghpnjdohnjaaDoor.Sx
