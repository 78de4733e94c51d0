/- Part 37 of the texts of this claim: a symbolic executor and contracts of functions. -/
import Derived.Test.YtamghpnjdohnjaaDoorFsBP1
namespace Go.Proofs.YtamghpnjdohnjaaDoor.Sx
open Go Go.RowKit
set_option linter.unusedVariables false
set_option linter.unusedSimpArgs false
set_option maxRecDepth 100000
set_option maxHeartbeats 8000000
attribute [local congr] fin_congr finG_congr stepG_congr step1_congr runOps_congr brv_congr obl_congr condK_congr LoopK_congr seqK_congr CutK_congr vc_congr DrawK_congr regK_congr CallK_congr AskK_congr newK_congr retC_congr ret1_congr retK_congr outV_congr closeK_congr genR_congr appR_congr finD_congr finGD_congr stepGD_congr stepD_congr CallK0_congr runD_congr okR_congr CallS_congr vcX_congr
attribute [local congr] Stop_congr
theorem full_len {l : List Nat} (ho : okN l) (h : (ofN (valN l)).length = l.length) : l = ofN (valN l) := by
  refine canon ho fun hl h0 => ?_
  have h1 := valN_cut l (show l.length - 1 ≤ l.length by omega)
  rw [valN_drop (show l.length - 1 < l.length by omega), List.drop_of_length_le (show l.length ≤ l.length - 1 + 1 by omega), h0] at h1
  simp only [valN, Nat.mul_zero, Nat.add_zero] at h1
  have h2 := valN_lt (okN_take ho (l.length - 1))
  rw [List.length_take, Nat.min_eq_left (by omega), ← h1] at h2
  have := ofN_len_le h2
  omega
theorem guess_facts {m : Nat} {C B : List Nat} (hC : C.length = m + 3) (hB : B.length = m + 2) (hoC : okN C) (hoB : okN B) (htop : 2147483648 ≤ B[m + 1]) (hlt : valN C < 4294967296 * valN B) :
    ∃ p cr vr, cr < p ∧ vr < p ∧ valN C = ((C[m + 2] * 4294967296 + C[m + 1]) * 4294967296 + C[m]) * p + cr ∧ valN B = (B[m + 1] * 4294967296 + B[m]) * p + vr ∧ C[m + 2] ≤ B[m + 1] := by
  have hcC : valN C = (C[m + 2] * 4294967296 + C[m + 1]) * (wN m * 4294967296) + C[m] * wN m + valN (C.take m) := by
    rw [valN_cut C (show m ≤ C.length by omega), valN_drop (show m < C.length by omega), valN_drop (show m + 1 < C.length by omega), valN_drop (show m + 2 < C.length by omega), List.drop_of_length_le (show C.length ≤ m + 2 + 1 by omega)]
    simp only [valN]
    grind
  have hcB : valN B = (B[m + 1] * 4294967296 + B[m]) * wN m + valN (B.take m) := by
    rw [valN_cut B (show m ≤ B.length by omega), valN_drop (show m < B.length by omega), valN_drop (show m + 1 < B.length by omega), List.drop_of_length_le (show B.length ≤ m + 1 + 1 by omega)]
    simp only [valN]
    grind
  have hrC : valN (C.take m) < wN m := by
    have := valN_lt (okN_take hoC m)
    rwa [List.length_take, Nat.min_eq_left (by omega)] at this
  have hrB : valN (B.take m) < wN m := by
    have := valN_lt (okN_take hoB m)
    rwa [List.length_take, Nat.min_eq_left (by omega)] at this
  have b2 := okN_at hoC (show m + 1 < C.length by omega)
  have b3 := okN_at hoC (show m < C.length by omega)
  have b5 := okN_at hoB (show m < B.length by omega)
  have hpp := wN_pos m
  refine ⟨wN m, _, _, hrC, hrB, ?_, hcB, ?_⟩
  · rw [hcC]; grind
  · generalize hc0 : C[m + 2] = c0 at *
    generalize hc1 : C[m + 1] = c1 at *
    generalize hc2 : C[m] = c2 at *
    generalize hv1 : B[m + 1] = v1 at *
    generalize hv2 : B[m] = v2 at *
    generalize valN (C.take m) = cr at *
    generalize valN (B.take m) = vr at *
    generalize wN m = p at *
    generalize valN C = CC at *
    generalize valN B = V at *
    rcases Nat.lt_or_ge v1 c0 with h | h
    · exfalso
      have a1 : (v1 * 4294967296 + v2 + 1) * p * 4294967296 ≤ (c0 * 4294967296) * 4294967296 * p := by
        have : v1 * 4294967296 + v2 + 1 ≤ c0 * 4294967296 := by omega
        have := Nat.mul_le_mul_right (p * 4294967296) this
        grind
      grind
    · exact h
section
variable {M : Mem} {K : AV → Hp → Mem → Prop}
theorem rtrim_part (k o m : Nat) (T : TypeId) (L : List Nat) (x : Nat) (h : OwnN L o m x) (hb : L.length < 1000000000) (hK : ∀ w M', Mem.le M M' → IsL M' u32V w (ofN x) → FreshS M w → K (.ext w) [(k, T, cE u32V L)] M') :
    CallS Tryd.prog 89 [.slo k o m 1] [(k, T, cE u32V L)] M [] K := by
  refine CallS.bor ⟨⟨_, rfl⟩, trivial⟩ fun us M' hM hb' => ?_
  obtain ⟨v1, _, rfl, h1, rfl⟩ := hb'
  have g1 := h1.part (g := u32V) (L := L) (T := T) (by simp [lkH]) h.le
  rw [h.eq] at g1
  refine rtrim_ok v1 (ofN x) g1 (okN_ofN x) (by have := h.len; have := h.le; omega) fun w M2 h2 h3 h4 => ?_
  rw [valN_ofN] at h3
  exact ⟨fun j hj => rfl, fun M3 h5 h6 _ => hK w M3 h5 (h3.move h4 h6) (h4.le hM)⟩
def ss0 (M : Mem) (u v : Value) (s : Nat) : St := { env := [(8, .ext (.int .i64 (s : Int))), (0, .ext u), (1, .ext v)], hp := [], M := M, kb := 0, fx := [] }
def spSt (M : Mem) (la m n s j : Nat) (U B Q : List Nat) : St := { env := [(12, .ext (.int .i64 ((j : Int) - 1))), (11, .ext (.int .i64 (n : Int))), (10, .slo 2011 0 n 1), (9, .slo 1011 0 (la + 1) 1), (8, .ext (.int .i64 (s : Int))), (4, .slo 63 0 m 1)], hp := [(1011, 70, cE u32V U), (2011, 70, cE u32V B), (63, 70, cE u32V Q)], M := M, kb := 0, fx := [] }
def giSt (M : Mem) (la m n s i q r : Nat) (U B Q : List Nat) : St := { env := [(15, .ext (.int .u64 (r : Int))), (14, .ext (.int .u64 (q : Int))), (12, .ext (.int .i64 (i : Int))), (11, .ext (.int .i64 (n : Int))), (10, .slo 2011 0 n 1), (9, .slo 1011 0 (la + 1) 1), (8, .ext (.int .i64 (s : Int))), (4, .slo 63 0 m 1)], hp := [(1011, 70, cE u32V U), (2011, 70, cE u32V B), (63, 70, cE u32V Q)], M := M, kb := 0, fx := [] }
theorem shl32s {t s : Nat} (h : t * 2 ^ s < 4294967296) (hs : s < 32) : IntKind.u32.wrap ((t : Int) * 2 ^ (min s IntKind.u32.bits)) = ((t * 2 ^ s : Nat) : Int) := by
  have h1 : min s IntKind.u32.bits = s := by have : IntKind.u32.bits = 32 := rfl; omega
  rw [h1, show ((t : Int) * 2 ^ s) = ((t * 2 ^ s : Nat) : Int) by simp, wrap32_id h]
theorem split_ok (u v : Value) (x y : Nat) (hu : IsL M u32V u (ofN x)) (hv : IsL M u32V v (ofN y)) (hx : (ofN x).length < 10000000) (hy : (ofN y).length < 10000000) (hy0 : 0 < y)
    (hK : ∀ q r M', Mem.le M M' → IsL M' u32V q (ofN (x / y)) → IsL M' u32V r (ofN (x % y)) → FreshS M q → FreshS M r → K (.ext (.tuple #[q, r])) [] M') : CallS Tryd.prog 78 [.ext u, .ext v] [] M [] K := by
  refine CallS.frzF ?_
  refine inlS (cs := []) Tryd.mixed Tryd.func78 rfl (by kernel_rfl) 0 rfl rfl ?_
  simp only [Tryd.f78]
  by_cases hlt : x < y
  · have e1 : x / y = 0 := Nat.div_eq_of_lt hlt
    have e2 : x % y = x := Nat.mod_eq_of_lt hlt
    rw [e1, e2, ofN_zero] at hK
    have c1 := cmpN_lt hlt
    have hrow := hu.row
    have hmp : List.map AV.ext (List.map u32V (ofN x)) = cE u32V (ofN x) := rfl
    (replace hb0 := true_and True); refine Go1.mk ?_; repeat' ((first | (with_reducible refine Go1.go ?_) | ((with_reducible first | refine brv_mk ?_ ?_ | refine gsplitD ?_ ?_ | refine gsplitG ?_ ?_) <;> intro h <;> (try simp only [Bool.not_eq_true', Bool.not_eq_false'] at h) <;> replace hb0 := h) | ((first | (with_reducible refine isCall (f := 57) ?_; refine callA_nil (by kernel_rfl) ?_) | (with_reducible refine isCall0 (f := 57) ?_; refine callA0_nil (by kernel_rfl) ?_)); refine (rorder_ok u v x y hu hv (by omega) (by omega) ?_)) | (refine And.intro ?ob ?_; case ob => ((try simp only [sxO, ne_eq, maxLen] at *); omega)) | fail) <;> (try simp (config := { maxSteps := 1000000 }) only [hb0, cE_ment, hasK_nil, cE_kill, cE_len, u32_one, u32_app1, u32_set, Nat.mul_one, hu.one, hv.one, hu.len, hu.sl, hrow, hmp, c1, ↓hold_pre, awayP, runOps, regK, step1, newK, genR, appR, obl, buildR, Value.cells, closeK, keepH, outV, retK, ret1, retC, RetV, Option.getD, runD, stepD, afterK, undef, simprocAttr, sxB, ↓sxD, sxE, sxTab]))
    exact FrzF.tup [.slice none 0 0] [] ((ofN x).map u32V) rfl (by simp) (fun w M' g1 g2 g3 => hK _ w M' g1 (isL_nil _ _ _) (by unfold IsL; exact g2) (freshS_nil _ _) g3)
  have c1 : decide (cmpN x y < 0) = false := by
    rw [decide_eq_false_iff_not]; unfold cmpN; rw [if_neg hlt]; split <;> omega
  have hlen := len_mono (show y ≤ x by omega)
  have hl1 : 0 < (ofN y).length := by
    rcases Nat.eq_zero_or_pos (ofN y).length with h | h
    · have := ofN_nil.1 (List.length_eq_zero_iff.1 h); omega
    · exact h
  by_cases hone : (ofN y).length = 1
  · have d1 : decide (((ofN y).length : Int) = 1) = true := by simp; omega
    have hyi := hv.idx (P := Tryd.prog) (T := 70) tk70 tz70 (by omega) hl1
    have hyv : (ofN y)[0] = y := by
      have := valN_ofN y
      generalize ofN y = l at *
      match l, hone with
      | [a], _ => simpa [valN] using this
    have hy32 : y < 4294967296 := by rw [← hyv]; exact ofN_ok_at hl1
    rw [hyv] at hyi
    have w1 : IntKind.u64.wrap (y : Int) = (y : Int) := wrap64_id (by omega)
    (replace hb0 := true_and True); refine Go1.mk ?_; repeat' ((first | (with_reducible refine Go1.go ?_) | ((with_reducible first | refine brv_mk ?_ ?_ | refine gsplitD ?_ ?_ | refine gsplitG ?_ ?_) <;> intro h <;> (try simp only [Bool.not_eq_true', Bool.not_eq_false'] at h) <;> replace hb0 := h) | ((first | (with_reducible refine isCall (f := 57) ?_; refine callA_nil (by kernel_rfl) ?_) | (with_reducible refine isCall0 (f := 57) ?_; refine callA0_nil (by kernel_rfl) ?_)); refine (rorder_ok u v x y hu hv (by omega) (by omega) ?_)) | ((first | (with_reducible refine isCall (f := 104) ?_; refine callA_nil (by kernel_rfl) ?_) | (with_reducible refine isCall0 (f := 104) ?_; refine callA0_nil (by kernel_rfl) ?_)); refine (rsmall_ok u x y hu (by omega) hy0 hy32 (fun w M' h1 h2 h3 => Stop.mk ?_))) | (refine And.intro ?ob ?_; case ob => ((try simp only [sxO, ne_eq, maxLen] at *); omega)) | fail) <;> (try simp (config := { maxSteps := 1000000 }) only [hb0, cE_ment, hasK_nil, cE_kill, cE_len, u32_one, u32_app1, u32_set, Nat.mul_one, u32V, hu.one, hv.one, hv.len, hv.sl, c1, d1, w1, hyi, Int.natCast_zero, Int.cast_ofNat_Int, ↓hold_pre, awayP, runOps, regK, step1, newK, genR, appR, obl, buildR, Value.cells, closeK, keepH, outV, retK, ret1, retC, RetV, Option.getD, runD, stepD, afterK, undef, simprocAttr, sxB, ↓sxD, sxE, sxTab]))
    refine Stop.go ?_
    (replace hb0 := true_and True); refine Go1.mk ?_; repeat' ((first | (with_reducible refine Go1.go ?_) | ((with_reducible first | refine brv_mk ?_ ?_ | refine gsplitD ?_ ?_ | refine gsplitG ?_ ?_) <;> intro h <;> (try simp only [Bool.not_eq_true', Bool.not_eq_false'] at h) <;> replace hb0 := h) | ((first | (with_reducible refine isCall (f := 55) ?_; refine callA_nil (by kernel_rfl) ?_) | (with_reducible refine isCall0 (f := 55) ?_; refine callA0_nil (by kernel_rfl) ?_)); refine (rof_ok (x % y) (by have := Nat.mod_lt x hy0; omega) (fun w2 M2 g1 g2 g3 => Stop.mk ?_))) | (refine And.intro ?ob ?_; case ob => ((try simp only [sxO, ne_eq, maxLen] at *); omega)) | fail) <;> (try simp (config := { maxSteps := 1000000 }) only [hb0, h2.one, ↓hold_pre, awayP, runOps, regK, step1, newK, genR, appR, obl, buildR, Value.cells, closeK, keepH, outV, retK, ret1, retC, RetV, Option.getD, runD, stepD, afterK, undef, simprocAttr, sxB, ↓sxD, sxE, sxTab]))
    refine Stop.go ?_
    (replace hb0 := true_and True); refine Go1.mk ?_; repeat' ((first | (with_reducible refine Go1.go ?_) | ((with_reducible first | refine brv_mk ?_ ?_ | refine gsplitD ?_ ?_ | refine gsplitG ?_ ?_) <;> intro h <;> (try simp only [Bool.not_eq_true', Bool.not_eq_false'] at h) <;> replace hb0 := h) | (refine And.intro ?ob ?_; case ob => ((try simp only [sxO, ne_eq, maxLen] at *); omega)) | fail) <;> (try simp (config := { maxSteps := 1000000 }) only [hb0, h2.one, g2.one, ↓hold_pre, awayP, runOps, regK, step1, newK, genR, appR, obl, buildR, Value.cells, closeK, keepH, outV, retK, ret1, retC, RetV, Option.getD, runD, stepD, afterK, undef, simprocAttr, sxB, ↓sxD, sxE, sxTab]))
    exact .inl (hK _ _ _ (h1.trans g1) (h2.le g1) g2 h3 (g3.le h1))
  have d1 : decide (((ofN y).length : Int) = 1) = false := by simp; omega
  obtain ⟨s, hs, hs32, hbl, hbt⟩ := nrm_plain (y := y) (by omega)
  have ht32 := ofN_ok_at (show (ofN y).length - 1 < (ofN y).length by omega)
  have htn := trimmed_ofN y (by omega)
  have w1 : IntKind.i64.wrap (((ofN y).length : Int) - 1) = (((ofN y).length - 1 : Nat) : Int) := pred_i hl1 (by omega)
  have hn2 : 2 ≤ (ofN y).length := by omega
  obtain ⟨t, ht⟩ : ∃ t, (ofN y)[(ofN y).length - 1]'(by omega) = t := ⟨_, rfl⟩
  have hyi := hv.idx (P := Tryd.prog) (T := 70) tk70 tz70 (by omega) (show (ofN y).length - 1 < (ofN y).length by omega)
  rw [ht] at hs ht32 htn
  simp only [ht] at hyi
  clear ht
  generalize hl : (ofN x).length = la at *
  generalize hm : (ofN y).length = n at *
  (replace hb0 := true_and True); refine Go1.mk ?_; repeat' ((first | (with_reducible refine Go1.go ?_) | ((with_reducible first | refine brv_mk ?_ ?_ | refine gsplitD ?_ ?_ | refine gsplitG ?_ ?_) <;> intro h <;> (try simp only [Bool.not_eq_true', Bool.not_eq_false'] at h) <;> replace hb0 := h) | ((first | (with_reducible refine isCall (f := 57) ?_; refine callA_nil (by kernel_rfl) ?_) | (with_reducible refine isCall0 (f := 57) ?_; refine callA0_nil (by kernel_rfl) ?_)); refine (rorder_ok u v x y hu hv (by omega) (by omega) ?_)) | (refine And.intro ?ob ?_; case ob => ((try simp only [sxO, ne_eq, maxLen] at *); omega)) | fail) <;> (try simp (config := { maxSteps := 1000000 }) only [hb0, cE_ment, hasK_nil, cE_kill, cE_len, u32_one, u32_app1, u32_set, Nat.mul_one, u32V, hu.one, hv.one, hv.len, hv.sl, hm, c1, d1, ↓hold_pre, awayP, runOps, regK, step1, newK, genR, appR, obl, buildR, Value.cells, closeK, keepH, outV, retK, ret1, retC, RetV, Option.getD, runD, stepD, afterK, undef, simprocAttr, sxB, ↓sxD, sxE, sxTab]))
  have hbt1 : t < 2 ^ blen t := (blen_iff (blen t) t).1 (Nat.le_refl _)
  have hb32 := (blen_iff 32 t).2 (by omega)
  have hbp : 0 < blen t := by
    rcases Nat.eq_zero_or_pos (blen t) with h | h
    · have := (blen_iff 0 t).1 (by omega); simp at this; omega
    · exact h
  have hbt2 : 2 ^ (blen t - 1) ≤ t := by
    rcases Nat.lt_or_ge t (2 ^ (blen t - 1)) with h | h
    · have := (blen_iff (blen t - 1) t).2 h; omega
    · exact h
  have hps : t * 2 ^ s < 4294967296 := by
    have : t * 2 ^ s < 2 ^ blen t * 2 ^ s := Nat.mul_lt_mul_of_pos_right hbt1 (Nat.two_pow_pos s)
    rw [← Nat.pow_add, show blen t + s = 32 by omega] at this
    exact this
  have hps2 : 2147483648 ≤ t * 2 ^ s := by
    have := Nat.mul_le_mul_right (2 ^ s) hbt2
    rw [← Nat.pow_add, show blen t - 1 + s = 31 by omega] at this
    exact this
  refine ⟨fun d z => ∃ s', d = s - s' ∧ s' ≤ s ∧ z = ss0 M u v s', ⟨s, ss0 M u v 0, le_sub ⟨rfl, rfl, rfl, trivial⟩ trivial rfl rfl rfl (keepLt0 _), ⟨0, rfl, by omega, rfl⟩⟩, ?_⟩
  rintro d z ⟨s', rfl, hs', rfl⟩
  have hpw : t * 2 ^ s' ≤ t * 2 ^ s := Nat.mul_le_mul_left t (Nat.pow_le_pow_right (by decide) hs')
  have v1 := shl32s (t := t) (s := s') (by omega) (by omega)
  have d0 : (0 : Int) ≤ (s' : Int) := by omega
  by_cases hlt2 : s' < s
  · have h1 : t * 2 ^ s' < 2147483648 := by
      have a1 : t * 2 ^ s' < 2 ^ blen t * 2 ^ s' := Nat.mul_lt_mul_of_pos_right hbt1 (Nat.two_pow_pos s')
      rw [← Nat.pow_add] at a1
      have a2 : 2 ^ (blen t + s') ≤ 2 ^ 31 := Nat.pow_le_pow_right (by decide) (by omega)
      omega
    have d2 : decide (((t * 2 ^ s' : Nat) : Int) < 2147483648) = true := by rw [decide_eq_true_eq]; omega
    have w2 : IntKind.i64.wrap ((s' : Int) + 1) = ((s' + 1 : Nat) : Int) := succ_i (by omega)
    (replace hb0 := true_and True); refine Go1.mk ?_; repeat' ((first | (with_reducible refine Go1.go ?_) | ((with_reducible first | refine brv_mk ?_ ?_ | refine gsplitD ?_ ?_ | refine gsplitG ?_ ?_) <;> intro h <;> (try simp only [Bool.not_eq_true', Bool.not_eq_false'] at h) <;> replace hb0 := h) | (refine And.intro ?ob ?_; case ob => ((try simp only [sxO, ne_eq, maxLen] at *); omega)) | fail) <;> (try simp (config := { maxSteps := 1000000 }) only [hb0, cE_ment, hasK_nil, cE_kill, cE_len, u32_one, u32_app1, u32_set, Nat.mul_one, u32V, ss0, hv.one, hv.len, hv.sl, hm, hyi, w1, v1, d0, d2, w2, ↓hold_pre, awayP, runOps, regK, step1, newK, genR, appR, obl, buildR, Value.cells, closeK, keepH, outV, retK, ret1, retC, RetV, Option.getD, runD, stepD, afterK, undef, simprocAttr, sxB, ↓sxD, sxE, sxTab]))
    exact ⟨s - (s' + 1), ss0 M u v (s' + 1), by omega, le_sub ⟨rfl, rfl, rfl, trivial⟩ trivial rfl rfl rfl (keepLt0 _), s' + 1, rfl, by omega, rfl⟩
  obtain rfl : s' = s := by omega
  have d2 : decide (((t * 2 ^ s' : Nat) : Int) < 2147483648) = false := by rw [decide_eq_false_iff_not]; omega
  have o1 := ofN_len_lt (n := y * 2 ^ s') (k := n) (by omega)
  have w2 : IntKind.i64.wrap (((la + 1 : Nat) : Int) - (n : Int)) = ((la - n + 1 : Nat) : Int) := by rw [wrap_id (by omega) (by omega)]; omega
  have w3 : IntKind.i64.wrap (((la - n + 1 : Nat) : Int) - 1) = ((la - n + 1 : Nat) : Int) - 1 := wrap_id (by omega) (by omega)
  (replace hb0 := true_and True); refine Go1.mk ?_; repeat' ((first | (with_reducible refine Go1.go ?_) | ((with_reducible first | refine brv_mk ?_ ?_ | refine gsplitD ?_ ?_ | refine gsplitG ?_ ?_) <;> intro h <;> (try simp only [Bool.not_eq_true', Bool.not_eq_false'] at h) <;> replace hb0 := h) | ((with_reducible refine isCall (f := 105) ?_); refine callA ?_) | ((with_reducible refine isCall0 (f := 105) ?_); refine callA0 ?_) | ((with_reducible refine isCallS (f := 105) ?_); refine (up_ok 1000 u (ofN x) s' hu (by omega) (okN_ofN x) hs32 (fun U0 h1 h2 h3 => Stop.mk ?_))) | ((with_reducible refine isDraw [some 48, some 49, some 50, some 51, some 52, some 53, some 54, some 55, some 56, some 9, some 10] (by decide) ?_); refine draw_rule [(0, []), (1, []), (3, []), (4, []), (6, []), (7, []), (2, []), (5, []), (8, []), (9, []), (10, [])] [[], [], [0, 1], [], [], [0, 1, 2, 3, 4], [], [6], [0, 1, 2, 3, 4, 5, 6, 7], [0, 1, 2, 3, 4, 5], [0, 1, 2, 3, 4, 5, 6, 7, 8, 9]] [48, 49, 50, 51, 52, 53, 54, 55, 56, 9] [] (by kernel_rfl) (by kernel_rfl) (by kernel_rfl) (by kernel_rfl) (by exact trivial) ?_) | (refine And.intro ?ob ?_; case ob => ((try simp only [sxO, ne_eq, maxLen] at *); omega)) | fail) <;> (try simp (config := { maxSteps := 1000000 }) only [hb0, cE_ment, hasK_nil, cE_kill, cE_len, u32_one, u32_app1, u32_set, Nat.mul_one, u32V, ss0, hu.one, hv.one, hv.len, hv.sl, hm, hyi, w1, v1, d0, d2, ↓hold_pre, awayP, runOps, regK, step1, newK, genR, appR, obl, buildR, Value.cells, closeK, keepH, outV, retK, ret1, retC, RetV, Option.getD, runD, stepD, afterK, undef, simprocAttr, sxB, ↓sxD, sxE, sxTab]))
  rw [hl] at h1
  rw [valN_ofN] at h3
  refine Stop.go ?_
  (replace hb0 := true_and True); refine Go1.mk ?_; repeat' ((first | (with_reducible refine Go1.go ?_) | ((with_reducible first | refine brv_mk ?_ ?_ | refine gsplitD ?_ ?_ | refine gsplitG ?_ ?_) <;> intro h <;> (try simp only [Bool.not_eq_true', Bool.not_eq_false'] at h) <;> replace hb0 := h) | ((with_reducible refine isCall (f := 105) ?_); refine callA ?_) | ((with_reducible refine isCall0 (f := 105) ?_); refine callA0 ?_) | ((with_reducible refine isCallS (f := 105) ?_); refine (up_ok 2000 v (ofN y) s' hv (by omega) (okN_ofN y) hs32 (fun V0 g1 g2 g3 => Stop.mk ?_))) | (refine And.intro ?ob ?_; case ob => ((try simp only [sxO, ne_eq, maxLen] at *); omega)) | fail) <;> (try simp (config := { maxSteps := 1000000 }) only [hb0, cE_ment, hasK_nil, cE_kill, cE_len, u32_one, u32_app1, u32_set, Nat.mul_one, hu.one, hv.one, hv.len, hv.sl, hm, hl, ↓hold_pre, awayP, runOps, regK, step1, newK, genR, appR, obl, buildR, Value.cells, closeK, keepH, outV, retK, ret1, retC, RetV, Option.getD, runD, stepD, afterK, undef, simprocAttr, sxB, ↓sxD, sxE, sxTab]))
  rw [hm] at g1
  rw [valN_ofN] at g3
  refine Stop.go ?_
  have hz0 : AV.ext (Value.int .u32 0) :: List.map AV.ext (repN [Value.int .u32 0] (la - n)) = cE u32V (List.replicate (la - n + 1) 0) := cE_rep u32V (la - n + 1) 0
  have d5 : (0 : Int) ≤ (n : Int) := by omega
  have d6 : (n : Int) ≤ ((n + 1 : Nat) : Int) := by omega
  (replace hb0 := true_and True); refine Go1.mk ?_; repeat' ((first | (with_reducible refine Go1.go ?_) | ((with_reducible first | refine brv_mk ?_ ?_ | refine gsplitD ?_ ?_ | refine gsplitG ?_ ?_) <;> intro h <;> (try simp only [Bool.not_eq_true', Bool.not_eq_false'] at h) <;> replace hb0 := h) | (refine And.intro ?ob ?_; case ob => ((try simp only [sxO, ne_eq, maxLen] at *); omega)) | fail) <;> (try simp (config := { maxSteps := 1000000 }) only [hb0, cE_ment, hasK_nil, cE_kill, cE_len, u32_one, u32_app1, u32_set, Nat.mul_one, hu.one, hv.one, hv.len, hv.sl, hm, hl, d5, d6, w2, w3, hz0, Nat.sub_zero, ↓hold_pre, awayP, runOps, regK, step1, newK, genR, appR, obl, buildR, Value.cells, closeK, keepH, outV, retK, ret1, retC, RetV, Option.getD, runD, stepD, afterK, undef, simprocAttr, sxB, ↓sxD, sxE, sxTab]))
  have hV : V0.take n = ofN (y * 2 ^ s') := by
    have e := valN_take_mod g2 (i := n) (by omega)
    rw [g3, Nat.mod_eq_of_lt o1] at e
    have e2 := full_len (okN_take g2 n) (by rw [e, hbl, List.length_take]; omega)
    rw [e] at e2
    exact e2
  have hvp : 0 < y * 2 ^ s' := Nat.mul_pos hy0 (Nat.two_pow_pos s')
  have hst : DivI (y * 2 ^ s') (la - n + 1) (la - n + 1) (la + 1) U0 U0 (List.replicate (la - n + 1) 0) := by
    refine div_start (n := n) h1 h2 (by omega) ?_
    have a1 : x < wN la := ofN_len_lt (by omega)
    have a2 : wN (n - 1) ≤ y := by
      rcases Nat.lt_or_ge y (wN (n - 1)) with h | h
      · have := ofN_len_le h; omega
      · exact h
    have a3 : wN la = wN (n - 1) * wN (la - n + 1) := by rw [← wN_add, show n - 1 + (la - n + 1) = la by omega]
    have a4 := Nat.mul_le_mul_right (wN (la - n + 1)) a2
    have a5 : x < y * wN (la - n + 1) := by omega
    have a6 := Nat.mul_lt_mul_of_pos_right a5 (Nat.two_pow_pos s')
    rw [h3]
    grind
  have hB0 : 0 < valN (ofN (y * 2 ^ s')) := by rw [valN_ofN]; exact hvp
  obtain ⟨mq, hmq⟩ : ∃ k, la - n + 1 = k := ⟨_, rfl⟩
  rw [hmq] at hst w3 hz0 ⊢
  refine ⟨fun d z => ∃ j U Q, j = d ∧ j ≤ mq ∧ DivI (y * 2 ^ s') j mq (la + 1) U0 U Q ∧ z = spSt M la mq n s' j U (ofN (y * 2 ^ s')) Q,
    ⟨mq, spSt M la mq n s' mq U0 (ofN (y * 2 ^ s')) (List.replicate mq 0), (le_take 2011 n 70 (cE u32V V0) rfl).trans (le_sub ⟨rfl, rfl, rfl, rfl, rfl, rfl, trivial⟩ (by simp [subHp, spSt, lkH, upH, cE_take, hV]) rfl rfl rfl (keepLt0 _)), ⟨_, _, _, rfl, Nat.le_refl _, hst, rfl⟩⟩, ?_⟩
  rintro d z ⟨j, U, Q, rfl, hj, hI, rfl⟩
  by_cases hlt : 0 < j
  case neg =>
    obtain rfl : j = 0 := by omega
    have d2 : decide ((0 : Int) ≤ ((0 : Nat) : Int) - 1) = false := by simp
    obtain ⟨e1, e2⟩ := div_end hI h3 hy0
    have hlq := hI.lq
    have hlu := hI.lu
    have hou := hI.ou
    (replace hb0 := true_and True); refine Go1.mk ?_; repeat' ((first | (with_reducible refine Go1.go ?_) | ((with_reducible first | refine brv_mk ?_ ?_ | refine gsplitD ?_ ?_ | refine gsplitG ?_ ?_) <;> intro h <;> (try simp only [Bool.not_eq_true', Bool.not_eq_false'] at h) <;> replace hb0 := h) | ((with_reducible refine isCall (f := 89) ?_); refine callA ?_) | ((with_reducible refine isCall0 (f := 89) ?_); refine callA0 ?_) | ((with_reducible refine isCallS (f := 89) ?_); refine (rtrim_bor 63 mq _ Q hlq.symm hI.oq (by omega) (fun w M' k1 k2 k3 => Stop.mk ?_))) | (refine And.intro ?ob ?_; case ob => ((try simp only [sxO, ne_eq, maxLen] at *); omega)) | fail) <;> (try simp (config := { maxSteps := 1000000 }) only [hb0, cE_ment, hasK_nil, cE_kill, cE_len, u32_one, u32_app1, u32_set, Nat.mul_one, spSt, d2, ↓hold_pre, awayP, runOps, regK, step1, newK, genR, appR, obl, buildR, Value.cells, closeK, keepH, outV, retK, ret1, retC, RetV, Option.getD, runD, stepD, afterK, undef, simprocAttr, sxB, ↓sxD, sxE, sxTab]))
    rw [e1] at k2
    refine Stop.go ?_
    (replace hb0 := true_and True); refine Go1.mk ?_; repeat' ((first | (with_reducible refine Go1.go ?_) | ((with_reducible first | refine brv_mk ?_ ?_ | refine gsplitD ?_ ?_ | refine gsplitG ?_ ?_) <;> intro h <;> (try simp only [Bool.not_eq_true', Bool.not_eq_false'] at h) <;> replace hb0 := h) | ((with_reducible refine isCall (f := 92) ?_); refine callA ?_) | ((with_reducible refine isCall0 (f := 92) ?_); refine callA0 ?_) | ((with_reducible refine isCallS (f := 92) ?_); refine (down_ok 1011 0 (la + 1) s' U (by omega) (by omega) (by omega) hou (fun U' o' m' k4 k5 => Stop.mk ?_))) | (refine And.intro ?ob ?_; case ob => ((try simp only [sxO, ne_eq, maxLen] at *); omega)) | fail) <;> (try simp (config := { maxSteps := 1000000 }) only [hb0, cE_ment, hasK_nil, cE_kill, cE_len, u32_one, u32_app1, u32_set, Nat.mul_one, ↓hold_pre, awayP, runOps, regK, step1, newK, genR, appR, obl, buildR, Value.cells, closeK, keepH, outV, retK, ret1, retC, RetV, Option.getD, runD, stepD, afterK, undef, simprocAttr, sxB, ↓sxD, sxE, sxTab]))
    rw [List.drop_zero, List.take_of_length_le (by omega), e2] at k5
    refine Stop.go ?_
    (replace hb0 := true_and True); refine Go1.mk ?_; repeat' ((first | (with_reducible refine Go1.go ?_) | ((with_reducible first | refine brv_mk ?_ ?_ | refine gsplitD ?_ ?_ | refine gsplitG ?_ ?_) <;> intro h <;> (try simp only [Bool.not_eq_true', Bool.not_eq_false'] at h) <;> replace hb0 := h) | ((with_reducible refine isCall (f := 89) ?_); refine callA ?_) | ((with_reducible refine isCall0 (f := 89) ?_); refine callA0 ?_) | ((with_reducible refine isCallS (f := 89) ?_); refine (rtrim_part 1011 o' m' _ U' (x % y) k5 (by omega) (fun w2 M2 k6 k7 k8 => Stop.mk ?_))) | (refine And.intro ?ob ?_; case ob => ((try simp only [sxO, ne_eq, maxLen] at *); omega)) | fail) <;> (try simp (config := { maxSteps := 1000000 }) only [hb0, cE_ment, hasK_nil, cE_kill, cE_len, u32_one, u32_app1, u32_set, Nat.mul_one, ↓hold_pre, awayP, runOps, regK, step1, newK, genR, appR, obl, buildR, Value.cells, closeK, keepH, outV, retK, ret1, retC, RetV, Option.getD, runD, stepD, afterK, undef, simprocAttr, sxB, ↓sxD, sxE, sxTab]))
    refine Stop.go ?_
    (replace hb0 := true_and True); refine Go1.mk ?_; repeat' ((first | (with_reducible refine Go1.go ?_) | ((with_reducible first | refine brv_mk ?_ ?_ | refine gsplitD ?_ ?_ | refine gsplitG ?_ ?_) <;> intro h <;> (try simp only [Bool.not_eq_true', Bool.not_eq_false'] at h) <;> replace hb0 := h) | (refine And.intro ?ob ?_; case ob => ((try simp only [sxO, ne_eq, maxLen] at *); omega)) | fail) <;> (try simp (config := { maxSteps := 1000000 }) only [hb0, k2.one, k7.one, ↓hold_pre, awayP, runOps, regK, step1, newK, genR, appR, obl, buildR, Value.cells, closeK, keepH, outV, retK, ret1, retC, RetV, Option.getD, runD, stepD, afterK, undef, simprocAttr, sxB, ↓sxD, sxE, sxTab]))
    exact .inl (hK _ _ _ (k1.trans k6) (k2.le k6) k7 k3 (k8.le k1))
  obtain ⟨i, rfl⟩ : ∃ i, j = i + 1 := ⟨j - 1, by omega⟩
  have ej : (((i + 1 : Nat) : Int) - 1) = (i : Int) := by omega
  have d2 : decide ((0 : Int) ≤ (i : Int)) = true := by simp
  obtain ⟨hU, hlC, hCV, hS0, hvC⟩ := div_part hI o1 (show i + (n + 1) ≤ la + 1 by omega)
  have hPl : (U.take i).length = i := by rw [List.length_take, hI.lu]; omega
  have hoC : okN ((U.drop i).take (n + 1)) := okN_take (okN_drop hI.ou i) (n + 1)
  have step : ∀ (C' : List Nat) (d : Nat), C'.length = n + 1 → okN C' → valN C' + d * (y * 2 ^ s') = valN ((U.drop i).take (n + 1)) → valN C' < y * 2 ^ s' → d < 4294967296 → DivI (y * 2 ^ s') i mq (la + 1) U0 (U.take i ++ (C' ++ U.drop (i + (n + 1)))) (Q.set i d) := fun C' d f1 f2 f3 f4 f5 =>
    div_step hI o1 (by omega) h1 (by omega) f1 f2 f3 f4 f5
  have hQl := hI.lq
  generalize U.take i = P at *
  generalize (U.drop i).take (n + 1) = C at *
  generalize U.drop (i + (n + 1)) = S at *
  subst hU
  clear hI hst hvC hV g1 g2 g3
  rw [← valN_ofN (y * 2 ^ s')] at hCV
  have hdC : valN C / valN (ofN (y * 2 ^ s')) < 4294967296 := by rw [Nat.div_lt_iff_lt_mul hB0]; exact hCV
  obtain ⟨m, rfl⟩ : ∃ m, n = m + 2 := ⟨n - 2, by omega⟩
  have htop : 2147483648 ≤ (ofN (y * 2 ^ s'))[m + 1]'(by omega) := hbt (by omega)
  obtain ⟨p, cr, vr, hcr, hvr, hcC, hcB, ht⟩ := guess_facts hlC hbl hoC (okN_ofN _) htop hCV
  have b1 := okN_at hoC (show m + 2 < C.length by omega)
  have b2 := okN_at hoC (show m + 1 < C.length by omega)
  have b3 := okN_at hoC (show m < C.length by omega)
  have b4 := ofN_ok_at (show m + 1 < (ofN (y * 2 ^ s')).length by omega)
  have b5 := ofN_ok_at (show m < (ofN (y * 2 ^ s')).length by omega)
  have i1 := u32_mid (S := S) hPl (show m + 2 < C.length by omega)
  have i2 := u32_mid (S := S) hPl (show m + 1 < C.length by omega)
  have i3 := u32_mid (S := S) hPl (show m < C.length by omega)
  have j1 := u32_at (show m + 1 < (ofN (y * 2 ^ s')).length by omega)
  have j2 := u32_at (show m < (ofN (y * 2 ^ s')).length by omega)
  generalize C[m + 2] = c0 at *
  generalize C[m + 1] = c1 at *
  generalize C[m] = c2 at *
  generalize (ofN (y * 2 ^ s'))[m + 1] = v1 at *
  generalize (ofN (y * 2 ^ s'))[m] = v2 at *
  have x0 : IntKind.i64.wrap ((i : Int) + ((m + 2 : Nat) : Int)) = ((i + (m + 2) : Nat) : Int) := by rw [wrap_id (by omega) (by omega)]; omega
  have x1 : IntKind.i64.wrap (((i + (m + 2) : Nat) : Int) - 1) = ((i + (m + 1) : Nat) : Int) := by rw [wrap_id (by omega) (by omega)]; omega
  have x2 : IntKind.i64.wrap (((i + (m + 2) : Nat) : Int) - 2) = ((i + m : Nat) : Int) := by rw [wrap_id (by omega) (by omega)]; omega
  have x3 : IntKind.i64.wrap (((m + 2 : Nat) : Int) - 1) = ((m + 1 : Nat) : Int) := by rw [wrap_id (by omega) (by omega)]; omega
  have x4 : IntKind.i64.wrap (((m + 2 : Nat) : Int) - 2) = ((m : Nat) : Int) := by rw [wrap_id (by omega) (by omega)]; omega
  have y0 : (0 : Int) ≤ ((i + (m + 2) : Nat) : Int) := by omega
  have y1 : (0 : Int) ≤ ((i + (m + 1) : Nat) : Int) := by omega
  have y2 : (0 : Int) ≤ ((i + m : Nat) : Int) := by omega
  have y3 : (0 : Int) ≤ ((m + 1 : Nat) : Int) := by omega
  have y4 : (0 : Int) ≤ (m : Int) := by omega
  have z0 : ((i + (m + 2) : Nat) : Int) < ((la + 1 : Nat) : Int) := by omega
  have z1 : ((i + (m + 1) : Nat) : Int) < ((la + 1 : Nat) : Int) := by omega
  have z2 : ((i + m : Nat) : Int) < ((la + 1 : Nat) : Int) := by omega
  have z3 : ((m + 1 : Nat) : Int) < ((m + 2 : Nat) : Int) := by omega
  have z4 : (m : Int) < ((m + 2 : Nat) : Int) := by omega
  have u0 : IntKind.u64.wrap (c0 : Int) = (c0 : Int) := wrap64_id (by omega)
  have u1 : IntKind.u64.wrap (c1 : Int) = (c1 : Int) := wrap64_id (by omega)
  have u2 : IntKind.u64.wrap (c2 : Int) = (c2 : Int) := wrap64_id (by omega)
  have u3 : IntKind.u64.wrap (v1 : Int) = (v1 : Int) := wrap64_id (by omega)
  have u4 : IntKind.u64.wrap (v2 : Int) = (v2 : Int) := wrap64_id (by omega)
  have w5 := shl32 b1
  have w6 := or32 b1 b2
  obtain ⟨top, htp⟩ : ∃ top, c0 * 4294967296 + c1 = top := ⟨_, rfl⟩
  rw [htp] at w6 hcC
  have ht2 : top ≤ v1 * 4294967296 + 4294967295 := by omega
  have w7 := quo64 (s := top) (d := v1) (by omega)
  have w8 := rem64 top v1
  have n1 : ((v1 : Int) = 0) = False := by simp; omega
  have w11 : IntKind.i64.wrap ((i : Int) - 1) = (i : Int) - 1 := wrap_id (by omega) (by omega)
  have d3 : (0 : Int) ≤ (i : Int) := by omega
  have d6 : (i : Int) < (mq : Int) := by omega
  have d7 : (i < Q.length) = True := by simp; omega
  (replace hb0 := true_and True); refine Go1.mk ?_; repeat' ((first | (with_reducible refine Go1.go ?_) | ((with_reducible first | refine brv_mk ?_ ?_ | refine gsplitD ?_ ?_ | refine gsplitG ?_ ?_) <;> intro h <;> (try simp only [Bool.not_eq_true', Bool.not_eq_false'] at h) <;> replace hb0 := h) | ((with_reducible refine isDraw [some 73, some 74, some 75, some 76, some 77, some 78, some 79, some 80, some 81, some 82, some 83, some 84, some 85, some 86, some 87, some 88, some 89, some 13] (by decide) ?_); refine draw_rule [(0, []), (1, []), (2, []), (3, []), (4, []), (5, []), (6, []), (7, []), (8, [5]), (9, [5]), (10, [5]), (11, [5]), (12, [5]), (13, [5]), (14, [5]), (15, [5]), (16, []), (17, [])] [[], [], [], [1, 2], [0, 1, 2, 3], [0, 1, 2, 3, 4], [0, 1, 2, 3, 4, 5], [0, 1, 2, 3, 4, 5, 6], [], [], [], [9, 10], [9, 10, 11], [8, 9, 10, 11, 12], [8, 9, 10, 11, 12, 13], [8, 9, 10, 11, 12, 13, 14], [0, 1, 2, 3, 4, 5, 6, 7, 8, 9, 10, 11, 12, 13, 14, 15], [0, 1, 2, 3, 4, 5, 6, 7, 8, 9, 10, 11, 12, 13, 14, 15, 16]] [73, 74, 75, 76, 77, 78, 79, 80, 81, 82, 83, 84, 85, 86, 87, 88] [] (by kernel_rfl) (by kernel_rfl) (by kernel_rfl) (by kernel_rfl) (by exact trivial) ?_) | ((with_reducible refine isDraw [some 90, some 91, some 92, some 93, some 94, some 95, some 96, some 97, some 98, some 99, some 100, some 101, some 102, some 103, some 104, some 105, some 14, some 15] (by decide) ?_); refine draw_rule [(0, []), (1, []), (2, []), (3, []), (4, []), (5, []), (6, []), (7, []), (8, [5]), (9, [5]), (10, [5]), (11, [5]), (12, [5]), (13, [5]), (14, [5]), (15, [5]), (16, [13]), (17, [])] [[], [], [], [2], [1, 2, 3], [1, 2, 3, 4], [1, 2, 3, 4, 5], [0, 1, 2, 3, 4, 5, 6], [], [], [], [10], [9, 10, 11], [9, 10, 11, 12], [9, 10, 11, 12, 13], [8, 9, 10, 11, 12, 13, 14], [0, 1, 2, 3, 4, 5, 6, 7], [0, 1, 2, 3, 4, 5, 6, 7, 8, 9, 10, 11, 12, 13, 14, 15, 16]] [90, 91, 92, 93, 94, 95, 96, 97, 98, 99, 100, 101, 102, 103, 104, 105, 14] [] (by kernel_rfl) (by kernel_rfl) (by kernel_rfl) (by kernel_rfl) (by exact trivial) ?_) | (refine And.intro ?ob ?_; case ob => ((try simp only [sxO, ne_eq, maxLen] at *); omega)) | fail) <;> (try simp (config := { maxSteps := 1000000 }) only [hb0, cE_ment, hasK_nil, cE_kill, cE_len, u32_one, u32_app1, u32_set, Nat.mul_one, u32V, spSt, ej, d2, i1, i2, j1, x0, x1, x3, y0, y1, y3, z0, z1, z3, u0, u1, u3, w5, w6, w7, w8, n1, ↓hold_pre, awayP, runOps, regK, step1, newK, genR, appR, obl, buildR, Value.cells, closeK, keepH, outV, retK, ret1, retC, RetV, Option.getD, runD, stepD, afterK, undef, simprocAttr, sxB, ↓sxD, sxE, sxTab]))
  refine ⟨fun d z => ∃ q r, q = d ∧ valN C / valN (ofN (y * 2 ^ s')) ≤ q ∧ q * v1 + r = top ∧ r < 8589934592 ∧ z = giSt M la mq (m + 2) s' i q r (P ++ (C ++ S)) (ofN (y * 2 ^ s')) Q,
    ⟨top / v1, giSt M la mq (m + 2) s' i (top / v1) (top % v1) (P ++ (C ++ S)) (ofN (y * 2 ^ s')) Q, le_sub ⟨rfl, rfl, rfl, rfl, rfl, rfl, rfl, rfl, trivial⟩ ⟨rfl, rfl, rfl, trivial⟩ rfl rfl rfl (keepLt0 _), ⟨_, _, rfl, guess_init hcB hcC hcr b3 (by omega), by rw [Nat.mul_comm]; exact Nat.div_add_mod top v1, Nat.lt_trans (Nat.mod_lt _ (by omega)) (by omega), rfl⟩⟩, ?_⟩
  clear w5 w6 w7 w8 i1 i2
  rintro d z ⟨q, r, rfl, hqd, hqr, hr, rfl⟩
  by_cases hrW : 4294967296 ≤ r
  · have d1 : decide ((r : Int) < 4294967296) = false := by simp; omega
    obtain ⟨h5, h6⟩ := guess_brk (u2 := c2) hqr ht2 b5 (by omega) hrW
    have h7 := guess_exit hcB hcC hvr htop hqr h5 h6
    (replace hb0 := true_and True); refine Go1.mk ?_; repeat' ((first | (with_reducible refine Go1.go ?_) | ((with_reducible first | refine brv_mk ?_ ?_ | refine gsplitD ?_ ?_ | refine gsplitG ?_ ?_) <;> intro h <;> (try simp only [Bool.not_eq_true', Bool.not_eq_false'] at h) <;> replace hb0 := h) | ((with_reducible refine isCall (f := 106) ?_); refine callA ?_) | ((with_reducible refine isCall0 (f := 106) ?_); refine callA0 ?_) | ((with_reducible refine isCallS (f := 106) ?_); refine (place_ok P C S (ofN (y * 2 ^ s')) (la + 1) i (m + 2) q (by omega) hPl hlC hbl (by omega) (by omega) hoC (okN_ofN _) (h5) hB0 hqd (h7) (fun C' f1 f2 f3 f4 => Stop.mk ?_))) | ((with_reducible refine isDraw [some 106, some 107, some 108, some 109, some 110, some 111, some 112, some 113, some 114, some 115, some 116, some 117, some 118, some 119, some 120, some 121, some 122, some 123, some 124, some 125, some 126, some 127, some 128, some 129, some 130, some 131, some 132, some 133] (by decide) ?_); refine draw_rule [(0, []), (1, []), (2, []), (3, []), (4, []), (5, []), (6, []), (7, []), (8, []), (9, []), (10, []), (11, []), (12, []), (13, []), (14, [11]), (15, [11]), (16, [11]), (17, [11]), (18, [11]), (19, [11]), (20, [11]), (21, [11]), (22, [11]), (23, [11]), (24, [11]), (25, []), (26, []), (27, [])] [[], [0], [0, 1], [0, 1, 2], [0, 1, 2, 3], [0, 1, 2, 3, 4], [0, 1, 2, 3, 4, 5], [0, 1, 2, 3, 4, 5], [0, 1, 2, 3, 4, 5], [0, 1, 2, 3, 4, 5, 8], [0, 1, 2, 3, 4, 5, 7, 8, 9], [0, 1, 2, 3, 4, 5, 7, 8, 9, 10], [0, 1, 2, 3, 4, 5, 7, 8, 9, 10, 11], [0, 1, 2, 3, 4, 5, 6, 7, 8, 9, 10, 11, 12], [0, 1, 2, 3, 4, 5], [0, 1, 2, 3, 4, 5, 14], [0, 1, 2, 3, 4, 5], [0, 1, 2, 3, 4, 5], [0, 1, 2, 3, 4, 5], [0, 1, 2, 3, 4, 5, 17, 18], [0, 1, 2, 3, 4, 5, 17, 18, 19], [0, 1, 2, 3, 4, 5, 16, 17, 18, 19, 20], [0, 1, 2, 3, 4, 5, 16, 17, 18, 19, 20, 21], [0, 1, 2, 3, 4, 5, 16, 17, 18, 19, 20, 21, 22], [0, 1, 2, 3, 4, 5, 14, 15, 16, 17, 18, 19, 20, 21, 22, 23], [0, 1, 2, 3, 4, 5, 6, 7, 8, 9, 10, 11, 12, 13, 14, 15, 16, 17, 18, 19, 20, 21, 22, 23, 24], [0, 1, 2, 3, 4, 5, 6, 7, 8, 9, 10, 11, 12, 13, 14, 15, 16, 17, 18, 19, 20, 21, 22, 23, 24, 25], [0, 1, 2, 3, 4, 5, 6, 7, 8, 9, 10, 11, 12, 13, 14, 15, 16, 17, 18, 19, 20, 21, 22, 23, 24, 25, 26]] [112, 113, 114, 115, 116, 117, 118, 119, 120, 121, 122, 123, 124, 125, 126, 127, 128, 129, 130] [] (by kernel_rfl) (by kernel_rfl) (by kernel_rfl) (by kernel_rfl) (by exact trivial) ?_) | (refine And.intro ?ob ?_; case ob => ((try simp only [sxO, ne_eq, maxLen] at *); omega)) | fail) <;> (try simp (config := { maxSteps := 1000000 }) only [hb0, cE_ment, hasK_nil, cE_kill, cE_len, u32_one, u32_app1, u32_set, Nat.mul_one, u32V, giSt, plH, d1, x0, x2, x3, x4, y2, y3, y4, z2, z3, z4, ↓hold_pre, awayP, runOps, regK, step1, newK, genR, appR, obl, buildR, Value.cells, closeK, keepH, outV, retK, ret1, retC, RetV, Option.getD, runD, stepD, afterK, undef, simprocAttr, sxB, ↓sxD, sxE, sxTab]))
    rw [valN_ofN] at f3 f4 hdC ⊢
    have st := step C' _ f1 f2 f3 f4 hdC
    refine Stop.go ?_
    (replace hb0 := true_and True); refine Go1.mk ?_; repeat' ((first | (with_reducible refine Go1.go ?_) | ((with_reducible first | refine brv_mk ?_ ?_ | refine gsplitD ?_ ?_ | refine gsplitG ?_ ?_) <;> intro h <;> (try simp only [Bool.not_eq_true', Bool.not_eq_false'] at h) <;> replace hb0 := h) | (refine And.intro ?ob ?_; case ob => ((try simp only [sxO, ne_eq, maxLen] at *); omega)) | fail) <;> (try simp (config := { maxSteps := 1000000 }) only [hb0, cE_ment, hasK_nil, cE_kill, cE_len, u32_one, u32_app1, u32_set, Nat.mul_one, plH, d3, d6, d7, w11, ↓hold_pre, awayP, runOps, regK, step1, newK, genR, appR, obl, buildR, Value.cells, closeK, keepH, outV, retK, ret1, retC, RetV, Option.getD, runD, stepD, afterK, undef, simprocAttr, sxB, ↓sxD, sxE, sxTab]))
    exact ⟨i, spSt M la mq (m + 2) s' i _ _ _, by omega, le_sub ⟨rfl, rfl, rfl, rfl, rfl, rfl, trivial⟩ ⟨rfl, rfl, rfl, trivial⟩ rfl rfl rfl (keepLt0 _), i, _, _, rfl, by omega, st, rfl⟩
  have d1 : decide ((r : Int) < 4294967296) = true := by simp; omega
  have body : ∀ (h : 4294967296 ≤ q ∨ r * 4294967296 + c2 < q * v2), 1 ≤ q ∧ valN C / valN (ofN (y * 2 ^ s')) ≤ q - 1 ∧ (q - 1) * v1 + (r + v1) = top ∧ IntKind.u64.wrap ((q : Int) - 1) = ((q - 1 : Nat) : Int) ∧ IntKind.u64.wrap ((r : Int) + (v1 : Int)) = ((r + v1 : Nat) : Int) := fun h => by
    obtain ⟨h1, h2⟩ := guess_dec hcB hcC hcr hCV hqr hqd h
    have hq2 : q ≤ top / v1 := by rw [Nat.le_div_iff_mul_le (by omega)]; omega
    have hq3 : q ≤ top := Nat.le_trans hq2 (Nat.div_le_self _ _)
    have h6 : 1 ≤ q := Nat.le_trans (Nat.le_add_left 1 _) h1
    exact ⟨h6, Nat.le_sub_one_of_lt h1, h2, by rw [wrap64_i (by omega) (by omega)]; omega, by rw [← Int.natCast_add, wrap64_id (by omega)]⟩
  by_cases hqW : 4294967296 ≤ q
  · have d4 : decide ((4294967296 : Int) ≤ (q : Int)) = true := by simp; omega
    obtain ⟨h1, h2, h3, w7, w8⟩ := body (.inl hqW)
    (replace hb0 := true_and True); refine Go1.mk ?_; repeat' ((first | (with_reducible refine Go1.go ?_) | ((with_reducible first | refine brv_mk ?_ ?_ | refine gsplitD ?_ ?_ | refine gsplitG ?_ ?_) <;> intro h <;> (try simp only [Bool.not_eq_true', Bool.not_eq_false'] at h) <;> replace hb0 := h) | ((with_reducible refine isDraw [some 106, some 107, some 108, some 109, some 110, some 111, some 112, some 113, some 114, some 115, some 116, some 117, some 118, some 119, some 120, some 121, some 122, some 123, some 124, some 125, some 126, some 127, some 128, some 129, some 130, some 131, some 132, some 133] (by decide) ?_); refine draw_rule [(0, []), (1, []), (2, []), (3, []), (4, []), (5, []), (6, []), (7, []), (8, []), (9, []), (10, []), (11, []), (12, []), (13, []), (14, [11]), (15, [11]), (16, [11]), (17, [11]), (18, [11]), (19, [11]), (20, [11]), (21, [11]), (22, [11]), (23, [11]), (24, [11]), (25, []), (26, []), (27, [])] [[], [0], [0, 1], [0, 1, 2], [0, 1, 2, 3], [0, 1, 2, 3, 4], [0, 1, 2, 3, 4, 5], [0, 1, 2, 3, 4, 5], [0, 1, 2, 3, 4, 5], [0, 1, 2, 3, 4, 5, 8], [0, 1, 2, 3, 4, 5, 7, 8, 9], [0, 1, 2, 3, 4, 5, 7, 8, 9, 10], [0, 1, 2, 3, 4, 5, 7, 8, 9, 10, 11], [0, 1, 2, 3, 4, 5, 6, 7, 8, 9, 10, 11, 12], [0, 1, 2, 3, 4, 5], [0, 1, 2, 3, 4, 5, 14], [0, 1, 2, 3, 4, 5], [0, 1, 2, 3, 4, 5], [0, 1, 2, 3, 4, 5], [0, 1, 2, 3, 4, 5, 17, 18], [0, 1, 2, 3, 4, 5, 17, 18, 19], [0, 1, 2, 3, 4, 5, 16, 17, 18, 19, 20], [0, 1, 2, 3, 4, 5, 16, 17, 18, 19, 20, 21], [0, 1, 2, 3, 4, 5, 16, 17, 18, 19, 20, 21, 22], [0, 1, 2, 3, 4, 5, 14, 15, 16, 17, 18, 19, 20, 21, 22, 23], [0, 1, 2, 3, 4, 5, 6, 7, 8, 9, 10, 11, 12, 13, 14, 15, 16, 17, 18, 19, 20, 21, 22, 23, 24], [0, 1, 2, 3, 4, 5, 6, 7, 8, 9, 10, 11, 12, 13, 14, 15, 16, 17, 18, 19, 20, 21, 22, 23, 24, 25], [0, 1, 2, 3, 4, 5, 6, 7, 8, 9, 10, 11, 12, 13, 14, 15, 16, 17, 18, 19, 20, 21, 22, 23, 24, 25, 26]] [112, 113, 114, 115, 116, 117, 118, 119, 120, 121, 122, 123, 124, 125, 126, 127, 128, 129, 130] [] (by kernel_rfl) (by kernel_rfl) (by kernel_rfl) (by kernel_rfl) (by exact trivial) ?_) | ((with_reducible refine isDraw [some 134, some 135, some 136, some 137, some 138, some 139, some 140, some 141, some 142, some 143, some 14, some 15] (by decide) ?_); refine draw_rule [(0, []), (1, []), (2, []), (3, []), (4, []), (5, []), (6, []), (7, []), (8, []), (9, []), (10, [7]), (11, [])] [[], [0], [], [], [], [4], [3, 4, 5], [3, 4, 5, 6], [3, 4, 5, 6, 7], [2, 3, 4, 5, 6, 7, 8], [0, 1], [0, 1, 2, 3, 4, 5, 6, 7, 8, 9, 10]] [134, 135, 136, 137, 138, 139, 140, 141, 142, 143] [14] (by kernel_rfl) (by kernel_rfl) (by kernel_rfl) (by kernel_rfl) (by exact ⟨rfl, trivial⟩) ?_) | (refine And.intro ?ob ?_; case ob => ((try simp only [sxO, ne_eq, maxLen] at *); omega)) | fail) <;> (try simp (config := { maxSteps := 1000000 }) only [hb0, cE_ment, hasK_nil, cE_kill, cE_len, u32_one, u32_app1, u32_set, Nat.mul_one, u32V, giSt, d1, d4, i3, j1, j2, x0, x2, x3, x4, y2, y3, y4, z2, z3, z4, u2, u3, u4, w7, w8, ↓hold_pre, awayP, runOps, regK, step1, newK, genR, appR, obl, buildR, Value.cells, closeK, keepH, outV, retK, ret1, retC, RetV, Option.getD, runD, stepD, afterK, undef, simprocAttr, sxB, ↓sxD, sxE, sxTab]))
    exact ⟨q - 1, giSt M la mq (m + 2) s' i (q - 1) (r + v1) _ _ _, by omega, le_sub ⟨rfl, rfl, rfl, rfl, rfl, rfl, rfl, rfl, trivial⟩ ⟨rfl, rfl, rfl, trivial⟩ rfl rfl rfl (keepLt0 _), _, _, rfl, h2, h3, by omega, rfl⟩
  have d4 : decide ((4294967296 : Int) ≤ (q : Int)) = false := by simp; omega
  have hm2 := mul_le (show q < 4294967296 by omega) b5
  have w9 : IntKind.u64.wrap ((q : Int) * (v2 : Int)) = ((q * v2 : Nat) : Int) := by rw [← Int.natCast_mul, wrap64_id (by omega)]
  have w10 := shl32 (show r < 4294967296 by omega)
  have w12 := or32 (show r < 4294967296 by omega) b3
  by_cases hc : r * 4294967296 + c2 < q * v2
  · have d5 : decide (((r * 4294967296 + c2 : Nat) : Int) < ((q * v2 : Nat) : Int)) = true := by rw [decide_eq_true_eq]; exact Int.ofNat_lt.2 hc
    obtain ⟨h1, h2, h3, w7, w8⟩ := body (.inr hc)
    (replace hb0 := true_and True); refine Go1.mk ?_; repeat' ((first | (with_reducible refine Go1.go ?_) | ((with_reducible first | refine brv_mk ?_ ?_ | refine gsplitD ?_ ?_ | refine gsplitG ?_ ?_) <;> intro h <;> (try simp only [Bool.not_eq_true', Bool.not_eq_false'] at h) <;> replace hb0 := h) | ((with_reducible refine isDraw [some 106, some 107, some 108, some 109, some 110, some 111, some 112, some 113, some 114, some 115, some 116, some 117, some 118, some 119, some 120, some 121, some 122, some 123, some 124, some 125, some 126, some 127, some 128, some 129, some 130, some 131, some 132, some 133] (by decide) ?_); refine draw_rule [(0, []), (1, []), (2, []), (3, []), (4, []), (5, []), (6, []), (7, []), (8, []), (9, []), (10, []), (11, []), (12, []), (13, []), (14, [11]), (15, [11]), (16, [11]), (17, [11]), (18, [11]), (19, [11]), (20, [11]), (21, [11]), (22, [11]), (23, [11]), (24, [11]), (25, []), (26, []), (27, [])] [[], [0], [0, 1], [0, 1, 2], [0, 1, 2, 3], [0, 1, 2, 3, 4], [0, 1, 2, 3, 4, 5], [0, 1, 2, 3, 4, 5], [0, 1, 2, 3, 4, 5], [0, 1, 2, 3, 4, 5, 8], [0, 1, 2, 3, 4, 5, 7, 8, 9], [0, 1, 2, 3, 4, 5, 7, 8, 9, 10], [0, 1, 2, 3, 4, 5, 7, 8, 9, 10, 11], [0, 1, 2, 3, 4, 5, 6, 7, 8, 9, 10, 11, 12], [0, 1, 2, 3, 4, 5], [0, 1, 2, 3, 4, 5, 14], [0, 1, 2, 3, 4, 5], [0, 1, 2, 3, 4, 5], [0, 1, 2, 3, 4, 5], [0, 1, 2, 3, 4, 5, 17, 18], [0, 1, 2, 3, 4, 5, 17, 18, 19], [0, 1, 2, 3, 4, 5, 16, 17, 18, 19, 20], [0, 1, 2, 3, 4, 5, 16, 17, 18, 19, 20, 21], [0, 1, 2, 3, 4, 5, 16, 17, 18, 19, 20, 21, 22], [0, 1, 2, 3, 4, 5, 14, 15, 16, 17, 18, 19, 20, 21, 22, 23], [0, 1, 2, 3, 4, 5, 6, 7, 8, 9, 10, 11, 12, 13, 14, 15, 16, 17, 18, 19, 20, 21, 22, 23, 24], [0, 1, 2, 3, 4, 5, 6, 7, 8, 9, 10, 11, 12, 13, 14, 15, 16, 17, 18, 19, 20, 21, 22, 23, 24, 25], [0, 1, 2, 3, 4, 5, 6, 7, 8, 9, 10, 11, 12, 13, 14, 15, 16, 17, 18, 19, 20, 21, 22, 23, 24, 25, 26]] [112, 113, 114, 115, 116, 117, 118, 119, 120, 121, 122, 123, 124, 125, 126, 127, 128, 129, 130] [] (by kernel_rfl) (by kernel_rfl) (by kernel_rfl) (by kernel_rfl) (by exact trivial) ?_) | ((with_reducible refine isDraw [some 134, some 135, some 136, some 137, some 138, some 139, some 140, some 141, some 142, some 143, some 14, some 15] (by decide) ?_); refine draw_rule [(0, []), (1, []), (2, []), (3, []), (4, []), (5, []), (6, []), (7, []), (8, []), (9, []), (10, [7]), (11, [])] [[], [0], [], [], [], [4], [3, 4, 5], [3, 4, 5, 6], [3, 4, 5, 6, 7], [2, 3, 4, 5, 6, 7, 8], [0, 1], [0, 1, 2, 3, 4, 5, 6, 7, 8, 9, 10]] [134, 135, 136, 137, 138, 139, 140, 141, 142, 143] [14] (by kernel_rfl) (by kernel_rfl) (by kernel_rfl) (by kernel_rfl) (by exact ⟨rfl, trivial⟩) ?_) | (refine And.intro ?ob ?_; case ob => ((try simp only [sxO, ne_eq, maxLen] at *); omega)) | fail) <;> (try simp (config := { maxSteps := 1000000 }) only [hb0, cE_ment, hasK_nil, cE_kill, cE_len, u32_one, u32_app1, u32_set, Nat.mul_one, u32V, giSt, d1, d4, d5, i3, j1, j2, x0, x2, x3, x4, y2, y3, y4, z2, z3, z4, u2, u3, u4, w7, w8, w9, w10, w12, ↓hold_pre, awayP, runOps, regK, step1, newK, genR, appR, obl, buildR, Value.cells, closeK, keepH, outV, retK, ret1, retC, RetV, Option.getD, runD, stepD, afterK, undef, simprocAttr, sxB, ↓sxD, sxE, sxTab]))
    exact ⟨q - 1, giSt M la mq (m + 2) s' i (q - 1) (r + v1) _ _ _, by omega, le_sub ⟨rfl, rfl, rfl, rfl, rfl, rfl, rfl, rfl, trivial⟩ ⟨rfl, rfl, rfl, trivial⟩ rfl rfl rfl (keepLt0 _), _, _, rfl, h2, h3, by omega, rfl⟩
  · have d5 : decide (((r * 4294967296 + c2 : Nat) : Int) < ((q * v2 : Nat) : Int)) = false := by rw [decide_eq_false_iff_not]; exact fun h => hc (Int.ofNat_lt.1 h)
    have h7 := guess_exit hcB hcC hvr htop hqr (by omega) (show q * v2 ≤ r * 4294967296 + c2 by omega)
    (replace hb0 := true_and True); refine Go1.mk ?_; repeat' ((first | (with_reducible refine Go1.go ?_) | ((with_reducible first | refine brv_mk ?_ ?_ | refine gsplitD ?_ ?_ | refine gsplitG ?_ ?_) <;> intro h <;> (try simp only [Bool.not_eq_true', Bool.not_eq_false'] at h) <;> replace hb0 := h) | ((with_reducible refine isCall (f := 106) ?_); refine callA ?_) | ((with_reducible refine isCall0 (f := 106) ?_); refine callA0 ?_) | ((with_reducible refine isCallS (f := 106) ?_); refine (place_ok P C S (ofN (y * 2 ^ s')) (la + 1) i (m + 2) q (by omega) hPl hlC hbl (by omega) (by omega) hoC (okN_ofN _) (by omega) hB0 hqd (h7) (fun C' f1 f2 f3 f4 => Stop.mk ?_))) | ((with_reducible refine isDraw [some 106, some 107, some 108, some 109, some 110, some 111, some 112, some 113, some 114, some 115, some 116, some 117, some 118, some 119, some 120, some 121, some 122, some 123, some 124, some 125, some 126, some 127, some 128, some 129, some 130, some 131, some 132, some 133] (by decide) ?_); refine draw_rule [(0, []), (1, []), (2, []), (3, []), (4, []), (5, []), (6, []), (7, []), (8, []), (9, []), (10, []), (11, []), (12, []), (13, []), (14, [11]), (15, [11]), (16, [11]), (17, [11]), (18, [11]), (19, [11]), (20, [11]), (21, [11]), (22, [11]), (23, [11]), (24, [11]), (25, []), (26, []), (27, [])] [[], [0], [0, 1], [0, 1, 2], [0, 1, 2, 3], [0, 1, 2, 3, 4], [0, 1, 2, 3, 4, 5], [0, 1, 2, 3, 4, 5], [0, 1, 2, 3, 4, 5], [0, 1, 2, 3, 4, 5, 8], [0, 1, 2, 3, 4, 5, 7, 8, 9], [0, 1, 2, 3, 4, 5, 7, 8, 9, 10], [0, 1, 2, 3, 4, 5, 7, 8, 9, 10, 11], [0, 1, 2, 3, 4, 5, 6, 7, 8, 9, 10, 11, 12], [0, 1, 2, 3, 4, 5], [0, 1, 2, 3, 4, 5, 14], [0, 1, 2, 3, 4, 5], [0, 1, 2, 3, 4, 5], [0, 1, 2, 3, 4, 5], [0, 1, 2, 3, 4, 5, 17, 18], [0, 1, 2, 3, 4, 5, 17, 18, 19], [0, 1, 2, 3, 4, 5, 16, 17, 18, 19, 20], [0, 1, 2, 3, 4, 5, 16, 17, 18, 19, 20, 21], [0, 1, 2, 3, 4, 5, 16, 17, 18, 19, 20, 21, 22], [0, 1, 2, 3, 4, 5, 14, 15, 16, 17, 18, 19, 20, 21, 22, 23], [0, 1, 2, 3, 4, 5, 6, 7, 8, 9, 10, 11, 12, 13, 14, 15, 16, 17, 18, 19, 20, 21, 22, 23, 24], [0, 1, 2, 3, 4, 5, 6, 7, 8, 9, 10, 11, 12, 13, 14, 15, 16, 17, 18, 19, 20, 21, 22, 23, 24, 25], [0, 1, 2, 3, 4, 5, 6, 7, 8, 9, 10, 11, 12, 13, 14, 15, 16, 17, 18, 19, 20, 21, 22, 23, 24, 25, 26]] [112, 113, 114, 115, 116, 117, 118, 119, 120, 121, 122, 123, 124, 125, 126, 127, 128, 129, 130] [] (by kernel_rfl) (by kernel_rfl) (by kernel_rfl) (by kernel_rfl) (by exact trivial) ?_) | (refine And.intro ?ob ?_; case ob => ((try simp only [sxO, ne_eq, maxLen] at *); omega)) | fail) <;> (try simp (config := { maxSteps := 1000000 }) only [hb0, cE_ment, hasK_nil, cE_kill, cE_len, u32_one, u32_app1, u32_set, Nat.mul_one, u32V, giSt, plH, d1, d4, d5, i3, j1, j2, x0, x2, x3, x4, y2, y3, y4, z2, z3, z4, u2, u3, u4, w9, w10, w12, ↓hold_pre, awayP, runOps, regK, step1, newK, genR, appR, obl, buildR, Value.cells, closeK, keepH, outV, retK, ret1, retC, RetV, Option.getD, runD, stepD, afterK, undef, simprocAttr, sxB, ↓sxD, sxE, sxTab]))
    rw [valN_ofN] at f3 f4 hdC ⊢
    have st := step C' _ f1 f2 f3 f4 hdC
    refine Stop.go ?_
    (replace hb0 := true_and True); refine Go1.mk ?_; repeat' ((first | (with_reducible refine Go1.go ?_) | ((with_reducible first | refine brv_mk ?_ ?_ | refine gsplitD ?_ ?_ | refine gsplitG ?_ ?_) <;> intro h <;> (try simp only [Bool.not_eq_true', Bool.not_eq_false'] at h) <;> replace hb0 := h) | (refine And.intro ?ob ?_; case ob => ((try simp only [sxO, ne_eq, maxLen] at *); omega)) | fail) <;> (try simp (config := { maxSteps := 1000000 }) only [hb0, cE_ment, hasK_nil, cE_kill, cE_len, u32_one, u32_app1, u32_set, Nat.mul_one, plH, d3, d6, d7, w11, ↓hold_pre, awayP, runOps, regK, step1, newK, genR, appR, obl, buildR, Value.cells, closeK, keepH, outV, retK, ret1, retC, RetV, Option.getD, runD, stepD, afterK, undef, simprocAttr, sxB, ↓sxD, sxE, sxTab]))
    exact ⟨i, spSt M la mq (m + 2) s' i _ _ _, by omega, le_sub ⟨rfl, rfl, rfl, rfl, rfl, rfl, trivial⟩ ⟨rfl, rfl, rfl, trivial⟩ rfl rfl rfl (keepLt0 _), i, _, _, rfl, by omega, st, rfl⟩
end
end Go.Proofs.YtamghpnjdohnjaaDoor.Sx
namespace Go.Proofs.YtamghpnjdohnjaaDoor.Sx
open Go Go.RowKit
set_option linter.unusedVariables false
set_option linter.unusedSimpArgs false
set_option maxRecDepth 100000
set_option maxHeartbeats 8000000
attribute [local congr] fin_congr finG_congr stepG_congr step1_congr runOps_congr brv_congr obl_congr condK_congr LoopK_congr seqK_congr CutK_congr vc_congr DrawK_congr regK_congr CallK_congr AskK_congr newK_congr retC_congr ret1_congr retK_congr outV_congr closeK_congr genR_congr appR_congr finD_congr finGD_congr stepGD_congr stepD_congr CallK0_congr runD_congr okR_congr CallS_congr vcX_congr
attribute [local congr] Stop_congr
theorem zeros_plain {x n c a q r : Nat} (hx : x = wN n * (a + 4294967296 * r)) (ha : a = 2 ^ c * q) (ha2 : a < 4294967296) (hq : q % 2 = 1) : c < 32 ∧ ∃ s, x = 2 ^ (32 * n + c) * s ∧ s % 2 = 1 := by
  have hc : c < 32 := by
    rcases Nat.lt_or_ge c 32 with h | h
    · exact h
    · have h1 : 2 ^ 32 ≤ 2 ^ c := Nat.pow_le_pow_right (by decide) h
      have h2 := Nat.mul_le_mul_left (2 ^ c) (show 1 ≤ q by omega)
      omega
  refine ⟨hc, q + 2 ^ (32 - c) * r, ?_, ?_⟩
  · have h1 : 2 ^ c * 2 ^ (32 - c) = 4294967296 := by rw [← Nat.pow_add, show c + (32 - c) = 32 by omega]
    rw [hx, ha, wN_two, Nat.pow_add, ← h1]
    generalize 2 ^ (32 * n) = A
    generalize 2 ^ c = B
    generalize 2 ^ (32 - c) = D
    grind
  · obtain ⟨d, hd⟩ : ∃ d, 32 - c = d + 1 := ⟨32 - c - 1, by omega⟩
    rw [hd, Nat.pow_succ, Nat.mul_comm (2 ^ d) 2, Nat.mul_assoc]
    omega
section
variable {M : Mem} {K : AV → Hp → Mem → Prop}
def zeSt (M : Mem) (u : Value) (n : Nat) : St := { env := [(3, .ext (.int .i64 (n : Int))), (0, .ext u)], hp := [], M := M, kb := 0, fx := [] }
def zfSt (M : Mem) (k a : Nat) : St := { env := [(5, .ext (.int .u32 (a : Int))), (4, .ext (.int .i64 (k : Int)))], hp := [], M := M, kb := 0, fx := [] }
theorem zeros_ok (u : Value) (x : Nat) (hu : IsL M u32V u (ofN x)) (hx : (ofN x).length < 100000000) (hx0 : 0 < x) (hK : ∀ e q : Nat, e < 32 * (ofN x).length → x = 2 ^ e * q → q % 2 = 1 → K (.ext (.int .i64 (e : Int))) [] M) : CallS Tryd.prog 91 [.ext u] [] M [] K := by
  refine inlS (cs := []) Tryd.mixed Tryd.func91 rfl (by kernel_rfl) 0 rfl rfl ?_
  simp only [Tryd.f91]
  (replace hb0 := true_and True); refine Go1.mk ?_; repeat' ((first | (with_reducible refine Go1.go ?_) | ((with_reducible first | refine brv_mk ?_ ?_ | refine gsplitD ?_ ?_ | refine gsplitG ?_ ?_) <;> intro h <;> (try simp only [Bool.not_eq_true', Bool.not_eq_false'] at h) <;> replace hb0 := h) | (refine And.intro ?ob ?_; case ob => ((try simp only [sxO, ne_eq, maxLen] at *); omega)) | fail) <;> (try simp (config := { maxSteps := 1000000 }) only [hb0, cE_ment, hasK_nil, cE_kill, cE_len, u32_one, u32_app1, u32_set, Nat.mul_one, hu.one, hu.len, hu.sl, ↓hold_pre, awayP, runOps, regK, step1, newK, genR, appR, obl, buildR, Value.cells, closeK, keepH, outV, retK, ret1, retC, RetV, Option.getD, runD, stepD, afterK, undef, simprocAttr, sxB, ↓sxD, sxE, sxTab]))
  refine ⟨fun d z => ∃ n, d = (ofN x).length - n ∧ n ≤ (ofN x).length ∧ x = wN n * valN ((ofN x).drop n) ∧ z = zeSt M u n, ⟨(ofN x).length, zeSt M u 0, le_sub ⟨rfl, rfl, trivial⟩ trivial rfl rfl rfl (keepLt0 _), ⟨0, rfl, by omega, by rw [List.drop_zero, valN_ofN]; simp [wN], rfl⟩⟩, ?_⟩
  rintro d z ⟨n, rfl, hn, hv, rfl⟩
  have hnl : n < (ofN x).length := by
    rcases Nat.lt_or_ge n (ofN x).length with h | h
    · exact h
    · rw [List.drop_of_length_le h, show valN [] = 0 from rfl] at hv; omega
  have hxi := hu.idx (P := Tryd.prog) (T := 70) tk70 tz70 (by omega) hnl
  have ha := ofN_ok_at hnl
  have hdr := valN_drop hnl
  rw [hdr] at hv
  obtain ⟨a, hae⟩ : ∃ a, (ofN x)[n] = a := ⟨_, rfl⟩
  rw [hae] at ha hv
  simp only [hae] at hxi
  clear hae hdr
  generalize hr : valN ((ofN x).drop (n + 1)) = r at *
  generalize hl : (ofN x).length = la at *
  have w1 : IntKind.i64.wrap ((n : Int) + 1) = ((n + 1 : Nat) : Int) := succ_i (by omega)
  by_cases h0 : a = 0
  · have d1 : decide ((a : Int) = 0) = true := by simp; omega
    (replace hb0 := true_and True); refine Go1.mk ?_; repeat' ((first | (with_reducible refine Go1.go ?_) | ((with_reducible first | refine brv_mk ?_ ?_ | refine gsplitD ?_ ?_ | refine gsplitG ?_ ?_) <;> intro h <;> (try simp only [Bool.not_eq_true', Bool.not_eq_false'] at h) <;> replace hb0 := h) | (refine And.intro ?ob ?_; case ob => ((try simp only [sxO, ne_eq, maxLen] at *); omega)) | fail) <;> (try simp (config := { maxSteps := 1000000 }) only [hb0, cE_ment, hasK_nil, cE_kill, cE_len, u32_one, u32_app1, u32_set, Nat.mul_one, zeSt, u32V, hu.one, hu.len, hu.sl, hl, hxi, d1, w1, ↓hold_pre, awayP, runOps, regK, step1, newK, genR, appR, obl, buildR, Value.cells, closeK, keepH, outV, retK, ret1, retC, RetV, Option.getD, runD, stepD, afterK, undef, simprocAttr, sxB, ↓sxD, sxE, sxTab]))
    exact ⟨la - (n + 1), zeSt M u (n + 1), by omega, le_sub ⟨rfl, rfl, trivial⟩ trivial rfl rfl rfl (keepLt0 _), n + 1, rfl, by omega, by
      rw [h0, Nat.zero_add] at hv
      rw [wN_succ, hr, hv]
      grind, rfl⟩
  have d1 : decide ((a : Int) = 0) = false := by simp; omega
  have w2 : IntKind.i64.wrap (32 * (n : Int)) = ((32 * n + 0 : Nat) : Int) := by rw [wrap_id (by omega) (by omega)]; omega
  (replace hb0 := true_and True); refine Go1.mk ?_; repeat' ((first | (with_reducible refine Go1.go ?_) | ((with_reducible first | refine brv_mk ?_ ?_ | refine gsplitD ?_ ?_ | refine gsplitG ?_ ?_) <;> intro h <;> (try simp only [Bool.not_eq_true', Bool.not_eq_false'] at h) <;> replace hb0 := h) | (refine And.intro ?ob ?_; case ob => ((try simp only [sxO, ne_eq, maxLen] at *); omega)) | fail) <;> (try simp (config := { maxSteps := 1000000 }) only [hb0, cE_ment, hasK_nil, cE_kill, cE_len, u32_one, u32_app1, u32_set, Nat.mul_one, zeSt, u32V, hu.one, hu.len, hu.sl, hl, hxi, d1, w2, ↓hold_pre, awayP, runOps, regK, step1, newK, genR, appR, obl, buildR, Value.cells, closeK, keepH, outV, retK, ret1, retC, RetV, Option.getD, runD, stepD, afterK, undef, simprocAttr, sxB, ↓sxD, sxE, sxTab]))
  refine ⟨fun d z => ∃ c q, q = d ∧ 0 < q ∧ q < 4294967296 ∧ c ≤ 32 ∧ a = 2 ^ c * q ∧ z = zfSt M (32 * n + c) q, ⟨a, zfSt M (32 * n + 0) a, le_sub ⟨rfl, rfl, trivial⟩ trivial rfl rfl rfl (keepLt0 _), ⟨0, a, rfl, by omega, ha, by omega, by simp, rfl⟩⟩, ?_⟩
  rintro d z ⟨c, q, rfl, hq0, hq1, hc, hac, rfl⟩
  have w3 : (q : Int).tmod 2 = ((q % 2 : Nat) : Int) := by rw [show (2 : Int) = ((2 : Nat) : Int) from rfl, ← Int.ofNat_tmod]
  have w4 : IntKind.u32.wrap ((q : Int).tdiv 2) = ((q / 2 : Nat) : Int) := by
    rw [show (2 : Int) = ((2 : Nat) : Int) from rfl, ← Int.ofNat_tdiv, wrap32_id (by omega)]
  have w5 : IntKind.u32.wrap ((q % 2 : Nat) : Int) = ((q % 2 : Nat) : Int) := wrap32_id (by omega)
  have w6 : IntKind.i64.wrap (((32 * n + c : Nat) : Int) + 1) = ((32 * n + (c + 1) : Nat) : Int) := by rw [wrap_id (by omega) (by omega)]; omega
  by_cases he : q % 2 = 0
  · have d2 : decide (((q % 2 : Nat) : Int) = 0) = true := by rw [he]; rfl
    (replace hb0 := true_and True); refine Go1.mk ?_; repeat' ((first | (with_reducible refine Go1.go ?_) | ((with_reducible first | refine brv_mk ?_ ?_ | refine gsplitD ?_ ?_ | refine gsplitG ?_ ?_) <;> intro h <;> (try simp only [Bool.not_eq_true', Bool.not_eq_false'] at h) <;> replace hb0 := h) | (refine And.intro ?ob ?_; case ob => ((try simp only [sxO, ne_eq, maxLen] at *); omega)) | fail) <;> (try simp (config := { maxSteps := 1000000 }) only [hb0, cE_ment, hasK_nil, cE_kill, cE_len, u32_one, u32_app1, u32_set, Nat.mul_one, zfSt, d2, w3, w4, w5, w6, ↓hold_pre, awayP, runOps, regK, step1, newK, genR, appR, obl, buildR, Value.cells, closeK, keepH, outV, retK, ret1, retC, RetV, Option.getD, runD, stepD, afterK, undef, simprocAttr, sxB, ↓sxD, sxE, sxTab]))
    have hq2 : q = 2 * (q / 2) := by omega
    have hac2 : a = 2 ^ (c + 1) * (q / 2) := by
      rw [Nat.pow_succ, Nat.mul_assoc, ← hq2]; exact hac
    exact ⟨q / 2, zfSt M (32 * n + (c + 1)) (q / 2), by omega, le_sub ⟨rfl, rfl, trivial⟩ trivial rfl rfl rfl (keepLt0 _), c + 1, q / 2, rfl, by omega, by omega, by
      rcases Nat.lt_or_ge c 32 with h | h
      · omega
      · have h1 : 2 ^ 32 ≤ 2 ^ c := Nat.pow_le_pow_right (by decide) h
        have h2 := Nat.mul_le_mul_left (2 ^ c) (show 1 ≤ q by omega)
        omega, hac2, rfl⟩
  · have d2 : decide (((q % 2 : Nat) : Int) = 0) = false := by rw [show q % 2 = 1 by omega]; rfl
    obtain ⟨hc2, s, hs1, hs2⟩ := zeros_plain hv hac ha (show q % 2 = 1 by omega)
    (replace hb0 := true_and True); refine Go1.mk ?_; repeat' ((first | (with_reducible refine Go1.go ?_) | ((with_reducible first | refine brv_mk ?_ ?_ | refine gsplitD ?_ ?_ | refine gsplitG ?_ ?_) <;> intro h <;> (try simp only [Bool.not_eq_true', Bool.not_eq_false'] at h) <;> replace hb0 := h) | (refine And.intro ?ob ?_; case ob => ((try simp only [sxO, ne_eq, maxLen] at *); omega)) | fail) <;> (try simp (config := { maxSteps := 1000000 }) only [hb0, cE_ment, hasK_nil, cE_kill, cE_len, u32_one, u32_app1, u32_set, Nat.mul_one, zfSt, d2, w3, w4, w5, w6, ↓hold_pre, awayP, runOps, regK, step1, newK, genR, appR, obl, buildR, Value.cells, closeK, keepH, outV, retK, ret1, retC, RetV, Option.getD, runD, stepD, afterK, undef, simprocAttr, sxB, ↓sxD, sxE, sxTab]))
    exact hK _ s (by omega) hs1 hs2
theorem zeros_bor (k o m : Nat) (T : TypeId) (L : List Nat) (x : Nat) (h : OwnN L o m x) (hb : L.length < 100000000) (hx0 : 0 < x) (hK : ∀ e q : Nat, e < 32 * (ofN x).length → x = 2 ^ e * q → q % 2 = 1 → K (.ext (.int .i64 (e : Int))) [(k, T, cE u32V L)] M) : CallS Tryd.prog 91 [.slo k o m 1] [(k, T, cE u32V L)] M [] K := by
  refine CallS.bor ⟨⟨_, rfl⟩, trivial⟩ fun us M' hM hb' => ?_
  obtain ⟨v1, _, rfl, h1, rfl⟩ := hb'
  have g1 := h1.part (g := u32V) (L := L) (T := T) (by simp [lkH]) h.le
  rw [h.eq] at g1
  exact zeros_ok v1 x g1 (by have := h.len; have := h.le; omega) hx0 fun e q h1 h2 h3 => BorK.same (hK e q h1 h2 h3)
theorem order_bor (k1 k2 o1 m1 o2 m2 : Nat) (hne : k1 ≠ k2) (T : TypeId) (L1 L2 : List Nat) (x y : Nat) (h : OwnN L1 o1 m1 x) (g : OwnN L2 o2 m2 y) (hb1 : L1.length < 100000000) (hb2 : L2.length < 100000000) (hK : K (.ext (.int .i64 (cmpN x y))) [(k1, T, cE u32V L1), (k2, T, cE u32V L2)] M) :
    CallS Tryd.prog 57 [.slo k1 o1 m1 1, .slo k2 o2 m2 1] [(k1, T, cE u32V L1), (k2, T, cE u32V L2)] M [] K := by
  refine CallS.bor ⟨⟨_, rfl⟩, ⟨_, rfl⟩, trivial⟩ fun us M' hM hb' => ?_
  obtain ⟨v1, _, rfl, h1, v2, _, rfl, h2, rfl⟩ := hb'
  have g1 := h1.part (g := u32V) (L := L1) (T := T) (by simp [lkH]) h.le
  have g2 := h2.part (g := u32V) (L := L2) (T := T) (by simp [lkH, hne, hne.symm]) g.le
  rw [h.eq] at g1
  rw [g.eq] at g2
  exact rorder_ok v1 v2 x y g1 g2 (by have := h.len; have := h.le; omega) (by have := g.len; have := g.le; omega) (BorK.same hK)
end
end Go.Proofs.YtamghpnjdohnjaaDoor.Sx
namespace Go.Proofs.YtamghpnjdohnjaaDoor.Sx
open Go Go.RowKit
set_option linter.unusedVariables false
set_option linter.unusedSimpArgs false
set_option maxRecDepth 100000
set_option maxHeartbeats 8000000
attribute [local congr] fin_congr finG_congr stepG_congr step1_congr runOps_congr brv_congr obl_congr condK_congr LoopK_congr seqK_congr CutK_congr vc_congr DrawK_congr regK_congr CallK_congr AskK_congr newK_congr retC_congr ret1_congr retK_congr outV_congr closeK_congr genR_congr appR_congr finD_congr finGD_congr stepGD_congr stepD_congr CallK0_congr runD_congr okR_congr CallS_congr vcX_congr
attribute [local congr] Stop_congr
section
variable {M : Mem} {K : AV → Hp → Mem → Prop}
def tkSt (M : Mem) (k1 k2 o1 m1 o2 m2 i b : Nat) (L1 L2 : List Nat) : St := { env := [(6, .ext (.int .i64 (i : Int))), (5, .ext (.int .u64 (b : Int))), (0, .slo k1 o1 m1 1), (1, .slo k2 o2 m2 1)], hp := [(k1, 70, cE u32V L1), (k2, 70, cE u32V L2)], M := M, kb := 3000, fx := [k1, k2] }
theorem takeA_ok (o1 m1 o2 m2 : Nat) (L1 L2 : List Nat) (x y : Nat) (hA : OwnN L1 o1 m1 x) (hB : OwnN L2 o2 m2 y) (hb1 : L1.length < 100000000) (hb2 : L2.length < 100000000) (hyx : y ≤ x) (hK : ∀ L' m', L'.length = L1.length → OwnN L' o1 m' (x - y) → K (.slo 11 o1 m' 1) [(11, 70, cE u32V L'), (13, 70, cE u32V L2)] M) :
    CallS Tryd.prog 93 [.slo 11 o1 m1 1, .slo 13 o2 m2 1] [(11, 70, cE u32V L1), (13, 70, cE u32V L2)] M [] K := by
  refine inlS (cs := []) (f := 93) Tryd.mixed Tryd.func93 rfl (by kernel_rfl) 3000 rfl rfl ?_
  simp only [Tryd.f93]
  (replace hb0 := true_and True); refine Go1.mk ?_; repeat' ((first | (with_reducible refine Go1.go ?_) | ((with_reducible first | refine brv_mk ?_ ?_ | refine gsplitD ?_ ?_ | refine gsplitG ?_ ?_) <;> intro h <;> (try simp only [Bool.not_eq_true', Bool.not_eq_false'] at h) <;> replace hb0 := h) | (refine And.intro ?ob ?_; case ob => ((try simp only [sxO, ne_eq, maxLen] at *); omega)) | fail) <;> (try simp (config := { maxSteps := 1000000 }) only [hb0, cE_ment, hasK_nil, cE_kill, cE_len, u32_one, u32_app1, u32_set, Nat.mul_one, ↓hold_pre, awayP, runOps, regK, step1, newK, genR, appR, obl, buildR, Value.cells, closeK, keepH, outV, retK, ret1, retC, RetV, Option.getD, runD, stepD, afterK, undef, simprocAttr, sxB, ↓sxD, sxE, sxTab]))
  have hAle := hA.le
  have hBle := hB.le
  have hAlen := hA.len
  have hBlen := hB.len
  have hml : m2 ≤ m1 := by rw [hAlen, hBlen]; exact len_mono hyx
  have hL : L1 = L1.take o1 ++ ((L1.drop o1).take m1 ++ L1.drop (o1 + m1)) := by
    rw [← List.drop_drop, List.take_append_drop, List.take_append_drop]
  have hPl : (L1.take o1).length = o1 := by rw [List.length_take]; omega
  have hoP := okN_take hA.ok o1
  have hoS := okN_drop hA.ok (o1 + m1)
  rw [hA.eq] at hL
  generalize L1.take o1 = P at *
  generalize L1.drop (o1 + m1) = S at *
  have hLl : L1.length = o1 + (m1 + S.length) := by rw [hL, List.length_append, List.length_append, hPl, ← hAlen]
  subst hL
  clear hA
  refine ⟨fun d z => ∃ i b C, d = m1 - i ∧ i ≤ m1 ∧ C.length = m1 ∧ okN C ∧ C.drop i = (ofN x).drop i ∧ b ≤ 1 ∧ valN (C.take i) + valN ((ofN y).take i) = valN ((ofN x).take i) + wN i * b ∧ z = tkSt M 11 13 o1 m1 o2 m2 i b (P ++ (C ++ S)) L2,
    ⟨m1, tkSt M 11 13 o1 m1 o2 m2 0 0 (P ++ (ofN x ++ S)) L2, le_sub ⟨rfl, rfl, rfl, rfl, trivial⟩ ⟨rfl, rfl, trivial⟩ rfl rfl rfl (by simp [keepLt, tkSt, lkH]), ⟨0, 0, ofN x, rfl, by omega, hAlen.symm, okN_ofN x, rfl, by omega, by simp [valN], rfl⟩⟩, ?_⟩
  rintro d z ⟨i, c, C, rfl, hi, hC, hoC, hdr, hc, hval, rfl⟩
  by_cases hlt : i < m1
  case neg =>
    obtain rfl : i = m1 := by omega
    have d1 : decide ((i : Int) < (i : Int)) = false := by simp
    rw [take_all (l := ofN y) (by omega), take_all (l := ofN x) (by omega), take_all (l := C) (by omega), valN_ofN, valN_ofN, ← hC] at hval
    have hv2 := sub_end hoC hval hyx
    have hok : okN (P ++ (C ++ S)) := okN_app.2 ⟨hoP, okN_app.2 ⟨hoC, hoS⟩⟩
    have hol : o1 + i ≤ (P ++ (C ++ S)).length := by simp [hC, hPl]
    have hfl : (P ++ (C ++ S)).length = (P ++ (ofN x ++ S)).length := by simp [hC, ← hAlen]
    have hpart : ((P ++ (C ++ S)).drop o1).take i = C := by
      rw [← hPl, List.drop_left, ← hC, List.take_left]
    (replace hb0 := true_and True); refine Go1.mk ?_; repeat' ((first | (with_reducible refine Go1.go ?_) | ((with_reducible first | refine brv_mk ?_ ?_ | refine gsplitD ?_ ?_ | refine gsplitG ?_ ?_) <;> intro h <;> (try simp only [Bool.not_eq_true', Bool.not_eq_false'] at h) <;> replace hb0 := h) | ((with_reducible refine isCall (f := 115) ?_); refine callA ?_) | ((with_reducible refine isCall0 (f := 115) ?_); refine callA0 ?_) | ((with_reducible refine isCallS (f := 115) ?_); refine (cut_ok 11 o1 i (P ++ (C ++ S)) hol (by omega) hok (fun m' c1 c2 c3 => Stop.mk ?_))) | (refine And.intro ?ob ?_; case ob => ((try simp only [sxO, ne_eq, maxLen] at *); omega)) | fail) <;> (try simp (config := { maxSteps := 1000000 }) only [hb0, cE_ment, hasK_nil, cE_kill, cE_len, u32_one, u32_app1, u32_set, Nat.mul_one, tkSt, d1, ↓hold_pre, awayP, runOps, regK, step1, newK, genR, appR, obl, buildR, Value.cells, closeK, keepH, outV, retK, ret1, retC, RetV, Option.getD, runD, stepD, afterK, undef, simprocAttr, sxB, ↓sxD, sxE, sxTab]))
    rw [hpart, hv2] at c1 c2
    refine Stop.go ?_
    (replace hb0 := true_and True); refine Go1.mk ?_; repeat' ((first | (with_reducible refine Go1.go ?_) | ((with_reducible first | refine brv_mk ?_ ?_ | refine gsplitD ?_ ?_ | refine gsplitG ?_ ?_) <;> intro h <;> (try simp only [Bool.not_eq_true', Bool.not_eq_false'] at h) <;> replace hb0 := h) | (refine And.intro ?ob ?_; case ob => ((try simp only [sxO, ne_eq, maxLen] at *); omega)) | fail) <;> (try simp (config := { maxSteps := 1000000 }) only [hb0, cE_ment, hasK_nil, cE_kill, cE_len, u32_one, u32_app1, u32_set, Nat.mul_one, ↓hold_pre, awayP, runOps, regK, step1, newK, genR, appR, obl, buildR, Value.cells, closeK, keepH, outV, retK, ret1, retC, RetV, Option.getD, runD, stepD, afterK, undef, simprocAttr, sxB, ↓sxD, sxE, sxTab]))
    refine hK _ m' hfl ⟨by omega, hok, ?_⟩
    have hp2 := congrArg (List.take m') hpart
    rw [List.take_take, Nat.min_eq_left c3] at hp2
    rw [← c1, hp2]
  have hiC : i < C.length := by omega
  have hix : i < (ofN x).length := by omega
  have hat := u32_mid (S := S) hPl hiC
  have hx0 := okN_at hoC hiC
  have hCi : C[i] = (ofN x)[i] := by
    have e1 : (C.drop i)[0]? = ((ofN x).drop i)[0]? := by rw [hdr]
    rw [List.getElem?_drop, List.getElem?_drop, Nat.add_zero, List.getElem?_eq_getElem hiC, List.getElem?_eq_getElem hix] at e1
    exact Option.some.inj e1
  have hgx : (ofN x).getD i 0 = C[i] := by simp [List.getD, hix, hCi]
  clear hCi
  have hti : (C.take i).length = i := by rw [List.length_take]; omega
  have d1 : decide ((i : Int) < (m1 : Int)) = true := by simp; omega
  have d2 : (0 : Int) ≤ (i : Int) := by omega
  have d3 : (i : Int) < (m1 : Int) := by omega
  have d4 : (o1 + i < (P ++ (C ++ S)).length) = True := by simp [hC, hPl]; omega
  have w9 : IntKind.i64.wrap ((i : Int) + 1) = ((i + 1 : Nat) : Int) := succ_i (by omega)
  have fin : ∀ (r c' : Nat), r < 4294967296 → c' ≤ 1 → r + (ofN y).getD i 0 + c = C[i] + 4294967296 * c' → ∃ D, D.length = m1 ∧ okN D ∧ D.drop (i + 1) = (ofN x).drop (i + 1) ∧ valN (D.take (i + 1)) + valN ((ofN y).take (i + 1)) = valN ((ofN x).take (i + 1)) + wN (i + 1) * c' ∧ D = C.set i r := fun r c' hr hc' he => by
    refine ⟨C.set i r, by rw [List.length_set]; exact hC, okN_set hoC hr, ?_, ?_, rfl⟩
    · rw [List.drop_set_of_lt (by omega)]
      have := congrArg (List.drop 1) hdr
      rw [List.drop_drop, List.drop_drop] at this
      exact this
    · have hv3 : valN (C.take i) + valN ((ofN y).take i) = valN ((ofN x).take i) + wN (C.take i).length * c := by rw [hti]; exact hval
      have st := sub_step hv3 he
      rw [hti] at st
      rw [take_set_self hiC, take_val, take_val, hgx]; exact st
  generalize C[i] = a at *
  have w3 : IntKind.u64.wrap (a : Int) = (a : Int) := wrap64_id (by omega)
  have w4 : IntKind.u64.wrap ((a : Int) - (c : Int)) = ((subW a c : Nat) : Int) := wrap64_sub (by omega)
  by_cases hy : i < m2
  · have hiy : i < (ofN y).length := by omega
    have hyt := u32_part hB.le hy (hil := by rw [List.length_take, List.length_drop]; omega)
    have hge : ((L2.drop o2).take m2)[i]'(by rw [List.length_take, List.length_drop]; omega) = (ofN y)[i] := by
      simp only [hB.eq]
    rw [hge] at hyt
    have hy0 := ofN_ok_at hiy
    have hgy : (ofN y).getD i 0 = (ofN y)[i] := by simp [List.getD, hiy]
    rw [hgy] at fin
    generalize (ofN y)[i] = b at *
    have d5 : decide ((i : Int) < (m2 : Int)) = true := by simp; omega
    have d6 : (i : Int) < (m2 : Int) := by omega
    have w5 : IntKind.u64.wrap (b : Int) = (b : Int) := wrap64_id (by omega)
    have w6 : IntKind.u64.wrap (((subW a c : Nat) : Int) - (b : Int)) = ((subW (subW a c) b : Nat) : Int) := wrap64_sub (by omega)
    have w7 := wrap32 (subW (subW a c) b)
    have w8 := shr63 (subW (subW a c) b)
    have hms := mid_set P C S o1 i (subW (subW a c) b % 4294967296) hPl hiC
    obtain ⟨s1, s2⟩ := subW_3 hx0 hy0 hc
    obtain ⟨D, f1, f2, f3, f4, f5⟩ := fin _ _ (Nat.mod_lt _ (by decide)) s2 s1
    (replace hb0 := true_and True); refine Go1.mk ?_; repeat' ((first | (with_reducible refine Go1.go ?_) | ((with_reducible first | refine brv_mk ?_ ?_ | refine gsplitD ?_ ?_ | refine gsplitG ?_ ?_) <;> intro h <;> (try simp only [Bool.not_eq_true', Bool.not_eq_false'] at h) <;> replace hb0 := h) | (refine And.intro ?ob ?_; case ob => ((try simp only [sxO, ne_eq, maxLen] at *); omega)) | fail) <;> (try simp (config := { maxSteps := 1000000 }) only [hb0, cE_ment, hasK_nil, cE_kill, cE_len, u32_one, u32_app1, u32_set, Nat.mul_one, tkSt, u32V, hat, hyt, d1, d2, d3, d4, d5, d6, w3, w4, w5, w6, w7, w8, w9, hms, ↓hold_pre, awayP, runOps, regK, step1, newK, genR, appR, obl, buildR, Value.cells, closeK, keepH, outV, retK, ret1, retC, RetV, Option.getD, runD, stepD, afterK, undef, simprocAttr, sxB, ↓sxD, sxE, sxTab]))
    rw [← f5]
    exact ⟨m1 - (i + 1), tkSt M 11 13 o1 m1 o2 m2 (i + 1) _ (P ++ (D ++ S)) L2, by omega, le_sub ⟨rfl, rfl, rfl, rfl, trivial⟩ ⟨rfl, rfl, trivial⟩ rfl rfl rfl (by simp [keepLt, tkSt, lkH]), i + 1, _, D, rfl, by omega, f1, f2, f3, s2, f4, rfl⟩
  · have d5 : decide ((i : Int) < (m2 : Int)) = false := by simp; omega
    have hgy : (ofN y).getD i 0 = 0 := by simp [List.getD, List.getElem?_eq_none (show (ofN y).length ≤ i by omega)]
    rw [hgy] at fin
    have w7 := wrap32 (subW a c)
    have w8 := shr63 (subW a c)
    have hms := mid_set P C S o1 i (subW a c % 4294967296) hPl hiC
    obtain ⟨s1, s2⟩ := subW_3 hx0 (show 0 < 4294967296 by decide) hc
    have s0 : subW (subW a c) 0 = subW a c := by unfold subW; omega
    rw [s0] at s1 s2
    obtain ⟨D, f1, f2, f3, f4, f5⟩ := fin _ _ (Nat.mod_lt _ (by decide)) s2 s1
    (replace hb0 := true_and True); refine Go1.mk ?_; repeat' ((first | (with_reducible refine Go1.go ?_) | ((with_reducible first | refine brv_mk ?_ ?_ | refine gsplitD ?_ ?_ | refine gsplitG ?_ ?_) <;> intro h <;> (try simp only [Bool.not_eq_true', Bool.not_eq_false'] at h) <;> replace hb0 := h) | (refine And.intro ?ob ?_; case ob => ((try simp only [sxO, ne_eq, maxLen] at *); omega)) | fail) <;> (try simp (config := { maxSteps := 1000000 }) only [hb0, cE_ment, hasK_nil, cE_kill, cE_len, u32_one, u32_app1, u32_set, Nat.mul_one, tkSt, u32V, hat, d1, d2, d3, d4, d5, w3, w4, w7, w8, w9, hms, ↓hold_pre, awayP, runOps, regK, step1, newK, genR, appR, obl, buildR, Value.cells, closeK, keepH, outV, retK, ret1, retC, RetV, Option.getD, runD, stepD, afterK, undef, simprocAttr, sxB, ↓sxD, sxE, sxTab]))
    rw [← f5]
    exact ⟨m1 - (i + 1), tkSt M 11 13 o1 m1 o2 m2 (i + 1) _ (P ++ (D ++ S)) L2, by omega, le_sub ⟨rfl, rfl, rfl, rfl, trivial⟩ ⟨rfl, rfl, trivial⟩ rfl rfl rfl (by simp [keepLt, tkSt, lkH]), i + 1, _, D, rfl, by omega, f1, f2, f3, s2, f4, rfl⟩
theorem takeB_ok (o1 m1 o2 m2 : Nat) (L1 L2 : List Nat) (x y : Nat) (hA : OwnN L1 o1 m1 x) (hB : OwnN L2 o2 m2 y) (hb1 : L1.length < 100000000) (hb2 : L2.length < 100000000) (hyx : y ≤ x) (hK : ∀ L' m', L'.length = L1.length → OwnN L' o1 m' (x - y) → K (.slo 13 o1 m' 1) [(13, 70, cE u32V L'), (11, 70, cE u32V L2)] M) :
    CallS Tryd.prog 93 [.slo 13 o1 m1 1, .slo 11 o2 m2 1] [(13, 70, cE u32V L1), (11, 70, cE u32V L2)] M [] K := by
  refine inlS (cs := []) (f := 93) Tryd.mixed Tryd.func93 rfl (by kernel_rfl) 3000 rfl rfl ?_
  simp only [Tryd.f93]
  (replace hb0 := true_and True); refine Go1.mk ?_; repeat' ((first | (with_reducible refine Go1.go ?_) | ((with_reducible first | refine brv_mk ?_ ?_ | refine gsplitD ?_ ?_ | refine gsplitG ?_ ?_) <;> intro h <;> (try simp only [Bool.not_eq_true', Bool.not_eq_false'] at h) <;> replace hb0 := h) | (refine And.intro ?ob ?_; case ob => ((try simp only [sxO, ne_eq, maxLen] at *); omega)) | fail) <;> (try simp (config := { maxSteps := 1000000 }) only [hb0, cE_ment, hasK_nil, cE_kill, cE_len, u32_one, u32_app1, u32_set, Nat.mul_one, ↓hold_pre, awayP, runOps, regK, step1, newK, genR, appR, obl, buildR, Value.cells, closeK, keepH, outV, retK, ret1, retC, RetV, Option.getD, runD, stepD, afterK, undef, simprocAttr, sxB, ↓sxD, sxE, sxTab]))
  have hAle := hA.le
  have hBle := hB.le
  have hAlen := hA.len
  have hBlen := hB.len
  have hml : m2 ≤ m1 := by rw [hAlen, hBlen]; exact len_mono hyx
  have hL : L1 = L1.take o1 ++ ((L1.drop o1).take m1 ++ L1.drop (o1 + m1)) := by
    rw [← List.drop_drop, List.take_append_drop, List.take_append_drop]
  have hPl : (L1.take o1).length = o1 := by rw [List.length_take]; omega
  have hoP := okN_take hA.ok o1
  have hoS := okN_drop hA.ok (o1 + m1)
  rw [hA.eq] at hL
  generalize L1.take o1 = P at *
  generalize L1.drop (o1 + m1) = S at *
  have hLl : L1.length = o1 + (m1 + S.length) := by rw [hL, List.length_append, List.length_append, hPl, ← hAlen]
  subst hL
  clear hA
  refine ⟨fun d z => ∃ i b C, d = m1 - i ∧ i ≤ m1 ∧ C.length = m1 ∧ okN C ∧ C.drop i = (ofN x).drop i ∧ b ≤ 1 ∧ valN (C.take i) + valN ((ofN y).take i) = valN ((ofN x).take i) + wN i * b ∧ z = tkSt M 13 11 o1 m1 o2 m2 i b (P ++ (C ++ S)) L2,
    ⟨m1, tkSt M 13 11 o1 m1 o2 m2 0 0 (P ++ (ofN x ++ S)) L2, le_sub ⟨rfl, rfl, rfl, rfl, trivial⟩ ⟨rfl, rfl, trivial⟩ rfl rfl rfl (by simp [keepLt, tkSt, lkH]), ⟨0, 0, ofN x, rfl, by omega, hAlen.symm, okN_ofN x, rfl, by omega, by simp [valN], rfl⟩⟩, ?_⟩
  rintro d z ⟨i, c, C, rfl, hi, hC, hoC, hdr, hc, hval, rfl⟩
  by_cases hlt : i < m1
  case neg =>
    obtain rfl : i = m1 := by omega
    have d1 : decide ((i : Int) < (i : Int)) = false := by simp
    rw [take_all (l := ofN y) (by omega), take_all (l := ofN x) (by omega), take_all (l := C) (by omega), valN_ofN, valN_ofN, ← hC] at hval
    have hv2 := sub_end hoC hval hyx
    have hok : okN (P ++ (C ++ S)) := okN_app.2 ⟨hoP, okN_app.2 ⟨hoC, hoS⟩⟩
    have hol : o1 + i ≤ (P ++ (C ++ S)).length := by simp [hC, hPl]
    have hfl : (P ++ (C ++ S)).length = (P ++ (ofN x ++ S)).length := by simp [hC, ← hAlen]
    have hpart : ((P ++ (C ++ S)).drop o1).take i = C := by
      rw [← hPl, List.drop_left, ← hC, List.take_left]
    (replace hb0 := true_and True); refine Go1.mk ?_; repeat' ((first | (with_reducible refine Go1.go ?_) | ((with_reducible first | refine brv_mk ?_ ?_ | refine gsplitD ?_ ?_ | refine gsplitG ?_ ?_) <;> intro h <;> (try simp only [Bool.not_eq_true', Bool.not_eq_false'] at h) <;> replace hb0 := h) | ((with_reducible refine isCall (f := 115) ?_); refine callA ?_) | ((with_reducible refine isCall0 (f := 115) ?_); refine callA0 ?_) | ((with_reducible refine isCallS (f := 115) ?_); refine (cut_ok 13 o1 i (P ++ (C ++ S)) hol (by omega) hok (fun m' c1 c2 c3 => Stop.mk ?_))) | (refine And.intro ?ob ?_; case ob => ((try simp only [sxO, ne_eq, maxLen] at *); omega)) | fail) <;> (try simp (config := { maxSteps := 1000000 }) only [hb0, cE_ment, hasK_nil, cE_kill, cE_len, u32_one, u32_app1, u32_set, Nat.mul_one, tkSt, d1, ↓hold_pre, awayP, runOps, regK, step1, newK, genR, appR, obl, buildR, Value.cells, closeK, keepH, outV, retK, ret1, retC, RetV, Option.getD, runD, stepD, afterK, undef, simprocAttr, sxB, ↓sxD, sxE, sxTab]))
    rw [hpart, hv2] at c1 c2
    refine Stop.go ?_
    (replace hb0 := true_and True); refine Go1.mk ?_; repeat' ((first | (with_reducible refine Go1.go ?_) | ((with_reducible first | refine brv_mk ?_ ?_ | refine gsplitD ?_ ?_ | refine gsplitG ?_ ?_) <;> intro h <;> (try simp only [Bool.not_eq_true', Bool.not_eq_false'] at h) <;> replace hb0 := h) | (refine And.intro ?ob ?_; case ob => ((try simp only [sxO, ne_eq, maxLen] at *); omega)) | fail) <;> (try simp (config := { maxSteps := 1000000 }) only [hb0, cE_ment, hasK_nil, cE_kill, cE_len, u32_one, u32_app1, u32_set, Nat.mul_one, ↓hold_pre, awayP, runOps, regK, step1, newK, genR, appR, obl, buildR, Value.cells, closeK, keepH, outV, retK, ret1, retC, RetV, Option.getD, runD, stepD, afterK, undef, simprocAttr, sxB, ↓sxD, sxE, sxTab]))
    refine hK _ m' hfl ⟨by omega, hok, ?_⟩
    have hp2 := congrArg (List.take m') hpart
    rw [List.take_take, Nat.min_eq_left c3] at hp2
    rw [← c1, hp2]
  have hiC : i < C.length := by omega
  have hix : i < (ofN x).length := by omega
  have hat := u32_mid (S := S) hPl hiC
  have hx0 := okN_at hoC hiC
  have hCi : C[i] = (ofN x)[i] := by
    have e1 : (C.drop i)[0]? = ((ofN x).drop i)[0]? := by rw [hdr]
    rw [List.getElem?_drop, List.getElem?_drop, Nat.add_zero, List.getElem?_eq_getElem hiC, List.getElem?_eq_getElem hix] at e1
    exact Option.some.inj e1
  have hgx : (ofN x).getD i 0 = C[i] := by simp [List.getD, hix, hCi]
  clear hCi
  have hti : (C.take i).length = i := by rw [List.length_take]; omega
  have d1 : decide ((i : Int) < (m1 : Int)) = true := by simp; omega
  have d2 : (0 : Int) ≤ (i : Int) := by omega
  have d3 : (i : Int) < (m1 : Int) := by omega
  have d4 : (o1 + i < (P ++ (C ++ S)).length) = True := by simp [hC, hPl]; omega
  have w9 : IntKind.i64.wrap ((i : Int) + 1) = ((i + 1 : Nat) : Int) := succ_i (by omega)
  have fin : ∀ (r c' : Nat), r < 4294967296 → c' ≤ 1 → r + (ofN y).getD i 0 + c = C[i] + 4294967296 * c' → ∃ D, D.length = m1 ∧ okN D ∧ D.drop (i + 1) = (ofN x).drop (i + 1) ∧ valN (D.take (i + 1)) + valN ((ofN y).take (i + 1)) = valN ((ofN x).take (i + 1)) + wN (i + 1) * c' ∧ D = C.set i r := fun r c' hr hc' he => by
    refine ⟨C.set i r, by rw [List.length_set]; exact hC, okN_set hoC hr, ?_, ?_, rfl⟩
    · rw [List.drop_set_of_lt (by omega)]
      have := congrArg (List.drop 1) hdr
      rw [List.drop_drop, List.drop_drop] at this
      exact this
    · have hv3 : valN (C.take i) + valN ((ofN y).take i) = valN ((ofN x).take i) + wN (C.take i).length * c := by rw [hti]; exact hval
      have st := sub_step hv3 he
      rw [hti] at st
      rw [take_set_self hiC, take_val, take_val, hgx]; exact st
  generalize C[i] = a at *
  have w3 : IntKind.u64.wrap (a : Int) = (a : Int) := wrap64_id (by omega)
  have w4 : IntKind.u64.wrap ((a : Int) - (c : Int)) = ((subW a c : Nat) : Int) := wrap64_sub (by omega)
  by_cases hy : i < m2
  · have hiy : i < (ofN y).length := by omega
    have hyt := u32_part hB.le hy (hil := by rw [List.length_take, List.length_drop]; omega)
    have hge : ((L2.drop o2).take m2)[i]'(by rw [List.length_take, List.length_drop]; omega) = (ofN y)[i] := by
      simp only [hB.eq]
    rw [hge] at hyt
    have hy0 := ofN_ok_at hiy
    have hgy : (ofN y).getD i 0 = (ofN y)[i] := by simp [List.getD, hiy]
    rw [hgy] at fin
    generalize (ofN y)[i] = b at *
    have d5 : decide ((i : Int) < (m2 : Int)) = true := by simp; omega
    have d6 : (i : Int) < (m2 : Int) := by omega
    have w5 : IntKind.u64.wrap (b : Int) = (b : Int) := wrap64_id (by omega)
    have w6 : IntKind.u64.wrap (((subW a c : Nat) : Int) - (b : Int)) = ((subW (subW a c) b : Nat) : Int) := wrap64_sub (by omega)
    have w7 := wrap32 (subW (subW a c) b)
    have w8 := shr63 (subW (subW a c) b)
    have hms := mid_set P C S o1 i (subW (subW a c) b % 4294967296) hPl hiC
    obtain ⟨s1, s2⟩ := subW_3 hx0 hy0 hc
    obtain ⟨D, f1, f2, f3, f4, f5⟩ := fin _ _ (Nat.mod_lt _ (by decide)) s2 s1
    (replace hb0 := true_and True); refine Go1.mk ?_; repeat' ((first | (with_reducible refine Go1.go ?_) | ((with_reducible first | refine brv_mk ?_ ?_ | refine gsplitD ?_ ?_ | refine gsplitG ?_ ?_) <;> intro h <;> (try simp only [Bool.not_eq_true', Bool.not_eq_false'] at h) <;> replace hb0 := h) | (refine And.intro ?ob ?_; case ob => ((try simp only [sxO, ne_eq, maxLen] at *); omega)) | fail) <;> (try simp (config := { maxSteps := 1000000 }) only [hb0, cE_ment, hasK_nil, cE_kill, cE_len, u32_one, u32_app1, u32_set, Nat.mul_one, tkSt, u32V, hat, hyt, d1, d2, d3, d4, d5, d6, w3, w4, w5, w6, w7, w8, w9, hms, ↓hold_pre, awayP, runOps, regK, step1, newK, genR, appR, obl, buildR, Value.cells, closeK, keepH, outV, retK, ret1, retC, RetV, Option.getD, runD, stepD, afterK, undef, simprocAttr, sxB, ↓sxD, sxE, sxTab]))
    rw [← f5]
    exact ⟨m1 - (i + 1), tkSt M 13 11 o1 m1 o2 m2 (i + 1) _ (P ++ (D ++ S)) L2, by omega, le_sub ⟨rfl, rfl, rfl, rfl, trivial⟩ ⟨rfl, rfl, trivial⟩ rfl rfl rfl (by simp [keepLt, tkSt, lkH]), i + 1, _, D, rfl, by omega, f1, f2, f3, s2, f4, rfl⟩
  · have d5 : decide ((i : Int) < (m2 : Int)) = false := by simp; omega
    have hgy : (ofN y).getD i 0 = 0 := by simp [List.getD, List.getElem?_eq_none (show (ofN y).length ≤ i by omega)]
    rw [hgy] at fin
    have w7 := wrap32 (subW a c)
    have w8 := shr63 (subW a c)
    have hms := mid_set P C S o1 i (subW a c % 4294967296) hPl hiC
    obtain ⟨s1, s2⟩ := subW_3 hx0 (show 0 < 4294967296 by decide) hc
    have s0 : subW (subW a c) 0 = subW a c := by unfold subW; omega
    rw [s0] at s1 s2
    obtain ⟨D, f1, f2, f3, f4, f5⟩ := fin _ _ (Nat.mod_lt _ (by decide)) s2 s1
    (replace hb0 := true_and True); refine Go1.mk ?_; repeat' ((first | (with_reducible refine Go1.go ?_) | ((with_reducible first | refine brv_mk ?_ ?_ | refine gsplitD ?_ ?_ | refine gsplitG ?_ ?_) <;> intro h <;> (try simp only [Bool.not_eq_true', Bool.not_eq_false'] at h) <;> replace hb0 := h) | (refine And.intro ?ob ?_; case ob => ((try simp only [sxO, ne_eq, maxLen] at *); omega)) | fail) <;> (try simp (config := { maxSteps := 1000000 }) only [hb0, cE_ment, hasK_nil, cE_kill, cE_len, u32_one, u32_app1, u32_set, Nat.mul_one, tkSt, u32V, hat, d1, d2, d3, d4, d5, w3, w4, w7, w8, w9, hms, ↓hold_pre, awayP, runOps, regK, step1, newK, genR, appR, obl, buildR, Value.cells, closeK, keepH, outV, retK, ret1, retC, RetV, Option.getD, runD, stepD, afterK, undef, simprocAttr, sxB, ↓sxD, sxE, sxTab]))
    rw [← f5]
    exact ⟨m1 - (i + 1), tkSt M 13 11 o1 m1 o2 m2 (i + 1) _ (P ++ (D ++ S)) L2, by omega, le_sub ⟨rfl, rfl, rfl, rfl, trivial⟩ ⟨rfl, rfl, trivial⟩ rfl rfl rfl (by simp [keepLt, tkSt, lkH]), i + 1, _, D, rfl, by omega, f1, f2, f3, s2, f4, rfl⟩
end
end Go.Proofs.YtamghpnjdohnjaaDoor.Sx
namespace Go.Proofs.YtamghpnjdohnjaaDoor.Sx
open Go Go.RowKit
set_option linter.unusedVariables false
set_option linter.unusedSimpArgs false
set_option maxRecDepth 100000
set_option maxHeartbeats 8000000
attribute [local congr] fin_congr finG_congr stepG_congr step1_congr runOps_congr brv_congr obl_congr condK_congr LoopK_congr seqK_congr CutK_congr vc_congr DrawK_congr regK_congr CallK_congr AskK_congr newK_congr retC_congr ret1_congr retK_congr outV_congr closeK_congr genR_congr appR_congr finD_congr finGD_congr stepGD_congr stepD_congr CallK0_congr runD_congr okR_congr CallS_congr vcX_congr
attribute [local congr] Stop_congr
theorem odd_two {q : Nat} (h : q % 2 = 1) (n : Nat) : Nat.Coprime (2 ^ n) q := by
  have h1 : Nat.Coprime 2 q := by
    show Nat.gcd 2 q = 1
    rw [Nat.gcd_rec, h]; rfl
  exact Nat.Coprime.pow_left n h1
theorem gcd_two {x y e1 e2 q1 q2 : Nat} (hx : x = 2 ^ e1 * q1) (hy : y = 2 ^ e2 * q2) (h1 : q1 % 2 = 1) (h2 : q2 % 2 = 1) : Nat.gcd x y = Nat.gcd q1 q2 * 2 ^ (min e1 e2) := by
  subst hx hy
  rcases Nat.le_total e1 e2 with h | h
  · obtain ⟨d, rfl⟩ : ∃ d, e2 = e1 + d := ⟨e2 - e1, by omega⟩
    rw [Nat.min_eq_left h, Nat.pow_add, Nat.mul_assoc, Nat.gcd_mul_left, Nat.mul_comm (Nat.gcd q1 q2), Nat.Coprime.gcd_mul_left_cancel_right _ (odd_two h1 d)]
  · obtain ⟨d, rfl⟩ : ∃ d, e1 = e2 + d := ⟨e1 - e2, by omega⟩
    rw [Nat.min_eq_right h, Nat.pow_add, Nat.mul_assoc, Nat.gcd_mul_left, Nat.mul_comm (Nat.gcd q1 q2), Nat.Coprime.gcd_mul_left_cancel _ (odd_two h2 d)]
theorem gcd_step {a b e q : Nat} (hb : b % 2 = 1) (h : b ≤ a) (he : a - b = 2 ^ e * q) : Nat.gcd q b = Nat.gcd a b := by
  rw [← Nat.gcd_sub_self_left h, he, Nat.Coprime.gcd_mul_left_cancel _ (odd_two hb e)]
theorem valN_rep0 (k : Nat) : valN (List.replicate k 0) = 0 := by
  induction k with
  | zero => rfl
  | succ k ih => simp [List.replicate_succ, valN, ih]
theorem two_plain (k : Nat) {s : Nat} (hs : s < 32) : (List.replicate (k + 1) 0).set k (2 ^ s) = ofN (2 ^ (32 * k + s)) := by
  have h1 : (List.replicate (k + 1) 0).set k (2 ^ s) = List.replicate k 0 ++ [2 ^ s] := by
    rw [List.replicate_succ', List.set_append_right _ _ (by simp)]; simp
  have h2 : 2 ^ s < 4294967296 := Nat.pow_lt_pow_right (a := 2) (m := s) (n := 32) (by decide) hs
  have h3 : okN (List.replicate k 0 ++ [2 ^ s]) := okN_app.2 ⟨okN_rep k, fun z hz => by simp at hz; omega⟩
  have h4 : List.replicate k 0 ++ [2 ^ s] = ofN (valN (List.replicate k 0 ++ [2 ^ s])) := canon h3 fun hl h0 => by
    simp at h0
  have h5 : valN (List.replicate k 0 ++ [2 ^ s]) = 2 ^ (32 * k + s) := by
    rw [valN_snoc, valN_rep0, List.length_replicate, Nat.zero_add, wN_two, ← Nat.pow_add]
  rw [h1, h4, h5]
theorem swap2 {k1 k2 : Nat} (hne : k1 ≠ k2) (a b : TypeId × List AV) (j : Nat) : lkH [(k1, a), (k2, b)] j = lkH [(k2, b), (k1, a)] j := by
  simp only [lkH]
  by_cases h1 : k1 = j
  · have h2 : ¬ k2 = j := fun e => hne (h1.trans e.symm)
    simp [h1, h2]
  · by_cases h2 : k2 = j <;> simp [h1, h2]
section
variable {M : Mem} {K : AV → Hp → Mem → Prop}
theorem times_bor2 (k1 k2 o1 m1 o2 m2 : Nat) (hne : k1 ≠ k2) (T : TypeId) (L1 L2 : List Nat) (x y : Nat) (h : OwnN L1 o1 m1 x) (g : OwnN L2 o2 m2 y) (hb1 : L1.length < 100000000) (hb2 : L2.length < 100000000) (hK : ∀ w M', Mem.le M M' → IsL M' u32V w (ofN (x * y)) → FreshS M w → K (.ext w) [(k1, T, cE u32V L1), (k2, T, cE u32V L2)] M') :
    CallS Tryd.prog 69 [.slo k1 o1 m1 1, .slo k2 o2 m2 1] [(k1, T, cE u32V L1), (k2, T, cE u32V L2)] M [] K := by
  refine CallS.bor ⟨⟨_, rfl⟩, ⟨_, rfl⟩, trivial⟩ fun us M' hM hb' => ?_
  obtain ⟨v1, _, rfl, h1, v2, _, rfl, h2, rfl⟩ := hb'
  have g1 := h1.part (g := u32V) (L := L1) (T := T) (by simp [lkH]) h.le
  have g2 := h2.part (g := u32V) (L := L2) (T := T) (by simp [lkH, hne, hne.symm]) g.le
  rw [h.eq] at g1
  rw [g.eq] at g2
  refine times_ok v1 v2 x y g1 g2 (by have := h.len; have := h.le; omega) (by have := g.len; have := g.le; omega) fun w M2 h2 h3 h4 => ?_
  exact ⟨fun j hj => rfl, fun M3 h5 h6 _ => hK w M3 h5 (h3.move h4 h6) (h4.le hM)⟩
def cmSt (M : Mem) (ka kb oa ma ob mb e1 e2 : Nat) (LA LB : List Nat) : St := { env := [(5, .slo ka oa ma 1), (6, .slo kb ob mb 1), (7, .ext (.int .i64 (e1 : Int))), (8, .ext (.int .i64 (e2 : Int)))], hp := [(ka, 70, cE u32V LA), (kb, 70, cE u32V LB)], M := M, kb := 0, fx := [] }
theorem common_ok (u v : Value) (x y : Nat) (hu : IsL M u32V u (ofN x)) (hv : IsL M u32V v (ofN y)) (hx : (ofN x).length < 10000000) (hy : (ofN y).length < 10000000) (hK : NatK M K (Nat.gcd x y)) : CallS Tryd.prog 58 [.ext u, .ext v] [] M [] K := by
  refine CallS.frzF ?_
  refine inlS (cs := []) Tryd.mixed Tryd.func58 rfl (by kernel_rfl) 0 rfl rfl ?_
  simp only [Tryd.f58]
  have hrow := hu.row
  have hrow2 := hv.row
  have hmp : List.map AV.ext (List.map u32V (ofN x)) = cE u32V (ofN x) := rfl
  have hmp2 : List.map AV.ext (List.map u32V (ofN y)) = cE u32V (ofN y) := rfl
  by_cases hx0 : x = 0
  · subst hx0
    have d1 : decide (((ofN 0).length : Int) = 0) = true := by rw [ofN_zero]; rfl
    rw [Nat.gcd_zero_left] at hK
    (replace hb0 := true_and True); refine Go1.mk ?_; repeat' ((first | (with_reducible refine Go1.go ?_) | ((with_reducible first | refine brv_mk ?_ ?_ | refine gsplitD ?_ ?_ | refine gsplitG ?_ ?_) <;> intro h <;> (try simp only [Bool.not_eq_true', Bool.not_eq_false'] at h) <;> replace hb0 := h) | (refine And.intro ?ob ?_; case ob => ((try simp only [sxO, ne_eq, maxLen] at *); omega)) | fail) <;> (try simp (config := { maxSteps := 1000000 }) only [hb0, cE_ment, hasK_nil, cE_kill, cE_len, u32_one, u32_app1, u32_set, Nat.mul_one, hu.one, hv.one, hu.len, hu.sl, hv.len, hv.sl, hrow, hrow2, hmp, hmp2, d1, ↓hold_pre, awayP, runOps, regK, step1, newK, genR, appR, obl, buildR, Value.cells, closeK, keepH, outV, retK, ret1, retC, RetV, Option.getD, runD, stepD, afterK, undef, simprocAttr, sxB, ↓sxD, sxE, sxTab]))
    exact hK.frz rfl
  have hlx : 0 < (ofN x).length := by
    rcases Nat.eq_zero_or_pos (ofN x).length with h | h
    · have := ofN_nil.1 (List.length_eq_zero_iff.1 h); omega
    · exact h
  have d1 : decide (((ofN x).length : Int) = 0) = false := by rw [decide_eq_false_iff_not]; omega
  by_cases hy0 : y = 0
  · subst hy0
    have d2 : decide (((ofN 0).length : Int) = 0) = true := by rw [ofN_zero]; rfl
    rw [Nat.gcd_zero_right] at hK
    (replace hb0 := true_and True); refine Go1.mk ?_; repeat' ((first | (with_reducible refine Go1.go ?_) | ((with_reducible first | refine brv_mk ?_ ?_ | refine gsplitD ?_ ?_ | refine gsplitG ?_ ?_) <;> intro h <;> (try simp only [Bool.not_eq_true', Bool.not_eq_false'] at h) <;> replace hb0 := h) | (refine And.intro ?ob ?_; case ob => ((try simp only [sxO, ne_eq, maxLen] at *); omega)) | fail) <;> (try simp (config := { maxSteps := 1000000 }) only [hb0, cE_ment, hasK_nil, cE_kill, cE_len, u32_one, u32_app1, u32_set, Nat.mul_one, hu.one, hv.one, hu.len, hu.sl, hv.len, hv.sl, hrow, hrow2, hmp, hmp2, d1, d2, ↓hold_pre, awayP, runOps, regK, step1, newK, genR, appR, obl, buildR, Value.cells, closeK, keepH, outV, retK, ret1, retC, RetV, Option.getD, runD, stepD, afterK, undef, simprocAttr, sxB, ↓sxD, sxE, sxTab]))
    exact hK.frz rfl
  have hly : 0 < (ofN y).length := by
    rcases Nat.eq_zero_or_pos (ofN y).length with h | h
    · have := ofN_nil.1 (List.length_eq_zero_iff.1 h); omega
    · exact h
  have d2 : decide (((ofN y).length : Int) = 0) = false := by rw [decide_eq_false_iff_not]; omega
  have hA0 : OwnN (ofN x) 0 (ofN x).length x := ⟨by omega, okN_ofN x, by rw [List.drop_zero, List.take_length]⟩
  have hB0 : OwnN (ofN y) 0 (ofN y).length y := ⟨by omega, okN_ofN y, by rw [List.drop_zero, List.take_length]⟩
  (replace hb0 := true_and True); refine Go1.mk ?_; repeat' ((first | (with_reducible refine Go1.go ?_) | ((with_reducible first | refine brv_mk ?_ ?_ | refine gsplitD ?_ ?_ | refine gsplitG ?_ ?_) <;> intro h <;> (try simp only [Bool.not_eq_true', Bool.not_eq_false'] at h) <;> replace hb0 := h) | ((with_reducible refine isCall (f := 91) ?_); refine callA ?_) | ((with_reducible refine isCall0 (f := 91) ?_); refine callA0 ?_) | ((with_reducible refine isCallS (f := 91) ?_); refine (zeros_bor 11 0 _ _ (ofN x) x hA0 (by omega) (by omega) (fun e1 q1 r1 r2 r3 => Stop.mk ?_))) | (refine And.intro ?ob ?_; case ob => ((try simp only [sxO, ne_eq, maxLen] at *); omega)) | fail) <;> (try simp (config := { maxSteps := 1000000 }) only [hb0, cE_ment, hasK_nil, cE_kill, cE_len, u32_one, u32_app1, u32_set, Nat.mul_one, hu.one, hv.one, hu.len, hu.sl, hv.len, hv.sl, hrow, hrow2, hmp, hmp2, d1, d2, ↓hold_pre, awayP, runOps, regK, step1, newK, genR, appR, obl, buildR, Value.cells, closeK, keepH, outV, retK, ret1, retC, RetV, Option.getD, runD, stepD, afterK, undef, simprocAttr, sxB, ↓sxD, sxE, sxTab]))
  refine Stop.go ?_
  (replace hb0 := true_and True); refine Go1.mk ?_; repeat' ((first | (with_reducible refine Go1.go ?_) | ((with_reducible first | refine brv_mk ?_ ?_ | refine gsplitD ?_ ?_ | refine gsplitG ?_ ?_) <;> intro h <;> (try simp only [Bool.not_eq_true', Bool.not_eq_false'] at h) <;> replace hb0 := h) | ((with_reducible refine isCall (f := 91) ?_); refine callA ?_) | ((with_reducible refine isCall0 (f := 91) ?_); refine callA0 ?_) | ((with_reducible refine isCallS (f := 91) ?_); refine (zeros_bor 13 0 _ _ (ofN y) y hB0 (by omega) (by omega) (fun e2 q2 s1 s2 s3 => Stop.mk ?_))) | (refine And.intro ?ob ?_; case ob => ((try simp only [sxO, ne_eq, maxLen] at *); omega)) | fail) <;> (try simp (config := { maxSteps := 1000000 }) only [hb0, cE_ment, hasK_nil, cE_kill, cE_len, u32_one, u32_app1, u32_set, Nat.mul_one, hu.one, hv.one, hu.len, hu.sl, hv.len, hv.sl, hrow, hrow2, hmp, hmp2, d1, d2, ↓hold_pre, awayP, runOps, regK, step1, newK, genR, appR, obl, buildR, Value.cells, closeK, keepH, outV, retK, ret1, retC, RetV, Option.getD, runD, stepD, afterK, undef, simprocAttr, sxB, ↓sxD, sxE, sxTab]))
  refine Stop.go ?_
  have hd1 : x / 2 ^ e1 = q1 := by rw [r2, Nat.mul_div_cancel_left _ (Nat.two_pow_pos e1)]
  have hd2 : y / 2 ^ e2 = q2 := by rw [s2, Nat.mul_div_cancel_left _ (Nat.two_pow_pos e2)]
  rw [gcd_two r2 s2 r3 s3] at hK
  obtain ⟨e0, he0⟩ : ∃ e, min e1 e2 = e := ⟨_, rfl⟩
  rw [he0] at hK
  (replace hb0 := true_and True); refine Go1.mk ?_; repeat' ((first | (with_reducible refine Go1.go ?_) | ((with_reducible first | refine brv_mk ?_ ?_ | refine gsplitD ?_ ?_ | refine gsplitG ?_ ?_) <;> intro h <;> (try simp only [Bool.not_eq_true', Bool.not_eq_false'] at h) <;> replace hb0 := h) | ((with_reducible refine isCall (f := 92) ?_); refine callA ?_) | ((with_reducible refine isCall0 (f := 92) ?_); refine callA0 ?_) | ((with_reducible refine isCallS (f := 92) ?_); refine (down_ok 11 0 _ e1 (ofN x) hA0.le (by omega) (by omega) (okN_ofN x) (fun L1 o1 m1 r4 r5 => Stop.mk ?_))) | (refine And.intro ?ob ?_; case ob => ((try simp only [sxO, ne_eq, maxLen] at *); omega)) | fail) <;> (try simp (config := { maxSteps := 1000000 }) only [hb0, cE_ment, hasK_nil, cE_kill, cE_len, u32_one, u32_app1, u32_set, Nat.mul_one, ↓hold_pre, awayP, runOps, regK, step1, newK, genR, appR, obl, buildR, Value.cells, closeK, keepH, outV, retK, ret1, retC, RetV, Option.getD, runD, stepD, afterK, undef, simprocAttr, sxB, ↓sxD, sxE, sxTab]))
  rw [hA0.val, hd1] at r5
  refine Stop.go ?_
  (replace hb0 := true_and True); refine Go1.mk ?_; repeat' ((first | (with_reducible refine Go1.go ?_) | ((with_reducible first | refine brv_mk ?_ ?_ | refine gsplitD ?_ ?_ | refine gsplitG ?_ ?_) <;> intro h <;> (try simp only [Bool.not_eq_true', Bool.not_eq_false'] at h) <;> replace hb0 := h) | ((with_reducible refine isCall (f := 92) ?_); refine callA ?_) | ((with_reducible refine isCall0 (f := 92) ?_); refine callA0 ?_) | ((with_reducible refine isCallS (f := 92) ?_); refine (down_ok 13 0 _ e2 (ofN y) hB0.le (by omega) (by omega) (okN_ofN y) (fun L2 o2 m2 s4 s5 => Stop.mk ?_))) | (refine And.intro ?ob ?_; case ob => ((try simp only [sxO, ne_eq, maxLen] at *); omega)) | fail) <;> (try simp (config := { maxSteps := 1000000 }) only [hb0, cE_ment, hasK_nil, cE_kill, cE_len, u32_one, u32_app1, u32_set, Nat.mul_one, ↓hold_pre, awayP, runOps, regK, step1, newK, genR, appR, obl, buildR, Value.cells, closeK, keepH, outV, retK, ret1, retC, RetV, Option.getD, runD, stepD, afterK, undef, simprocAttr, sxB, ↓sxD, sxE, sxTab]))
  rw [hB0.val, hd2] at s5
  refine Stop.go ?_
  (replace hb0 := true_and True); refine Go1.mk ?_; repeat' ((first | (with_reducible refine Go1.go ?_) | ((with_reducible first | refine brv_mk ?_ ?_ | refine gsplitD ?_ ?_ | refine gsplitG ?_ ?_) <;> intro h <;> (try simp only [Bool.not_eq_true', Bool.not_eq_false'] at h) <;> replace hb0 := h) | (refine And.intro ?ob ?_; case ob => ((try simp only [sxO, ne_eq, maxLen] at *); omega)) | fail) <;> (try simp (config := { maxSteps := 1000000 }) only [hb0, cE_ment, hasK_nil, cE_kill, cE_len, u32_one, u32_app1, u32_set, Nat.mul_one, ↓hold_pre, awayP, runOps, regK, step1, newK, genR, appR, obl, buildR, Value.cells, closeK, keepH, outV, retK, ret1, retC, RetV, Option.getD, runD, stepD, afterK, undef, simprocAttr, sxB, ↓sxD, sxE, sxTab]))
  have hes : e0 < 320000000 := by omega
  have hmn : (if (e2 : Int) < (e1 : Int) then (e2 : Int) else (e1 : Int)) = (e0 : Int) := by split <;> omega
  refine ⟨fun d z => ∃ a b oa ma ob mb LA LB, d = a + b ∧ 0 < a ∧ 0 < b ∧ a % 2 = 1 ∧ b % 2 = 1 ∧ Nat.gcd a b = Nat.gcd q1 q2 ∧ OwnN LA oa ma a ∧ OwnN LB ob mb b ∧ LA.length < 100000000 ∧ LB.length < 100000000 ∧ (z = cmSt M 11 13 oa ma ob mb e1 e2 LA LB ∨ z = cmSt M 13 11 oa ma ob mb e1 e2 LA LB),
    ⟨q1 + q2, cmSt M 11 13 o1 m1 o2 m2 e1 e2 L1 L2, le_sub ⟨rfl, rfl, rfl, rfl, trivial⟩ (by simp [subHp, cmSt, lkH]) rfl rfl rfl (keepLt0 _), ⟨q1, q2, _, _, _, _, L1, L2, rfl, by omega, by omega, r3, s3, rfl, r5, s5, by omega, by omega, .inl rfl⟩⟩, ?_⟩
  clear hu hv hrow hrow2 hmp hmp2 hA0 hB0 r5 s5
  have htwo := two_plain (e0 / 32) (s := e0 % 32) (Nat.mod_lt _ (by decide))
  rw [Nat.div_add_mod] at htwo
  have hz0 : AV.ext (Value.int .u32 0) :: List.map AV.ext (repN [Value.int .u32 0] (e0 / 32)) = cE u32V (List.replicate (e0 / 32 + 1) 0) := cE_rep u32V (e0 / 32 + 1) 0
  have htl : (ofN (2 ^ e0)).length = e0 / 32 + 1 := by rw [← htwo, List.length_set, List.length_replicate]
  have htw : OwnN (ofN (2 ^ e0)) 0 (e0 / 32 + 1) (2 ^ e0) := ⟨by omega, okN_ofN _, by rw [List.drop_zero, ← htl, List.take_length]⟩
  have f0 := hmn
  have f1 : IntKind.i64.wrap ((e0 : Int).tdiv 32) = ((e0 / 32 : Nat) : Int) := by
    rw [show (32 : Int) = ((32 : Nat) : Int) from rfl, ← Int.ofNat_tdiv, wrap_id (by omega) (by omega)]
  have f2 : IntKind.i64.wrap (((e0 / 32 : Nat) : Int) + 1) = ((e0 / 32 + 1 : Nat) : Int) := succ_i (by omega)
  have f3 : (e0 : Int).tmod 32 = ((e0 % 32 : Nat) : Int) := by rw [show (32 : Int) = ((32 : Nat) : Int) from rfl, ← Int.ofNat_tmod]
  have f4 : IntKind.u32.wrap ((1 : Int) * 2 ^ (min (e0 % 32) IntKind.u32.bits)) = ((2 ^ (e0 % 32) : Nat) : Int) := by
    have h := shl32s (t := 1) (s := e0 % 32) (by rw [Nat.one_mul]; exact Nat.pow_lt_pow_right (a := 2) (n := 32) (by decide) (Nat.mod_lt _ (by decide))) (Nat.mod_lt _ (by decide))
    rw [Nat.one_mul] at h
    exact h
  have f5 : (0 : Int) ≤ ((e0 / 32 : Nat) : Int) := by omega
  have f6 : ((e0 / 32 : Nat) : Int) < ((e0 / 32 + 1 : Nat) : Int) := by omega
  have f7 : (0 : Int) ≤ ((e0 % 32 : Nat) : Int) := by omega
  rintro d z ⟨a, b, oa, ma, ob, mb, LA, LB, rfl, ha0, hbp, ha, hb, hg, hA, hB, hLA, hLB, rfl | rfl⟩
  all_goals
    have hres : a = b → a * 2 ^ e0 = Nat.gcd q1 q2 * 2 ^ e0 := fun h => by rw [← hg, ← h, Nat.gcd_self]
  · rcases Nat.lt_trichotomy a b with hab | hab | hab
    · have c1 := cmpN_lt hab
      (replace hb0 := true_and True); refine Go1.mk ?_; repeat' ((first | (with_reducible refine Go1.go ?_) | ((with_reducible first | refine brv_mk ?_ ?_ | refine gsplitD ?_ ?_ | refine gsplitG ?_ ?_) <;> intro h <;> (try simp only [Bool.not_eq_true', Bool.not_eq_false'] at h) <;> replace hb0 := h) | ((with_reducible refine isCall (f := 57) ?_); refine callA ?_) | ((with_reducible refine isCall0 (f := 57) ?_); refine callA0 ?_) | ((with_reducible refine isCallS (f := 57) ?_); refine (order_bor _ _ _ _ _ _ (by decide) _ _ _ a b hA hB (by omega) (by omega) ?_)) | ((with_reducible refine isCall (f := 57) ?_); refine callA ?_) | ((with_reducible refine isCall0 (f := 57) ?_); refine callA0 ?_) | ((with_reducible refine isCallS (f := 57) ?_); refine (CallS.order (swap2 (by decide) _ _) (order_bor _ _ _ _ _ _ (by decide) _ _ _ a b hA hB (by omega) (by omega) ⟨_, swap2 (by decide) _ _, ?_⟩))) | ((with_reducible refine isCall (f := 93) ?_); refine callA ?_) | ((with_reducible refine isCall0 (f := 93) ?_); refine callA0 ?_) | ((with_reducible refine isCallS (f := 93) ?_); refine (takeB_ok _ _ _ _ _ _ _ _ hB hA (by omega) (by omega) (by omega) (fun L3 m3 t1 t2 => Stop.mk ?_))) | ((with_reducible refine isCall (f := 93) ?_); refine callA ?_) | ((with_reducible refine isCall0 (f := 93) ?_); refine callA0 ?_) | ((with_reducible refine isCallS (f := 93) ?_); refine (CallS.order (swap2 (by decide) _ _) (takeB_ok _ _ _ _ _ _ _ _ hB hA (by omega) (by omega) (by omega) (fun L3 m3 t1 t2 => ⟨_, swap2 (by decide) _ _, Stop.mk ?_⟩)))) | (refine And.intro ?ob ?_; case ob => ((try simp only [sxO, ne_eq, maxLen] at *); omega)) | fail) <;> (try simp (config := { maxSteps := 1000000 }) only [hb0, cE_ment, hasK_nil, cE_kill, cE_len, u32_one, u32_app1, u32_set, Nat.mul_one, cmSt, c1, ↓hold_pre, awayP, runOps, regK, step1, newK, genR, appR, obl, buildR, Value.cells, closeK, keepH, outV, retK, ret1, retC, RetV, Option.getD, runD, stepD, afterK, undef, simprocAttr, sxB, ↓sxD, sxE, sxTab]))
      refine Stop.go ?_
      (replace hb0 := true_and True); refine Go1.mk ?_; repeat' ((first | (with_reducible refine Go1.go ?_) | ((with_reducible first | refine brv_mk ?_ ?_ | refine gsplitD ?_ ?_ | refine gsplitG ?_ ?_) <;> intro h <;> (try simp only [Bool.not_eq_true', Bool.not_eq_false'] at h) <;> replace hb0 := h) | ((with_reducible refine isCall (f := 91) ?_); refine callA ?_) | ((with_reducible refine isCall0 (f := 91) ?_); refine callA0 ?_) | ((with_reducible refine isCallS (f := 91) ?_); refine (zeros_bor 13 _ _ _ L3 (b - a) t2 (by omega) (by omega) (fun e q r1 r2 r3 => Stop.mk ?_))) | (refine And.intro ?ob ?_; case ob => ((try simp only [sxO, ne_eq, maxLen] at *); omega)) | fail) <;> (try simp (config := { maxSteps := 1000000 }) only [hb0, cE_ment, hasK_nil, cE_kill, cE_len, u32_one, u32_app1, u32_set, Nat.mul_one, ↓hold_pre, awayP, runOps, regK, step1, newK, genR, appR, obl, buildR, Value.cells, closeK, keepH, outV, retK, ret1, retC, RetV, Option.getD, runD, stepD, afterK, undef, simprocAttr, sxB, ↓sxD, sxE, sxTab]))
      have t3 := t2.len
      have t4 := t2.le
      have hgs := gcd_step (a := b) (b := a) (e := e) (q := q) (by omega) (by omega) r2
      have hdv : (b - a) / 2 ^ e = q := by rw [r2, Nat.mul_div_cancel_left _ (Nat.two_pow_pos e)]
      have hqle : q ≤ b - a := by rw [← hdv]; exact Nat.div_le_self _ _
      refine Stop.go ?_
      (replace hb0 := true_and True); refine Go1.mk ?_; repeat' ((first | (with_reducible refine Go1.go ?_) | ((with_reducible first | refine brv_mk ?_ ?_ | refine gsplitD ?_ ?_ | refine gsplitG ?_ ?_) <;> intro h <;> (try simp only [Bool.not_eq_true', Bool.not_eq_false'] at h) <;> replace hb0 := h) | ((with_reducible refine isCall (f := 92) ?_); refine callA ?_) | ((with_reducible refine isCall0 (f := 92) ?_); refine callA0 ?_) | ((with_reducible refine isCallS (f := 92) ?_); refine (down_ok 13 _ _ e L3 t2.le (by omega) (by omega) t2.ok (fun L4 o4 m4 r4 r5 => Stop.mk ?_))) | (refine And.intro ?ob ?_; case ob => ((try simp only [sxO, ne_eq, maxLen] at *); omega)) | fail) <;> (try simp (config := { maxSteps := 1000000 }) only [hb0, cE_ment, hasK_nil, cE_kill, cE_len, u32_one, u32_app1, u32_set, Nat.mul_one, ↓hold_pre, awayP, runOps, regK, step1, newK, genR, appR, obl, buildR, Value.cells, closeK, keepH, outV, retK, ret1, retC, RetV, Option.getD, runD, stepD, afterK, undef, simprocAttr, sxB, ↓sxD, sxE, sxTab]))
      rw [t2.val, hdv] at r5
      refine Stop.go ?_
      (replace hb0 := true_and True); refine Go1.mk ?_; repeat' ((first | (with_reducible refine Go1.go ?_) | ((with_reducible first | refine brv_mk ?_ ?_ | refine gsplitD ?_ ?_ | refine gsplitG ?_ ?_) <;> intro h <;> (try simp only [Bool.not_eq_true', Bool.not_eq_false'] at h) <;> replace hb0 := h) | (refine And.intro ?ob ?_; case ob => ((try simp only [sxO, ne_eq, maxLen] at *); omega)) | fail) <;> (try simp (config := { maxSteps := 1000000 }) only [hb0, cE_ment, hasK_nil, cE_kill, cE_len, u32_one, u32_app1, u32_set, Nat.mul_one, ↓hold_pre, awayP, runOps, regK, step1, newK, genR, appR, obl, buildR, Value.cells, closeK, keepH, outV, retK, ret1, retC, RetV, Option.getD, runD, stepD, afterK, undef, simprocAttr, sxB, ↓sxD, sxE, sxTab]))
      exact ⟨q + a, cmSt M 13 11 o4 m4 oa ma e1 e2 L4 LA, by omega, le_sub ⟨rfl, rfl, rfl, rfl, trivial⟩ (by simp [subHp, cmSt, lkH]) rfl rfl rfl (keepLt0 _), q, a, _, _, _, _, L4, LA, rfl, by omega, by omega, r3, by omega, (by rw [hgs]; rw [Nat.gcd_comm]; exact hg), r5, hA, by omega, by omega, .inr rfl⟩
    · have c1 : cmpN a b = 0 := by unfold cmpN; rw [if_neg (by omega), if_pos hab]
      (replace hb0 := true_and True); refine Go1.mk ?_; repeat' ((first | (with_reducible refine Go1.go ?_) | ((with_reducible first | refine brv_mk ?_ ?_ | refine gsplitD ?_ ?_ | refine gsplitG ?_ ?_) <;> intro h <;> (try simp only [Bool.not_eq_true', Bool.not_eq_false'] at h) <;> replace hb0 := h) | ((with_reducible refine isCall (f := 57) ?_); refine callA ?_) | ((with_reducible refine isCall0 (f := 57) ?_); refine callA0 ?_) | ((with_reducible refine isCallS (f := 57) ?_); refine (order_bor _ _ _ _ _ _ (by decide) _ _ _ a b hA hB (by omega) (by omega) ?_)) | ((with_reducible refine isCall (f := 57) ?_); refine callA ?_) | ((with_reducible refine isCall0 (f := 57) ?_); refine callA0 ?_) | ((with_reducible refine isCallS (f := 57) ?_); refine (CallS.order (swap2 (by decide) _ _) (order_bor _ _ _ _ _ _ (by decide) _ _ _ a b hA hB (by omega) (by omega) ⟨_, swap2 (by decide) _ _, ?_⟩))) | ((with_reducible refine isCall (f := 69) ?_); refine callA ?_) | ((with_reducible refine isCall0 (f := 69) ?_); refine callA0 ?_) | ((with_reducible refine isCallS (f := 69) ?_); refine (times_bor2 11 54 _ _ _ _ (by decide) _ _ _ a (2 ^ e0) hA htw (by omega) (by omega) (fun w M' n1 n2 n3 => Stop.mk ?_))) | ((with_reducible refine isCall (f := 69) ?_); refine callA ?_) | ((with_reducible refine isCall0 (f := 69) ?_); refine callA0 ?_) | ((with_reducible refine isCallS (f := 69) ?_); refine (CallS.order (swap2 (by decide) _ _) (times_bor2 11 54 _ _ _ _ (by decide) _ _ _ a (2 ^ e0) hA htw (by omega) (by omega) (fun w M' n1 n2 n3 => ⟨_, swap2 (by decide) _ _, Stop.mk ?_⟩)))) | (refine And.intro ?ob ?_; case ob => ((try simp only [sxO, ne_eq, maxLen] at *); omega)) | fail) <;> (try simp (config := { maxSteps := 1000000 }) only [hb0, cE_ment, hasK_nil, cE_kill, cE_len, u32_one, u32_app1, u32_set, Nat.mul_one, cmSt, c1, u32V, List.length_replicate, f0, f1, f2, f3, f4, f5, f6, f7, hz0, htwo, ↓hold_pre, awayP, runOps, regK, step1, newK, genR, appR, obl, buildR, Value.cells, closeK, keepH, outV, retK, ret1, retC, RetV, Option.getD, runD, stepD, afterK, undef, simprocAttr, sxB, ↓sxD, sxE, sxTab]))
      refine Stop.go ?_
      (replace hb0 := true_and True); refine Go1.mk ?_; repeat' ((first | (with_reducible refine Go1.go ?_) | ((with_reducible first | refine brv_mk ?_ ?_ | refine gsplitD ?_ ?_ | refine gsplitG ?_ ?_) <;> intro h <;> (try simp only [Bool.not_eq_true', Bool.not_eq_false'] at h) <;> replace hb0 := h) | (refine And.intro ?ob ?_; case ob => ((try simp only [sxO, ne_eq, maxLen] at *); omega)) | fail) <;> (try simp (config := { maxSteps := 1000000 }) only [hb0, n2.one, ↓hold_pre, awayP, runOps, regK, step1, newK, genR, appR, obl, buildR, Value.cells, closeK, keepH, outV, retK, ret1, retC, RetV, Option.getD, runD, stepD, afterK, undef, simprocAttr, sxB, ↓sxD, sxE, sxTab]))
      rw [hres hab] at n2
      exact .inl (hK _ _ n1 n2 n3)
    · have c1 := cmpN_gt hab
      (replace hb0 := true_and True); refine Go1.mk ?_; repeat' ((first | (with_reducible refine Go1.go ?_) | ((with_reducible first | refine brv_mk ?_ ?_ | refine gsplitD ?_ ?_ | refine gsplitG ?_ ?_) <;> intro h <;> (try simp only [Bool.not_eq_true', Bool.not_eq_false'] at h) <;> replace hb0 := h) | ((with_reducible refine isCall (f := 57) ?_); refine callA ?_) | ((with_reducible refine isCall0 (f := 57) ?_); refine callA0 ?_) | ((with_reducible refine isCallS (f := 57) ?_); refine (order_bor _ _ _ _ _ _ (by decide) _ _ _ a b hA hB (by omega) (by omega) ?_)) | ((with_reducible refine isCall (f := 57) ?_); refine callA ?_) | ((with_reducible refine isCall0 (f := 57) ?_); refine callA0 ?_) | ((with_reducible refine isCallS (f := 57) ?_); refine (CallS.order (swap2 (by decide) _ _) (order_bor _ _ _ _ _ _ (by decide) _ _ _ a b hA hB (by omega) (by omega) ⟨_, swap2 (by decide) _ _, ?_⟩))) | ((with_reducible refine isCall (f := 93) ?_); refine callA ?_) | ((with_reducible refine isCall0 (f := 93) ?_); refine callA0 ?_) | ((with_reducible refine isCallS (f := 93) ?_); refine (takeA_ok _ _ _ _ _ _ _ _ hA hB (by omega) (by omega) (by omega) (fun L3 m3 t1 t2 => Stop.mk ?_))) | ((with_reducible refine isCall (f := 93) ?_); refine callA ?_) | ((with_reducible refine isCall0 (f := 93) ?_); refine callA0 ?_) | ((with_reducible refine isCallS (f := 93) ?_); refine (CallS.order (swap2 (by decide) _ _) (takeA_ok _ _ _ _ _ _ _ _ hA hB (by omega) (by omega) (by omega) (fun L3 m3 t1 t2 => ⟨_, swap2 (by decide) _ _, Stop.mk ?_⟩)))) | (refine And.intro ?ob ?_; case ob => ((try simp only [sxO, ne_eq, maxLen] at *); omega)) | fail) <;> (try simp (config := { maxSteps := 1000000 }) only [hb0, cE_ment, hasK_nil, cE_kill, cE_len, u32_one, u32_app1, u32_set, Nat.mul_one, cmSt, c1, ↓hold_pre, awayP, runOps, regK, step1, newK, genR, appR, obl, buildR, Value.cells, closeK, keepH, outV, retK, ret1, retC, RetV, Option.getD, runD, stepD, afterK, undef, simprocAttr, sxB, ↓sxD, sxE, sxTab]))
      refine Stop.go ?_
      (replace hb0 := true_and True); refine Go1.mk ?_; repeat' ((first | (with_reducible refine Go1.go ?_) | ((with_reducible first | refine brv_mk ?_ ?_ | refine gsplitD ?_ ?_ | refine gsplitG ?_ ?_) <;> intro h <;> (try simp only [Bool.not_eq_true', Bool.not_eq_false'] at h) <;> replace hb0 := h) | ((with_reducible refine isCall (f := 91) ?_); refine callA ?_) | ((with_reducible refine isCall0 (f := 91) ?_); refine callA0 ?_) | ((with_reducible refine isCallS (f := 91) ?_); refine (zeros_bor 11 _ _ _ L3 (a - b) t2 (by omega) (by omega) (fun e q r1 r2 r3 => Stop.mk ?_))) | (refine And.intro ?ob ?_; case ob => ((try simp only [sxO, ne_eq, maxLen] at *); omega)) | fail) <;> (try simp (config := { maxSteps := 1000000 }) only [hb0, cE_ment, hasK_nil, cE_kill, cE_len, u32_one, u32_app1, u32_set, Nat.mul_one, ↓hold_pre, awayP, runOps, regK, step1, newK, genR, appR, obl, buildR, Value.cells, closeK, keepH, outV, retK, ret1, retC, RetV, Option.getD, runD, stepD, afterK, undef, simprocAttr, sxB, ↓sxD, sxE, sxTab]))
      have t3 := t2.len
      have t4 := t2.le
      have hgs := gcd_step (a := a) (b := b) (e := e) (q := q) (by omega) (by omega) r2
      have hdv : (a - b) / 2 ^ e = q := by rw [r2, Nat.mul_div_cancel_left _ (Nat.two_pow_pos e)]
      have hqle : q ≤ a - b := by rw [← hdv]; exact Nat.div_le_self _ _
      refine Stop.go ?_
      (replace hb0 := true_and True); refine Go1.mk ?_; repeat' ((first | (with_reducible refine Go1.go ?_) | ((with_reducible first | refine brv_mk ?_ ?_ | refine gsplitD ?_ ?_ | refine gsplitG ?_ ?_) <;> intro h <;> (try simp only [Bool.not_eq_true', Bool.not_eq_false'] at h) <;> replace hb0 := h) | ((with_reducible refine isCall (f := 92) ?_); refine callA ?_) | ((with_reducible refine isCall0 (f := 92) ?_); refine callA0 ?_) | ((with_reducible refine isCallS (f := 92) ?_); refine (down_ok 11 _ _ e L3 t2.le (by omega) (by omega) t2.ok (fun L4 o4 m4 r4 r5 => Stop.mk ?_))) | (refine And.intro ?ob ?_; case ob => ((try simp only [sxO, ne_eq, maxLen] at *); omega)) | fail) <;> (try simp (config := { maxSteps := 1000000 }) only [hb0, cE_ment, hasK_nil, cE_kill, cE_len, u32_one, u32_app1, u32_set, Nat.mul_one, ↓hold_pre, awayP, runOps, regK, step1, newK, genR, appR, obl, buildR, Value.cells, closeK, keepH, outV, retK, ret1, retC, RetV, Option.getD, runD, stepD, afterK, undef, simprocAttr, sxB, ↓sxD, sxE, sxTab]))
      rw [t2.val, hdv] at r5
      refine Stop.go ?_
      (replace hb0 := true_and True); refine Go1.mk ?_; repeat' ((first | (with_reducible refine Go1.go ?_) | ((with_reducible first | refine brv_mk ?_ ?_ | refine gsplitD ?_ ?_ | refine gsplitG ?_ ?_) <;> intro h <;> (try simp only [Bool.not_eq_true', Bool.not_eq_false'] at h) <;> replace hb0 := h) | (refine And.intro ?ob ?_; case ob => ((try simp only [sxO, ne_eq, maxLen] at *); omega)) | fail) <;> (try simp (config := { maxSteps := 1000000 }) only [hb0, cE_ment, hasK_nil, cE_kill, cE_len, u32_one, u32_app1, u32_set, Nat.mul_one, ↓hold_pre, awayP, runOps, regK, step1, newK, genR, appR, obl, buildR, Value.cells, closeK, keepH, outV, retK, ret1, retC, RetV, Option.getD, runD, stepD, afterK, undef, simprocAttr, sxB, ↓sxD, sxE, sxTab]))
      exact ⟨q + b, cmSt M 11 13 o4 m4 ob mb e1 e2 L4 LB, by omega, le_sub ⟨rfl, rfl, rfl, rfl, trivial⟩ (by simp [subHp, cmSt, lkH]) rfl rfl rfl (keepLt0 _), q, b, _, _, _, _, L4, LB, rfl, by omega, by omega, r3, by omega, (by rw [hgs]; exact hg), r5, hB, by omega, by omega, .inl rfl⟩
  · rcases Nat.lt_trichotomy a b with hab | hab | hab
    · have c1 := cmpN_lt hab
      (replace hb0 := true_and True); refine Go1.mk ?_; repeat' ((first | (with_reducible refine Go1.go ?_) | ((with_reducible first | refine brv_mk ?_ ?_ | refine gsplitD ?_ ?_ | refine gsplitG ?_ ?_) <;> intro h <;> (try simp only [Bool.not_eq_true', Bool.not_eq_false'] at h) <;> replace hb0 := h) | ((with_reducible refine isCall (f := 57) ?_); refine callA ?_) | ((with_reducible refine isCall0 (f := 57) ?_); refine callA0 ?_) | ((with_reducible refine isCallS (f := 57) ?_); refine (order_bor _ _ _ _ _ _ (by decide) _ _ _ a b hA hB (by omega) (by omega) ?_)) | ((with_reducible refine isCall (f := 57) ?_); refine callA ?_) | ((with_reducible refine isCall0 (f := 57) ?_); refine callA0 ?_) | ((with_reducible refine isCallS (f := 57) ?_); refine (CallS.order (swap2 (by decide) _ _) (order_bor _ _ _ _ _ _ (by decide) _ _ _ a b hA hB (by omega) (by omega) ⟨_, swap2 (by decide) _ _, ?_⟩))) | ((with_reducible refine isCall (f := 93) ?_); refine callA ?_) | ((with_reducible refine isCall0 (f := 93) ?_); refine callA0 ?_) | ((with_reducible refine isCallS (f := 93) ?_); refine (takeA_ok _ _ _ _ _ _ _ _ hB hA (by omega) (by omega) (by omega) (fun L3 m3 t1 t2 => Stop.mk ?_))) | ((with_reducible refine isCall (f := 93) ?_); refine callA ?_) | ((with_reducible refine isCall0 (f := 93) ?_); refine callA0 ?_) | ((with_reducible refine isCallS (f := 93) ?_); refine (CallS.order (swap2 (by decide) _ _) (takeA_ok _ _ _ _ _ _ _ _ hB hA (by omega) (by omega) (by omega) (fun L3 m3 t1 t2 => ⟨_, swap2 (by decide) _ _, Stop.mk ?_⟩)))) | (refine And.intro ?ob ?_; case ob => ((try simp only [sxO, ne_eq, maxLen] at *); omega)) | fail) <;> (try simp (config := { maxSteps := 1000000 }) only [hb0, cE_ment, hasK_nil, cE_kill, cE_len, u32_one, u32_app1, u32_set, Nat.mul_one, cmSt, c1, ↓hold_pre, awayP, runOps, regK, step1, newK, genR, appR, obl, buildR, Value.cells, closeK, keepH, outV, retK, ret1, retC, RetV, Option.getD, runD, stepD, afterK, undef, simprocAttr, sxB, ↓sxD, sxE, sxTab]))
      refine Stop.go ?_
      (replace hb0 := true_and True); refine Go1.mk ?_; repeat' ((first | (with_reducible refine Go1.go ?_) | ((with_reducible first | refine brv_mk ?_ ?_ | refine gsplitD ?_ ?_ | refine gsplitG ?_ ?_) <;> intro h <;> (try simp only [Bool.not_eq_true', Bool.not_eq_false'] at h) <;> replace hb0 := h) | ((with_reducible refine isCall (f := 91) ?_); refine callA ?_) | ((with_reducible refine isCall0 (f := 91) ?_); refine callA0 ?_) | ((with_reducible refine isCallS (f := 91) ?_); refine (zeros_bor 11 _ _ _ L3 (b - a) t2 (by omega) (by omega) (fun e q r1 r2 r3 => Stop.mk ?_))) | (refine And.intro ?ob ?_; case ob => ((try simp only [sxO, ne_eq, maxLen] at *); omega)) | fail) <;> (try simp (config := { maxSteps := 1000000 }) only [hb0, cE_ment, hasK_nil, cE_kill, cE_len, u32_one, u32_app1, u32_set, Nat.mul_one, ↓hold_pre, awayP, runOps, regK, step1, newK, genR, appR, obl, buildR, Value.cells, closeK, keepH, outV, retK, ret1, retC, RetV, Option.getD, runD, stepD, afterK, undef, simprocAttr, sxB, ↓sxD, sxE, sxTab]))
      have t3 := t2.len
      have t4 := t2.le
      have hgs := gcd_step (a := b) (b := a) (e := e) (q := q) (by omega) (by omega) r2
      have hdv : (b - a) / 2 ^ e = q := by rw [r2, Nat.mul_div_cancel_left _ (Nat.two_pow_pos e)]
      have hqle : q ≤ b - a := by rw [← hdv]; exact Nat.div_le_self _ _
      refine Stop.go ?_
      (replace hb0 := true_and True); refine Go1.mk ?_; repeat' ((first | (with_reducible refine Go1.go ?_) | ((with_reducible first | refine brv_mk ?_ ?_ | refine gsplitD ?_ ?_ | refine gsplitG ?_ ?_) <;> intro h <;> (try simp only [Bool.not_eq_true', Bool.not_eq_false'] at h) <;> replace hb0 := h) | ((with_reducible refine isCall (f := 92) ?_); refine callA ?_) | ((with_reducible refine isCall0 (f := 92) ?_); refine callA0 ?_) | ((with_reducible refine isCallS (f := 92) ?_); refine (down_ok 11 _ _ e L3 t2.le (by omega) (by omega) t2.ok (fun L4 o4 m4 r4 r5 => Stop.mk ?_))) | (refine And.intro ?ob ?_; case ob => ((try simp only [sxO, ne_eq, maxLen] at *); omega)) | fail) <;> (try simp (config := { maxSteps := 1000000 }) only [hb0, cE_ment, hasK_nil, cE_kill, cE_len, u32_one, u32_app1, u32_set, Nat.mul_one, ↓hold_pre, awayP, runOps, regK, step1, newK, genR, appR, obl, buildR, Value.cells, closeK, keepH, outV, retK, ret1, retC, RetV, Option.getD, runD, stepD, afterK, undef, simprocAttr, sxB, ↓sxD, sxE, sxTab]))
      rw [t2.val, hdv] at r5
      refine Stop.go ?_
      (replace hb0 := true_and True); refine Go1.mk ?_; repeat' ((first | (with_reducible refine Go1.go ?_) | ((with_reducible first | refine brv_mk ?_ ?_ | refine gsplitD ?_ ?_ | refine gsplitG ?_ ?_) <;> intro h <;> (try simp only [Bool.not_eq_true', Bool.not_eq_false'] at h) <;> replace hb0 := h) | (refine And.intro ?ob ?_; case ob => ((try simp only [sxO, ne_eq, maxLen] at *); omega)) | fail) <;> (try simp (config := { maxSteps := 1000000 }) only [hb0, cE_ment, hasK_nil, cE_kill, cE_len, u32_one, u32_app1, u32_set, Nat.mul_one, ↓hold_pre, awayP, runOps, regK, step1, newK, genR, appR, obl, buildR, Value.cells, closeK, keepH, outV, retK, ret1, retC, RetV, Option.getD, runD, stepD, afterK, undef, simprocAttr, sxB, ↓sxD, sxE, sxTab]))
      exact ⟨q + a, cmSt M 11 13 o4 m4 oa ma e1 e2 L4 LA, by omega, le_sub ⟨rfl, rfl, rfl, rfl, trivial⟩ (by simp [subHp, cmSt, lkH]) rfl rfl rfl (keepLt0 _), q, a, _, _, _, _, L4, LA, rfl, by omega, by omega, r3, by omega, (by rw [hgs]; rw [Nat.gcd_comm]; exact hg), r5, hA, by omega, by omega, .inl rfl⟩
    · have c1 : cmpN a b = 0 := by unfold cmpN; rw [if_neg (by omega), if_pos hab]
      (replace hb0 := true_and True); refine Go1.mk ?_; repeat' ((first | (with_reducible refine Go1.go ?_) | ((with_reducible first | refine brv_mk ?_ ?_ | refine gsplitD ?_ ?_ | refine gsplitG ?_ ?_) <;> intro h <;> (try simp only [Bool.not_eq_true', Bool.not_eq_false'] at h) <;> replace hb0 := h) | ((with_reducible refine isCall (f := 57) ?_); refine callA ?_) | ((with_reducible refine isCall0 (f := 57) ?_); refine callA0 ?_) | ((with_reducible refine isCallS (f := 57) ?_); refine (order_bor _ _ _ _ _ _ (by decide) _ _ _ a b hA hB (by omega) (by omega) ?_)) | ((with_reducible refine isCall (f := 57) ?_); refine callA ?_) | ((with_reducible refine isCall0 (f := 57) ?_); refine callA0 ?_) | ((with_reducible refine isCallS (f := 57) ?_); refine (CallS.order (swap2 (by decide) _ _) (order_bor _ _ _ _ _ _ (by decide) _ _ _ a b hA hB (by omega) (by omega) ⟨_, swap2 (by decide) _ _, ?_⟩))) | ((with_reducible refine isCall (f := 69) ?_); refine callA ?_) | ((with_reducible refine isCall0 (f := 69) ?_); refine callA0 ?_) | ((with_reducible refine isCallS (f := 69) ?_); refine (times_bor2 13 54 _ _ _ _ (by decide) _ _ _ a (2 ^ e0) hA htw (by omega) (by omega) (fun w M' n1 n2 n3 => Stop.mk ?_))) | ((with_reducible refine isCall (f := 69) ?_); refine callA ?_) | ((with_reducible refine isCall0 (f := 69) ?_); refine callA0 ?_) | ((with_reducible refine isCallS (f := 69) ?_); refine (CallS.order (swap2 (by decide) _ _) (times_bor2 13 54 _ _ _ _ (by decide) _ _ _ a (2 ^ e0) hA htw (by omega) (by omega) (fun w M' n1 n2 n3 => ⟨_, swap2 (by decide) _ _, Stop.mk ?_⟩)))) | (refine And.intro ?ob ?_; case ob => ((try simp only [sxO, ne_eq, maxLen] at *); omega)) | fail) <;> (try simp (config := { maxSteps := 1000000 }) only [hb0, cE_ment, hasK_nil, cE_kill, cE_len, u32_one, u32_app1, u32_set, Nat.mul_one, cmSt, c1, u32V, List.length_replicate, f0, f1, f2, f3, f4, f5, f6, f7, hz0, htwo, ↓hold_pre, awayP, runOps, regK, step1, newK, genR, appR, obl, buildR, Value.cells, closeK, keepH, outV, retK, ret1, retC, RetV, Option.getD, runD, stepD, afterK, undef, simprocAttr, sxB, ↓sxD, sxE, sxTab]))
      refine Stop.go ?_
      (replace hb0 := true_and True); refine Go1.mk ?_; repeat' ((first | (with_reducible refine Go1.go ?_) | ((with_reducible first | refine brv_mk ?_ ?_ | refine gsplitD ?_ ?_ | refine gsplitG ?_ ?_) <;> intro h <;> (try simp only [Bool.not_eq_true', Bool.not_eq_false'] at h) <;> replace hb0 := h) | (refine And.intro ?ob ?_; case ob => ((try simp only [sxO, ne_eq, maxLen] at *); omega)) | fail) <;> (try simp (config := { maxSteps := 1000000 }) only [hb0, n2.one, ↓hold_pre, awayP, runOps, regK, step1, newK, genR, appR, obl, buildR, Value.cells, closeK, keepH, outV, retK, ret1, retC, RetV, Option.getD, runD, stepD, afterK, undef, simprocAttr, sxB, ↓sxD, sxE, sxTab]))
      rw [hres hab] at n2
      exact .inl (hK _ _ n1 n2 n3)
    · have c1 := cmpN_gt hab
      (replace hb0 := true_and True); refine Go1.mk ?_; repeat' ((first | (with_reducible refine Go1.go ?_) | ((with_reducible first | refine brv_mk ?_ ?_ | refine gsplitD ?_ ?_ | refine gsplitG ?_ ?_) <;> intro h <;> (try simp only [Bool.not_eq_true', Bool.not_eq_false'] at h) <;> replace hb0 := h) | ((with_reducible refine isCall (f := 57) ?_); refine callA ?_) | ((with_reducible refine isCall0 (f := 57) ?_); refine callA0 ?_) | ((with_reducible refine isCallS (f := 57) ?_); refine (order_bor _ _ _ _ _ _ (by decide) _ _ _ a b hA hB (by omega) (by omega) ?_)) | ((with_reducible refine isCall (f := 57) ?_); refine callA ?_) | ((with_reducible refine isCall0 (f := 57) ?_); refine callA0 ?_) | ((with_reducible refine isCallS (f := 57) ?_); refine (CallS.order (swap2 (by decide) _ _) (order_bor _ _ _ _ _ _ (by decide) _ _ _ a b hA hB (by omega) (by omega) ⟨_, swap2 (by decide) _ _, ?_⟩))) | ((with_reducible refine isCall (f := 93) ?_); refine callA ?_) | ((with_reducible refine isCall0 (f := 93) ?_); refine callA0 ?_) | ((with_reducible refine isCallS (f := 93) ?_); refine (takeB_ok _ _ _ _ _ _ _ _ hA hB (by omega) (by omega) (by omega) (fun L3 m3 t1 t2 => Stop.mk ?_))) | ((with_reducible refine isCall (f := 93) ?_); refine callA ?_) | ((with_reducible refine isCall0 (f := 93) ?_); refine callA0 ?_) | ((with_reducible refine isCallS (f := 93) ?_); refine (CallS.order (swap2 (by decide) _ _) (takeB_ok _ _ _ _ _ _ _ _ hA hB (by omega) (by omega) (by omega) (fun L3 m3 t1 t2 => ⟨_, swap2 (by decide) _ _, Stop.mk ?_⟩)))) | (refine And.intro ?ob ?_; case ob => ((try simp only [sxO, ne_eq, maxLen] at *); omega)) | fail) <;> (try simp (config := { maxSteps := 1000000 }) only [hb0, cE_ment, hasK_nil, cE_kill, cE_len, u32_one, u32_app1, u32_set, Nat.mul_one, cmSt, c1, ↓hold_pre, awayP, runOps, regK, step1, newK, genR, appR, obl, buildR, Value.cells, closeK, keepH, outV, retK, ret1, retC, RetV, Option.getD, runD, stepD, afterK, undef, simprocAttr, sxB, ↓sxD, sxE, sxTab]))
      refine Stop.go ?_
      (replace hb0 := true_and True); refine Go1.mk ?_; repeat' ((first | (with_reducible refine Go1.go ?_) | ((with_reducible first | refine brv_mk ?_ ?_ | refine gsplitD ?_ ?_ | refine gsplitG ?_ ?_) <;> intro h <;> (try simp only [Bool.not_eq_true', Bool.not_eq_false'] at h) <;> replace hb0 := h) | ((with_reducible refine isCall (f := 91) ?_); refine callA ?_) | ((with_reducible refine isCall0 (f := 91) ?_); refine callA0 ?_) | ((with_reducible refine isCallS (f := 91) ?_); refine (zeros_bor 13 _ _ _ L3 (a - b) t2 (by omega) (by omega) (fun e q r1 r2 r3 => Stop.mk ?_))) | (refine And.intro ?ob ?_; case ob => ((try simp only [sxO, ne_eq, maxLen] at *); omega)) | fail) <;> (try simp (config := { maxSteps := 1000000 }) only [hb0, cE_ment, hasK_nil, cE_kill, cE_len, u32_one, u32_app1, u32_set, Nat.mul_one, ↓hold_pre, awayP, runOps, regK, step1, newK, genR, appR, obl, buildR, Value.cells, closeK, keepH, outV, retK, ret1, retC, RetV, Option.getD, runD, stepD, afterK, undef, simprocAttr, sxB, ↓sxD, sxE, sxTab]))
      have t3 := t2.len
      have t4 := t2.le
      have hgs := gcd_step (a := a) (b := b) (e := e) (q := q) (by omega) (by omega) r2
      have hdv : (a - b) / 2 ^ e = q := by rw [r2, Nat.mul_div_cancel_left _ (Nat.two_pow_pos e)]
      have hqle : q ≤ a - b := by rw [← hdv]; exact Nat.div_le_self _ _
      refine Stop.go ?_
      (replace hb0 := true_and True); refine Go1.mk ?_; repeat' ((first | (with_reducible refine Go1.go ?_) | ((with_reducible first | refine brv_mk ?_ ?_ | refine gsplitD ?_ ?_ | refine gsplitG ?_ ?_) <;> intro h <;> (try simp only [Bool.not_eq_true', Bool.not_eq_false'] at h) <;> replace hb0 := h) | ((with_reducible refine isCall (f := 92) ?_); refine callA ?_) | ((with_reducible refine isCall0 (f := 92) ?_); refine callA0 ?_) | ((with_reducible refine isCallS (f := 92) ?_); refine (down_ok 13 _ _ e L3 t2.le (by omega) (by omega) t2.ok (fun L4 o4 m4 r4 r5 => Stop.mk ?_))) | (refine And.intro ?ob ?_; case ob => ((try simp only [sxO, ne_eq, maxLen] at *); omega)) | fail) <;> (try simp (config := { maxSteps := 1000000 }) only [hb0, cE_ment, hasK_nil, cE_kill, cE_len, u32_one, u32_app1, u32_set, Nat.mul_one, ↓hold_pre, awayP, runOps, regK, step1, newK, genR, appR, obl, buildR, Value.cells, closeK, keepH, outV, retK, ret1, retC, RetV, Option.getD, runD, stepD, afterK, undef, simprocAttr, sxB, ↓sxD, sxE, sxTab]))
      rw [t2.val, hdv] at r5
      refine Stop.go ?_
      (replace hb0 := true_and True); refine Go1.mk ?_; repeat' ((first | (with_reducible refine Go1.go ?_) | ((with_reducible first | refine brv_mk ?_ ?_ | refine gsplitD ?_ ?_ | refine gsplitG ?_ ?_) <;> intro h <;> (try simp only [Bool.not_eq_true', Bool.not_eq_false'] at h) <;> replace hb0 := h) | (refine And.intro ?ob ?_; case ob => ((try simp only [sxO, ne_eq, maxLen] at *); omega)) | fail) <;> (try simp (config := { maxSteps := 1000000 }) only [hb0, cE_ment, hasK_nil, cE_kill, cE_len, u32_one, u32_app1, u32_set, Nat.mul_one, ↓hold_pre, awayP, runOps, regK, step1, newK, genR, appR, obl, buildR, Value.cells, closeK, keepH, outV, retK, ret1, retC, RetV, Option.getD, runD, stepD, afterK, undef, simprocAttr, sxB, ↓sxD, sxE, sxTab]))
      exact ⟨q + b, cmSt M 13 11 o4 m4 ob mb e1 e2 L4 LB, by omega, le_sub ⟨rfl, rfl, rfl, rfl, trivial⟩ (by simp [subHp, cmSt, lkH]) rfl rfl rfl (keepLt0 _), q, b, _, _, _, _, L4, LB, rfl, by omega, by omega, r3, by omega, (by rw [hgs]; exact hg), r5, hB, by omega, by omega, .inr rfl⟩
end
end Go.Proofs.YtamghpnjdohnjaaDoor.Sx
namespace Go.Proofs.YtamghpnjdohnjaaDoor.Sx
open Go Go.RowKit
set_option linter.unusedVariables false
set_option linter.unusedSimpArgs false
set_option maxRecDepth 100000
set_option maxHeartbeats 8000000
attribute [local congr] fin_congr finG_congr stepG_congr step1_congr runOps_congr brv_congr obl_congr condK_congr LoopK_congr seqK_congr CutK_congr vc_congr DrawK_congr regK_congr CallK_congr AskK_congr newK_congr retC_congr ret1_congr retK_congr outV_congr closeK_congr genR_congr appR_congr finD_congr finGD_congr stepGD_congr stepD_congr CallK0_congr runD_congr okR_congr CallS_congr vcX_congr
attribute [local congr] Stop_congr
section
variable {M : Mem} {K : AV → Hp → Mem → Prop} {u1 u2 : Value} {l1 l2 : List Nat}
theorem rlowest_ok (u v : Value) (n d : Nat) (hu : IsL M u32V u (ofN n)) (hv : IsL M u32V v (ofN d)) (hn : (ofN n).length < 1000000) (hd : (ofN d).length < 1000000) (hd0 : 0 < d)
    (hK : ∀ w1 w2 M', Mem.le M M' → IsL M' u32V w1 (ofN (n / Nat.gcd n d)) → IsL M' u32V w2 (ofN (d / Nat.gcd n d)) → FreshS M w1 → FreshS M w2 → K (.ext (.agg #[w1, w2])) [] M') : CallS Tryd.prog 53 [.ext u, .ext v] [] M [] K := by
  refine inlS (cs := []) Tryd.mixed Tryd.func53 rfl (by kernel_rfl) 0 rfl rfl ?_
  simp only [Tryd.f53]
  have hg0 : 0 < Nat.gcd n d := Nat.gcd_pos_of_pos_right _ hd0
  have hgl := len_mono (Nat.gcd_le_right n hd0)
  (replace hb0 := true_and True); refine Go1.mk ?_; repeat' ((first | (with_reducible refine Go1.go ?_) | ((with_reducible first | refine brv_mk ?_ ?_ | refine gsplitD ?_ ?_ | refine gsplitG ?_ ?_) <;> intro h <;> (try simp only [Bool.not_eq_true', Bool.not_eq_false'] at h) <;> replace hb0 := h) | ((first | (with_reducible refine isCall (f := 58) ?_; refine callA_nil (by kernel_rfl) ?_) | (with_reducible refine isCall0 (f := 58) ?_; refine callA0_nil (by kernel_rfl) ?_)); refine (common_ok u v n d hu hv (by omega) (by omega) (fun g M1 a1 a2 a3 => Stop.mk ?_))) | (refine And.intro ?ob ?_; case ob => ((try simp only [sxO, ne_eq, maxLen] at *); omega)) | fail) <;> (try simp (config := { maxSteps := 1000000 }) only [hb0, hu.one, hv.one, ↓hold_pre, awayP, runOps, regK, step1, newK, genR, appR, obl, buildR, Value.cells, closeK, keepH, outV, retK, ret1, retC, RetV, Option.getD, runD, stepD, afterK, undef, simprocAttr, sxB, ↓sxD, sxE, sxTab]))
  have a1 : Mem.le M M1 := a1
  have hu1 := hu.le a1
  have hv1 := hv.le a1
  refine Stop.go ?_
  (replace hb0 := true_and True); refine Go1.mk ?_; repeat' ((first | (with_reducible refine Go1.go ?_) | ((with_reducible first | refine brv_mk ?_ ?_ | refine gsplitD ?_ ?_ | refine gsplitG ?_ ?_) <;> intro h <;> (try simp only [Bool.not_eq_true', Bool.not_eq_false'] at h) <;> replace hb0 := h) | ((first | (with_reducible refine isCall (f := 78) ?_; refine callA_nil (by kernel_rfl) ?_) | (with_reducible refine isCall0 (f := 78) ?_; refine callA0_nil (by kernel_rfl) ?_)); refine (split_ok u g n _ hu1 a2 (by omega) (by omega) hg0 (fun q1 r1 M2 b1 b2 b3 b4 b5 => Stop.mk ?_))) | (refine And.intro ?ob ?_; case ob => ((try simp only [sxO, ne_eq, maxLen] at *); omega)) | fail) <;> (try simp (config := { maxSteps := 1000000 }) only [hb0, hu1.one, hv1.one, a2.one, ↓hold_pre, awayP, runOps, regK, step1, newK, genR, appR, obl, buildR, Value.cells, closeK, keepH, outV, retK, ret1, retC, RetV, Option.getD, runD, stepD, afterK, undef, simprocAttr, sxB, ↓sxD, sxE, sxTab]))
  have b1 : Mem.le M1 M2 := b1
  have hv2 := hv1.le b1
  have a2' := a2.le b1
  refine Stop.go ?_
  (replace hb0 := true_and True); refine Go1.mk ?_; repeat' ((first | (with_reducible refine Go1.go ?_) | ((with_reducible first | refine brv_mk ?_ ?_ | refine gsplitD ?_ ?_ | refine gsplitG ?_ ?_) <;> intro h <;> (try simp only [Bool.not_eq_true', Bool.not_eq_false'] at h) <;> replace hb0 := h) | ((first | (with_reducible refine isCall (f := 78) ?_; refine callA_nil (by kernel_rfl) ?_) | (with_reducible refine isCall0 (f := 78) ?_; refine callA0_nil (by kernel_rfl) ?_)); refine (split_ok v g d _ hv2 a2' (by omega) (by omega) hg0 (fun q2 r2 M3 c1 c2 c3 c4 c5 => Stop.mk ?_))) | (refine And.intro ?ob ?_; case ob => ((try simp only [sxO, ne_eq, maxLen] at *); omega)) | fail) <;> (try simp (config := { maxSteps := 1000000 }) only [hb0, hv2.one, a2'.one, b2.one, b3.one, ↓hold_pre, awayP, runOps, regK, step1, newK, genR, appR, obl, buildR, Value.cells, closeK, keepH, outV, retK, ret1, retC, RetV, Option.getD, runD, stepD, afterK, undef, simprocAttr, sxB, ↓sxD, sxE, sxTab]))
  have c1 : Mem.le M2 M3 := c1
  have b2' := b2.le c1
  have b3' := b3.le c1
  refine Stop.go ?_
  (replace hb0 := true_and True); refine Go1.mk ?_; repeat' ((first | (with_reducible refine Go1.go ?_) | ((with_reducible first | refine brv_mk ?_ ?_ | refine gsplitD ?_ ?_ | refine gsplitG ?_ ?_) <;> intro h <;> (try simp only [Bool.not_eq_true', Bool.not_eq_false'] at h) <;> replace hb0 := h) | (refine And.intro ?ob ?_; case ob => ((try simp only [sxO, ne_eq, maxLen] at *); omega)) | fail) <;> (try simp (config := { maxSteps := 1000000 }) only [hb0, b2'.one, b3'.one, c2.one, c3.one, ↓hold_pre, awayP, runOps, regK, step1, newK, genR, appR, obl, buildR, Value.cells, closeK, keepH, outV, retK, ret1, retC, RetV, Option.getD, runD, stepD, afterK, undef, simprocAttr, sxB, ↓sxD, sxE, sxTab]))
  exact hK _ _ _ ((a1.trans b1).trans c1) b2' c2 (b4.le a1) (c4.le (a1.trans b1))
theorem rfmake_ok (h1 : IsL M u32V u1 l1) (h2 : IsL M u32V u2 l2) (o1 : okN l1) (o2 : okN l2) (b1 : l1.length < 1000000) (b2 : l2.length < 1000000) (hK : FracK M K (makF l1 l2)) : CallS Tryd.prog 12 [.ext u1, .ext u2] [] M [] K := by
  refine inlS (cs := []) Tryd.mixed Tryd.func12 rfl (by kernel_rfl) 0 rfl rfl ?_
  simp only [Tryd.f12]
  unfold makF at hK
  cases hc1 : chkN l1 with
  | false =>
    rw [hc1] at hK
    (replace hb0 := true_and True); refine Go1.mk ?_; repeat' ((first | (with_reducible refine Go1.go ?_) | ((with_reducible first | refine brv_mk ?_ ?_ | refine gsplitD ?_ ?_ | refine gsplitG ?_ ?_) <;> intro h <;> (try simp only [Bool.not_eq_true', Bool.not_eq_false'] at h) <;> replace hb0 := h) | ((first | (with_reducible refine isCall (f := 52) ?_; refine callA_nil (by kernel_rfl) ?_) | (with_reducible refine isCall0 (f := 52) ?_; refine callA0_nil (by kernel_rfl) ?_)); refine (rcheck_ok u1 l1 h1 (by omega) ?_)) | (refine And.intro ?ob ?_; case ob => ((try simp only [sxO, ne_eq, maxLen] at *); omega)) | fail) <;> (try simp (config := { maxSteps := 1000000 }) only [hb0, h1.one, h2.one, hc1, ↓hold_pre, awayP, runOps, regK, step1, newK, genR, appR, obl, buildR, Value.cells, closeK, keepH, outV, retK, ret1, retC, RetV, Option.getD, runD, stepD, afterK, undef, simprocAttr, sxB, ↓sxD, sxE, sxTab]))
    exact hK.err _ (Mem.le.refl _)
  | true =>
    cases hc2 : chkN l2 with
    | false =>
      rw [hc1, hc2] at hK
      (replace hb0 := true_and True); refine Go1.mk ?_; repeat' ((first | (with_reducible refine Go1.go ?_) | ((with_reducible first | refine brv_mk ?_ ?_ | refine gsplitD ?_ ?_ | refine gsplitG ?_ ?_) <;> intro h <;> (try simp only [Bool.not_eq_true', Bool.not_eq_false'] at h) <;> replace hb0 := h) | ((first | (with_reducible refine isCall (f := 52) ?_; refine callA_nil (by kernel_rfl) ?_) | (with_reducible refine isCall0 (f := 52) ?_; refine callA0_nil (by kernel_rfl) ?_)); refine (rcheck_ok u1 l1 h1 (by omega) ?_)) | ((first | (with_reducible refine isCall (f := 52) ?_; refine callA_nil (by kernel_rfl) ?_) | (with_reducible refine isCall0 (f := 52) ?_; refine callA0_nil (by kernel_rfl) ?_)); refine (rcheck_ok u2 l2 h2 (by omega) ?_)) | (refine And.intro ?ob ?_; case ob => ((try simp only [sxO, ne_eq, maxLen] at *); omega)) | fail) <;> (try simp (config := { maxSteps := 1000000 }) only [hb0, h1.one, h2.one, hc1, hc2, ↓hold_pre, awayP, runOps, regK, step1, newK, genR, appR, obl, buildR, Value.cells, closeK, keepH, outV, retK, ret1, retC, RetV, Option.getD, runD, stepD, afterK, undef, simprocAttr, sxB, ↓sxD, sxE, sxTab]))
      exact hK.err _ (Mem.le.refl _)
    | true =>
      rw [hc1, hc2, Bool.and_self, if_pos rfl] at hK
      obtain ⟨e1, x1⟩ := chkN_ok o1 hc1
      obtain ⟨e2, x2⟩ := chkN_ok o2 hc2
      have h1' := h1
      have h2' := h2
      rw [e1] at h1'
      rw [e2] at h2'
      have hz := nil_iff e2
      by_cases h0 : valN l2 = 0
      · rw [if_pos h0] at hK
        have d1 : decide ((l2.length : Int) = 0) = true := by rw [decide_eq_true_eq]; have := hz.2 h0; omega
        (replace hb0 := true_and True); refine Go1.mk ?_; repeat' ((first | (with_reducible refine Go1.go ?_) | ((with_reducible first | refine brv_mk ?_ ?_ | refine gsplitD ?_ ?_ | refine gsplitG ?_ ?_) <;> intro h <;> (try simp only [Bool.not_eq_true', Bool.not_eq_false'] at h) <;> replace hb0 := h) | ((first | (with_reducible refine isCall (f := 52) ?_; refine callA_nil (by kernel_rfl) ?_) | (with_reducible refine isCall0 (f := 52) ?_; refine callA0_nil (by kernel_rfl) ?_)); refine (rcheck_ok u1 l1 h1 (by omega) ?_)) | ((first | (with_reducible refine isCall (f := 52) ?_; refine callA_nil (by kernel_rfl) ?_) | (with_reducible refine isCall0 (f := 52) ?_; refine callA0_nil (by kernel_rfl) ?_)); refine (rcheck_ok u2 l2 h2 (by omega) ?_)) | (refine And.intro ?ob ?_; case ob => ((try simp only [sxO, ne_eq, maxLen] at *); omega)) | fail) <;> (try simp (config := { maxSteps := 1000000 }) only [hb0, h1.one, h2.one, h2.len, h2.sl, hc1, hc2, d1, ↓hold_pre, awayP, runOps, regK, step1, newK, genR, appR, obl, buildR, Value.cells, closeK, keepH, outV, retK, ret1, retC, RetV, Option.getD, runD, stepD, afterK, undef, simprocAttr, sxB, ↓sxD, sxE, sxTab]))
        exact hK.err _ (Mem.le.refl _)
      · rw [if_neg h0] at hK
        have d1 : decide ((l2.length : Int) = 0) = false := by rw [decide_eq_false_iff_not]; have := fun h => h0 (hz.1 h); omega
        (replace hb0 := true_and True); refine Go1.mk ?_; repeat' ((first | (with_reducible refine Go1.go ?_) | ((with_reducible first | refine brv_mk ?_ ?_ | refine gsplitD ?_ ?_ | refine gsplitG ?_ ?_) <;> intro h <;> (try simp only [Bool.not_eq_true', Bool.not_eq_false'] at h) <;> replace hb0 := h) | ((first | (with_reducible refine isCall (f := 52) ?_; refine callA_nil (by kernel_rfl) ?_) | (with_reducible refine isCall0 (f := 52) ?_; refine callA0_nil (by kernel_rfl) ?_)); refine (rcheck_ok u1 l1 h1 (by omega) ?_)) | ((first | (with_reducible refine isCall (f := 52) ?_; refine callA_nil (by kernel_rfl) ?_) | (with_reducible refine isCall0 (f := 52) ?_; refine callA0_nil (by kernel_rfl) ?_)); refine (rcheck_ok u2 l2 h2 (by omega) ?_)) | ((first | (with_reducible refine isCall (f := 53) ?_; refine callA_nil (by kernel_rfl) ?_) | (with_reducible refine isCall0 (f := 53) ?_; refine callA0_nil (by kernel_rfl) ?_)); refine (rlowest_ok u1 u2 _ _ h1' h2' (by rw [← e1]; omega) (by rw [← e2]; omega) (by omega) (fun w1 w2 M1 a1 a2 a3 a4 a5 => Stop.mk ?_))) | (refine And.intro ?ob ?_; case ob => ((try simp only [sxO, ne_eq, maxLen] at *); omega)) | fail) <;> (try simp (config := { maxSteps := 1000000 }) only [hb0, h1.one, h2.one, h2.len, h2.sl, hc1, hc2, d1, ↓hold_pre, awayP, runOps, regK, step1, newK, genR, appR, obl, buildR, Value.cells, closeK, keepH, outV, retK, ret1, retC, RetV, Option.getD, runD, stepD, afterK, undef, simprocAttr, sxB, ↓sxD, sxE, sxTab]))
        refine Stop.go ?_
        (replace hb0 := true_and True); refine Go1.mk ?_; repeat' ((first | (with_reducible refine Go1.go ?_) | ((with_reducible first | refine brv_mk ?_ ?_ | refine gsplitD ?_ ?_ | refine gsplitG ?_ ?_) <;> intro h <;> (try simp only [Bool.not_eq_true', Bool.not_eq_false'] at h) <;> replace hb0 := h) | (refine And.intro ?ob ?_; case ob => ((try simp only [sxO, ne_eq, maxLen] at *); omega)) | fail) <;> (try simp (config := { maxSteps := 1000000 }) only [hb0, a2.one, a3.one, ↓hold_pre, awayP, runOps, regK, step1, newK, genR, appR, obl, buildR, Value.cells, closeK, keepH, outV, retK, ret1, retC, RetV, Option.getD, runD, stepD, afterK, undef, simprocAttr, sxB, ↓sxD, sxE, sxTab]))
        rw [exF_is (by rw [← e1]; omega) (by rw [← e2]; omega)] at hK
        exact hK _ _ _ a1 a2 a3 a4 a5
theorem ofN_1 : ofN 1 = [1] := by rw [ofN_pos (by decide), show 1 / 4294967296 = 0 from rfl, ofN_zero]
end
end Go.Proofs.YtamghpnjdohnjaaDoor.Sx
namespace Go.Proofs.YtamghpnjdohnjaaDoor.Sx
open Go Go.RowKit
set_option linter.unusedVariables false
set_option linter.unusedSimpArgs false
set_option maxRecDepth 100000
set_option maxHeartbeats 8000000
attribute [local congr] fin_congr finG_congr stepG_congr step1_congr runOps_congr brv_congr obl_congr condK_congr LoopK_congr seqK_congr CutK_congr vc_congr DrawK_congr regK_congr CallK_congr AskK_congr newK_congr retC_congr ret1_congr retK_congr outV_congr closeK_congr genR_congr appR_congr finD_congr finGD_congr stepGD_congr stepD_congr CallK0_congr runD_congr okR_congr CallS_congr vcX_congr
attribute [local congr] Stop_congr
def fmtF (a b : List Nat) : Int × List UInt8 := if chkF a b then (if valN b = 1 then (0, decB (valN a)) else (0, decB (valN a) ++ 47 :: decB (valN b))) else (1, [])
theorem dec_short2 (n : Nat) : ∀ k, n < 2 ^ k → (dec n).length ≤ k := by
  induction n using Nat.strongRecOn with
  | _ n ih =>
    intro k hk
    by_cases h : n = 0
    · subst h; rw [dec_zero]; exact Nat.zero_le _
    · rw [dec_pos h, List.length_append, List.length_singleton]
      cases k with
      | zero => simp at hk; omega
      | succ k =>
        rw [Nat.pow_succ] at hk
        have := ih (n / 10) (Nat.div_lt_self (by omega) (by decide)) k (by omega)
        omega
theorem wN_pow2 (i : Nat) : wN i = 2 ^ (32 * i) := by unfold wN; rw [Nat.pow_mul]
theorem decB_128 {n : Nat} (h : (ofN n).length ≤ 128) : (decB n).length ≤ 5000 := by
  obtain ⟨k, hk⟩ : ∃ k, k = 128 := ⟨_, rfl⟩
  rw [← hk] at h
  have h1 := ofN_len_lt h
  rw [wN_pow2] at h1
  have := dec_short2 _ _ h1
  unfold decB
  split
  · simp
  · omega
theorem fmtR_128 {n : Nat} (h : (ofN n).length ≤ 128) : fmtR (ofN n) = (0, decB n) := by
  unfold fmtR
  rw [chkN_ofN h, if_pos rfl, valN_ofN]
theorem getD_zero {l : List Nat} (h : 0 < l.length) : l.getD 0 0 = l[0] := by simp [List.getD_eq_getElem?_getD, h]
theorem ofN_1' : ofN 1 = [1] := by rw [ofN_pos (by decide), show 1 / 4294967296 = 0 from rfl, ofN_zero]
theorem den_one {d : Nat} (hl : (ofN d).length = 1) : d = (ofN d).getD 0 0 := by
  have := valN_ofN d
  generalize ofN d = l at *
  match l, hl with
  | [a], _ => simp [valN] at this; simp [this]
section
variable {M : Mem} {K : AV → Hp → Mem → Prop} {u1 u2 v1 v2 : Value} {l1 l2 k1 k2 : List Nat}
theorem sameFrac_ok (h1 : IsL M u32V u1 l1) (h2 : IsL M u32V u2 l2) (k1 : IsL M u32V v1 l1) (k2 : IsL M u32V v2 l2) (b1 : l1.length < 1000000000) (b2 : l2.length < 1000000000) (hK : K (.ext (.bool true)) [] M) : CallS Tryd.prog 32 [.ext (.agg #[u1, u2]), .ext (.agg #[v1, v2])] [] M [] K := by
  refine inlS (cs := []) Tryd.mixed Tryd.func32 rfl (by kernel_rfl) 0 rfl rfl ?_
  simp only [Tryd.f32]
  (replace hb0 := true_and True); refine Go1.mk ?_; repeat' ((first | (with_reducible refine Go1.go ?_) | ((with_reducible first | refine brv_mk ?_ ?_ | refine gsplitD ?_ ?_ | refine gsplitG ?_ ?_) <;> intro h <;> (try simp only [Bool.not_eq_true', Bool.not_eq_false'] at h) <;> replace hb0 := h) | ((first | (with_reducible refine isCall (f := 42) ?_; refine callA_nil (by kernel_rfl) ?_) | (with_reducible refine isCall0 (f := 42) ?_; refine callA0_nil (by kernel_rfl) ?_)); refine (sameNat_ok u1 v1 l1 h1 k1 b1 ?_)) | ((first | (with_reducible refine isCall (f := 42) ?_; refine callA_nil (by kernel_rfl) ?_) | (with_reducible refine isCall0 (f := 42) ?_; refine callA0_nil (by kernel_rfl) ?_)); refine (sameNat_ok u2 v2 l2 h2 k2 b2 ?_)) | (refine And.intro ?ob ?_; case ob => ((try simp only [sxO, ne_eq, maxLen] at *); omega)) | fail) <;> (try simp (config := { maxSteps := 1000000 }) only [hb0, h1.one, h2.one, k1.one, k2.one, ↓hold_pre, awayP, runOps, regK, step1, newK, genR, appR, obl, buildR, Value.cells, closeK, keepH, outV, retK, ret1, retC, RetV, Option.getD, runD, stepD, afterK, undef, simprocAttr, sxB, ↓sxD, sxE, sxTab]))
  exact hK
theorem cut8_ok (u : Value) (l : List Nat) (hu : IsL M u32V u l) (hK : ∀ w, IsL M u32V w (l.take 8) → K (.ext w) [] M) : CallS Tryd.prog 11 [.ext u] [] M [] K := by
  refine inlS (cs := []) Tryd.mixed Tryd.func11 rfl (by kernel_rfl) 0 rfl rfl ?_
  simp only [Tryd.f11]
  by_cases h : 8 < l.length
  · have d1 : decide ((8 : Int) < (l.length : Int)) = true := by simp; omega
    have hs := hu.sub (Nat.zero_le 8) (by omega)
    have hcap := hu.cap
    have d2 : (8 : Int) ≤ (scap u : Int) := by omega
    (replace hb0 := true_and True); refine Go1.mk ?_; repeat' ((first | (with_reducible refine Go1.go ?_) | ((with_reducible first | refine brv_mk ?_ ?_ | refine gsplitD ?_ ?_ | refine gsplitG ?_ ?_) <;> intro h <;> (try simp only [Bool.not_eq_true', Bool.not_eq_false'] at h) <;> replace hb0 := h) | (refine And.intro ?ob ?_; case ob => ((try simp only [sxO, ne_eq, maxLen] at *); omega)) | fail) <;> (try simp (config := { maxSteps := 1000000 }) only [hb0, hu.one, hu.len, hu.sl, d1, d2, hs.one, ↓hold_pre, awayP, runOps, regK, step1, newK, genR, appR, obl, buildR, Value.cells, closeK, keepH, outV, retK, ret1, retC, RetV, Option.getD, runD, stepD, afterK, undef, simprocAttr, sxB, ↓sxD, sxE, sxTab]))
    exact hK _ hs
  · have d1 : decide ((8 : Int) < (l.length : Int)) = false := by simp; omega
    (replace hb0 := true_and True); refine Go1.mk ?_; repeat' ((first | (with_reducible refine Go1.go ?_) | ((with_reducible first | refine brv_mk ?_ ?_ | refine gsplitD ?_ ?_ | refine gsplitG ?_ ?_) <;> intro h <;> (try simp only [Bool.not_eq_true', Bool.not_eq_false'] at h) <;> replace hb0 := h) | (refine And.intro ?ob ?_; case ob => ((try simp only [sxO, ne_eq, maxLen] at *); omega)) | fail) <;> (try simp (config := { maxSteps := 1000000 }) only [hb0, hu.one, hu.len, hu.sl, d1, ↓hold_pre, awayP, runOps, regK, step1, newK, genR, appR, obl, buildR, Value.cells, closeK, keepH, outV, retK, ret1, retC, RetV, Option.getD, runD, stepD, afterK, undef, simprocAttr, sxB, ↓sxD, sxE, sxTab]))
    refine hK _ ?_
    rw [List.take_of_length_le (by omega)]; exact hu
theorem ffmt_ok (ha : IsF M u1 u2 l1 l2) (hK : ∀ M', Mem.le M M' → K (.ext (.tuple #[.string (bs (fmtF l1 l2).2), .int .i64 (fmtF l1 l2).1])) [] M') : CallS Tryd.prog 45 [.ext (.agg #[u1, u2])] [] M [] K := by
  refine inlS (cs := []) Tryd.mixed Tryd.func45 rfl (by kernel_rfl) 0 rfl rfl ?_
  simp only [Tryd.f45]
  unfold fmtF at hK
  (replace hb0 := true_and True); refine Go1.mk ?_; repeat' ((first | (with_reducible refine Go1.go ?_) | ((with_reducible first | refine brv_mk ?_ ?_ | refine gsplitD ?_ ?_ | refine gsplitG ?_ ?_) <;> intro h <;> (try simp only [Bool.not_eq_true', Bool.not_eq_false'] at h) <;> replace hb0 := h) | ((first | (with_reducible refine isCall (f := 16) ?_; refine callA_nil (by kernel_rfl) ?_) | (with_reducible refine isCall0 (f := 16) ?_; refine callA0_nil (by kernel_rfl) ?_)); refine (fcheck_ok ha.n ha.d ha.on ha.od ha.bn ha.bd (fun M1 m1 => Stop.mk ?_))) | (refine And.intro ?ob ?_; case ob => ((try simp only [sxO, ne_eq, maxLen] at *); omega)) | fail) <;> (try simp (config := { maxSteps := 1000000 }) only [hb0, ha.n.one, ha.d.one, bs_mk, bs_app, bs_ext, bs_size, bs_toList, bs_at, bs_cells, List.take_length, imp_ga, guard_pk, guard_pk2, ↓hold_pre, awayP, runOps, regK, step1, newK, genR, appR, obl, buildR, Value.cells, closeK, keepH, outV, retK, ret1, retC, RetV, Option.getD, runD, stepD, afterK, undef, simprocAttr, sxB, ↓sxD, sxE, sxTab]))
  have m1 : Mem.le M M1 := m1
  have ha1 := ha.le m1
  refine Stop.go ?_
  cases hc : chkF l1 l2 with
  | false =>
    rw [hc] at hK
    (replace hb0 := true_and True); refine Go1.mk ?_; repeat' ((first | (with_reducible refine Go1.go ?_) | ((with_reducible first | refine brv_mk ?_ ?_ | refine gsplitD ?_ ?_ | refine gsplitG ?_ ?_) <;> intro h <;> (try simp only [Bool.not_eq_true', Bool.not_eq_false'] at h) <;> replace hb0 := h) | (refine And.intro ?ob ?_; case ob => ((try simp only [sxO, ne_eq, maxLen] at *); omega)) | fail) <;> (try simp (config := { maxSteps := 1000000 }) only [hb0, ha1.n.one, ha1.d.one, bs_mk, bs_app, bs_ext, bs_size, bs_toList, bs_at, bs_cells, List.take_length, imp_ga, guard_pk, guard_pk2, ↓hold_pre, awayP, runOps, regK, step1, newK, genR, appR, obl, buildR, Value.cells, closeK, keepH, outV, retK, ret1, retC, RetV, Option.getD, runD, stepD, afterK, undef, simprocAttr, sxB, ↓sxD, sxE, sxTab]))
    exact hK _ m1
  | true =>
  rw [hc, if_pos rfl] at hK
  obtain ⟨n, d, hn, hd, e1, e2, q1, q2, q3⟩ := ha1.num hc
  rw [e1, e2] at hK
  (replace hb0 := true_and True); refine Go1.mk ?_; repeat' ((first | (with_reducible refine Go1.go ?_) | ((with_reducible first | refine brv_mk ?_ ?_ | refine gsplitD ?_ ?_ | refine gsplitG ?_ ?_) <;> intro h <;> (try simp only [Bool.not_eq_true', Bool.not_eq_false'] at h) <;> replace hb0 := h) | ((first | (with_reducible refine isCall (f := 79) ?_; refine callA_nil (by kernel_rfl) ?_) | (with_reducible refine isCall0 (f := 79) ?_; refine callA0_nil (by kernel_rfl) ?_)); refine (fmt_ok u1 _ hn (okN_ofN n) (by omega) (fun M2 m2 => Stop.mk ?_))) | (refine And.intro ?ob ?_; case ob => ((try simp only [sxO, ne_eq, maxLen] at *); omega)) | fail) <;> (try simp (config := { maxSteps := 1000000 }) only [hb0, hn.one, hd.one, bs_mk, bs_app, bs_ext, bs_size, bs_toList, bs_at, bs_cells, List.take_length, imp_ga, guard_pk, guard_pk2, ↓hold_pre, awayP, runOps, regK, step1, newK, genR, appR, obl, buildR, Value.cells, closeK, keepH, outV, retK, ret1, retC, RetV, Option.getD, runD, stepD, afterK, undef, simprocAttr, sxB, ↓sxD, sxE, sxTab]))
  have m2 : Mem.le M1 M2 := m2
  have hn := hn.le m2
  have hd := hd.le m2
  rw [fmtR_128 q1]
  have hL1 := decB_128 q1
  have hL2 := decB_128 q2
  refine Stop.go ?_
  by_cases hl : (ofN d).length = 1
  · have z1 : decide (((ofN d).length : Int) = 1) = true := by rw [decide_eq_true_eq]; omega
    have hyi := hd.idx (P := Tryd.prog) (T := 70) tk70 tz70 (by omega) (show 0 < (ofN d).length by omega)
    have hat : (ofN d)[0] = d := by
      rw [← getD_zero (show 0 < (ofN d).length by omega)]; exact (den_one hl).symm
    rw [hat] at hyi
    by_cases hd1 : d = 1
    · have z2 : decide ((d : Int) = 1) = true := by rw [hd1]; decide
      rw [if_pos hd1] at hK
      (replace hb0 := true_and True); refine Go1.mk ?_; repeat' ((first | (with_reducible refine Go1.go ?_) | ((with_reducible first | refine brv_mk ?_ ?_ | refine gsplitD ?_ ?_ | refine gsplitG ?_ ?_) <;> intro h <;> (try simp only [Bool.not_eq_true', Bool.not_eq_false'] at h) <;> replace hb0 := h) | (refine And.intro ?ob ?_; case ob => ((try simp only [sxO, ne_eq, maxLen] at *); omega)) | fail) <;> (try simp (config := { maxSteps := 1000000 }) only [hb0, u32V, hn.one, hd.one, hd.len, hd.sl, z1, z2, hyi, Int.natCast_zero, Int.cast_ofNat_Int, bs_mk, bs_app, bs_ext, bs_size, bs_toList, bs_at, bs_cells, List.take_length, imp_ga, guard_pk, guard_pk2, ↓hold_pre, awayP, runOps, regK, step1, newK, genR, appR, obl, buildR, Value.cells, closeK, keepH, outV, retK, ret1, retC, RetV, Option.getD, runD, stepD, afterK, undef, simprocAttr, sxB, ↓sxD, sxE, sxTab]))
      exact hK _ (m1.trans m2)
    · have z2 : decide ((d : Int) = 1) = false := by rw [decide_eq_false_iff_not]; omega
      rw [if_neg hd1] at hK
      (replace hb0 := true_and True); refine Go1.mk ?_; repeat' ((first | (with_reducible refine Go1.go ?_) | ((with_reducible first | refine brv_mk ?_ ?_ | refine gsplitD ?_ ?_ | refine gsplitG ?_ ?_) <;> intro h <;> (try simp only [Bool.not_eq_true', Bool.not_eq_false'] at h) <;> replace hb0 := h) | ((first | (with_reducible refine isCall (f := 79) ?_; refine callA_nil (by kernel_rfl) ?_) | (with_reducible refine isCall0 (f := 79) ?_; refine callA0_nil (by kernel_rfl) ?_)); refine (fmt_ok u2 _ hd (okN_ofN d) (by omega) (fun M3 m3 => Stop.mk ?_))) | (refine And.intro ?ob ?_; case ob => ((try simp only [sxO, ne_eq, maxLen] at *); omega)) | fail) <;> (try simp (config := { maxSteps := 1000000 }) only [hb0, u32V, hn.one, hd.one, hd.len, hd.sl, z1, z2, hyi, Int.natCast_zero, Int.cast_ofNat_Int, bs_mk, bs_app, bs_ext, bs_size, bs_toList, bs_at, bs_cells, List.take_length, imp_ga, guard_pk, guard_pk2, ↓hold_pre, awayP, runOps, regK, step1, newK, genR, appR, obl, buildR, Value.cells, closeK, keepH, outV, retK, ret1, retC, RetV, Option.getD, runD, stepD, afterK, undef, simprocAttr, sxB, ↓sxD, sxE, sxTab]))
      rw [fmtR_128 q2]
      refine Stop.go ?_
      (replace hb0 := true_and True); refine Go1.mk ?_; repeat' ((first | (with_reducible refine Go1.go ?_) | ((with_reducible first | refine brv_mk ?_ ?_ | refine gsplitD ?_ ?_ | refine gsplitG ?_ ?_) <;> intro h <;> (try simp only [Bool.not_eq_true', Bool.not_eq_false'] at h) <;> replace hb0 := h) | (refine And.intro ?ob ?_; case ob => ((try simp only [sxO, ne_eq, maxLen] at *); omega)) | fail) <;> (try simp (config := { maxSteps := 1000000 }) only [hb0, List.length_append, List.append_assoc, bs_mk, bs_app, bs_ext, bs_size, bs_toList, bs_at, bs_cells, List.take_length, imp_ga, guard_pk, guard_pk2, ↓hold_pre, awayP, runOps, regK, step1, newK, genR, appR, obl, buildR, Value.cells, closeK, keepH, outV, retK, ret1, retC, RetV, Option.getD, runD, stepD, afterK, undef, simprocAttr, sxB, ↓sxD, sxE, sxTab]))
      exact hK _ ((m1.trans m2).trans m3)
  · have z1 : decide (((ofN d).length : Int) = 1) = false := by rw [decide_eq_false_iff_not]; omega
    rw [if_neg (fun h => hl (by rw [h, ofN_1']; rfl))] at hK
    (replace hb0 := true_and True); refine Go1.mk ?_; repeat' ((first | (with_reducible refine Go1.go ?_) | ((with_reducible first | refine brv_mk ?_ ?_ | refine gsplitD ?_ ?_ | refine gsplitG ?_ ?_) <;> intro h <;> (try simp only [Bool.not_eq_true', Bool.not_eq_false'] at h) <;> replace hb0 := h) | ((first | (with_reducible refine isCall (f := 79) ?_; refine callA_nil (by kernel_rfl) ?_) | (with_reducible refine isCall0 (f := 79) ?_; refine callA0_nil (by kernel_rfl) ?_)); refine (fmt_ok u2 _ hd (okN_ofN d) (by omega) (fun M3 m3 => Stop.mk ?_))) | (refine And.intro ?ob ?_; case ob => ((try simp only [sxO, ne_eq, maxLen] at *); omega)) | fail) <;> (try simp (config := { maxSteps := 1000000 }) only [hb0, hn.one, hd.one, hd.len, hd.sl, z1, bs_mk, bs_app, bs_ext, bs_size, bs_toList, bs_at, bs_cells, List.take_length, imp_ga, guard_pk, guard_pk2, ↓hold_pre, awayP, runOps, regK, step1, newK, genR, appR, obl, buildR, Value.cells, closeK, keepH, outV, retK, ret1, retC, RetV, Option.getD, runD, stepD, afterK, undef, simprocAttr, sxB, ↓sxD, sxE, sxTab]))
    rw [fmtR_128 q2]
    refine Stop.go ?_
    (replace hb0 := true_and True); refine Go1.mk ?_; repeat' ((first | (with_reducible refine Go1.go ?_) | ((with_reducible first | refine brv_mk ?_ ?_ | refine gsplitD ?_ ?_ | refine gsplitG ?_ ?_) <;> intro h <;> (try simp only [Bool.not_eq_true', Bool.not_eq_false'] at h) <;> replace hb0 := h) | (refine And.intro ?ob ?_; case ob => ((try simp only [sxO, ne_eq, maxLen] at *); omega)) | fail) <;> (try simp (config := { maxSteps := 1000000 }) only [hb0, List.length_append, List.append_assoc, bs_mk, bs_app, bs_ext, bs_size, bs_toList, bs_at, bs_cells, List.take_length, imp_ga, guard_pk, guard_pk2, ↓hold_pre, awayP, runOps, regK, step1, newK, genR, appR, obl, buildR, Value.cells, closeK, keepH, outV, retK, ret1, retC, RetV, Option.getD, runD, stepD, afterK, undef, simprocAttr, sxB, ↓sxD, sxE, sxTab]))
    exact hK _ ((m1.trans m2).trans m3)
theorem awake02_ok (hK : ∀ M', Mem.le M M' → K (.ext (.bool true)) [] M') : CallS Tryd.prog 18 [] [] M [] K := by
  refine inlS (cs := []) Tryd.mixed Tryd.func18 rfl (by kernel_rfl) 0 rfl rfl ?_
  simp only [Tryd.f18]
  have e1 : ofF 1 6 = (0, 1, 6) := by decide +kernel
  have e2 : ofF 1 3 = (0, 1, 3) := by decide +kernel
  have e3 : addF (ofN 1) (ofN 6) (ofN 1) (ofN 3) = (0, 1, 2) := by decide +kernel
  have e4 : fmtF (ofN 1) (ofN 2) = (0, [49, 47, 50]) := by decide +kernel
  have hs : ([49, 47, 50] == ([49, 47, 50] : List UInt8)) = true := by decide
  have sm : ∀ n, n < 10 → (ofN n).length ≤ 1 := fun n hn => ofN_len_le (by rw [show wN 1 = 4294967296 from rfl]; omega)
  have s1 := sm 1 (by decide)
  have s2 := sm 2 (by decide)
  have s3 := sm 3 (by decide)
  have s6 := sm 6 (by decide)
  (replace hb0 := true_and True); refine Go1.mk ?_; repeat' ((first | (with_reducible refine Go1.go ?_) | ((with_reducible first | refine brv_mk ?_ ?_ | refine gsplitD ?_ ?_ | refine gsplitG ?_ ?_) <;> intro h <;> (try simp only [Bool.not_eq_true', Bool.not_eq_false'] at h) <;> replace hb0 := h) | ((first | (with_reducible refine isCall (f := 13) ?_; refine callA_nil (by kernel_rfl) ?_) | (with_reducible refine isCall0 (f := 13) ?_; refine callA0_nil (by kernel_rfl) ?_)); refine (fof_ok 1 6 (by decide) (by decide) (by decide) (by decide) (fun w1 w2 M1 a1 a2 a3 a4 a5 => Stop.mk ?_))) | (refine And.intro ?ob ?_; case ob => ((try simp only [sxO, ne_eq, maxLen] at *); omega)) | fail) <;> (try simp (config := { maxSteps := 1000000 }) only [hb0, ↓hold_pre, awayP, runOps, regK, step1, newK, genR, appR, obl, buildR, Value.cells, closeK, keepH, outV, retK, ret1, retC, RetV, Option.getD, runD, stepD, afterK, undef, simprocAttr, sxB, ↓sxD, sxE, sxTab]))
  have a1 : Mem.le M M1 := a1
  rw [e1] at a2 a3 ⊢
  have a2 : IsL M1 u32V w1 (ofN 1) := a2
  have a3 : IsL M1 u32V w2 (ofN 6) := a3
  refine Stop.go ?_
  (replace hb0 := true_and True); refine Go1.mk ?_; repeat' ((first | (with_reducible refine Go1.go ?_) | ((with_reducible first | refine brv_mk ?_ ?_ | refine gsplitD ?_ ?_ | refine gsplitG ?_ ?_) <;> intro h <;> (try simp only [Bool.not_eq_true', Bool.not_eq_false'] at h) <;> replace hb0 := h) | ((first | (with_reducible refine isCall (f := 13) ?_; refine callA_nil (by kernel_rfl) ?_) | (with_reducible refine isCall0 (f := 13) ?_; refine callA0_nil (by kernel_rfl) ?_)); refine (fof_ok 1 3 (by decide) (by decide) (by decide) (by decide) (fun w3 w4 M2 b1 b2 b3 b4 b5 => Stop.mk ?_))) | (refine And.intro ?ob ?_; case ob => ((try simp only [sxO, ne_eq, maxLen] at *); omega)) | fail) <;> (try simp (config := { maxSteps := 1000000 }) only [hb0, a2.one, a3.one, ↓hold_pre, awayP, runOps, regK, step1, newK, genR, appR, obl, buildR, Value.cells, closeK, keepH, outV, retK, ret1, retC, RetV, Option.getD, runD, stepD, afterK, undef, simprocAttr, sxB, ↓sxD, sxE, sxTab]))
  have b1 : Mem.le M1 M2 := b1
  rw [e2] at b2 b3 ⊢
  have b2 : IsL M2 u32V w3 (ofN 1) := b2
  have b3 : IsL M2 u32V w4 (ofN 3) := b3
  have a2 := a2.le b1
  have a3 := a3.le b1
  refine Stop.go ?_
  (replace hb0 := true_and True); refine Go1.mk ?_; repeat' ((first | (with_reducible refine Go1.go ?_) | ((with_reducible first | refine brv_mk ?_ ?_ | refine gsplitD ?_ ?_ | refine gsplitG ?_ ?_) <;> intro h <;> (try simp only [Bool.not_eq_true', Bool.not_eq_false'] at h) <;> replace hb0 := h) | ((first | (with_reducible refine isCall (f := 22) ?_; refine callA_nil (by kernel_rfl) ?_) | (with_reducible refine isCall0 (f := 22) ?_; refine callA0_nil (by kernel_rfl) ?_)); refine (fadd_ok ⟨a2, a3, okN_ofN _, okN_ofN _, by omega, by omega⟩ ⟨b2, b3, okN_ofN _, okN_ofN _, by omega, by omega⟩ (fun w5 w6 M3 c1 c2 c3 c4 c5 => Stop.mk ?_))) | (refine And.intro ?ob ?_; case ob => ((try simp only [sxO, ne_eq, maxLen] at *); omega)) | fail) <;> (try simp (config := { maxSteps := 1000000 }) only [hb0, a2.one, a3.one, b2.one, b3.one, ↓hold_pre, awayP, runOps, regK, step1, newK, genR, appR, obl, buildR, Value.cells, closeK, keepH, outV, retK, ret1, retC, RetV, Option.getD, runD, stepD, afterK, undef, simprocAttr, sxB, ↓sxD, sxE, sxTab]))
  have c1 : Mem.le M2 M3 := c1
  rw [e3] at c2 c3 ⊢
  have c2 : IsL M3 u32V w5 (ofN 1) := c2
  have c3 : IsL M3 u32V w6 (ofN 2) := c3
  refine Stop.go ?_
  (replace hb0 := true_and True); refine Go1.mk ?_; repeat' ((first | (with_reducible refine Go1.go ?_) | ((with_reducible first | refine brv_mk ?_ ?_ | refine gsplitD ?_ ?_ | refine gsplitG ?_ ?_) <;> intro h <;> (try simp only [Bool.not_eq_true', Bool.not_eq_false'] at h) <;> replace hb0 := h) | ((first | (with_reducible refine isCall (f := 45) ?_; refine callA_nil (by kernel_rfl) ?_) | (with_reducible refine isCall0 (f := 45) ?_; refine callA0_nil (by kernel_rfl) ?_)); refine (ffmt_ok ⟨c2, c3, okN_ofN _, okN_ofN _, by omega, by omega⟩ (fun M4 d1 => Stop.mk ?_))) | (refine And.intro ?ob ?_; case ob => ((try simp only [sxO, ne_eq, maxLen] at *); omega)) | fail) <;> (try simp (config := { maxSteps := 1000000 }) only [hb0, c2.one, c3.one, bs_mk, bs_app, bs_ext, bs_size, bs_toList, bs_at, bs_cells, List.take_length, imp_ga, guard_pk, guard_pk2, ↓hold_pre, awayP, runOps, regK, step1, newK, genR, appR, obl, buildR, Value.cells, closeK, keepH, outV, retK, ret1, retC, RetV, Option.getD, runD, stepD, afterK, undef, simprocAttr, sxB, ↓sxD, sxE, sxTab]))
  rw [e4]
  refine Stop.go ?_
  (replace hb0 := true_and True); refine Go1.mk ?_; repeat' ((first | (with_reducible refine Go1.go ?_) | ((with_reducible first | refine brv_mk ?_ ?_ | refine gsplitD ?_ ?_ | refine gsplitG ?_ ?_) <;> intro h <;> (try simp only [Bool.not_eq_true', Bool.not_eq_false'] at h) <;> replace hb0 := h) | (refine And.intro ?ob ?_; case ob => ((try simp only [sxO, ne_eq, maxLen] at *); omega)) | fail) <;> (try simp (config := { maxSteps := 1000000 }) only [hb0, hs, bs_mk, bs_app, bs_ext, bs_size, bs_toList, bs_at, bs_cells, List.take_length, imp_ga, guard_pk, guard_pk2, ↓hold_pre, awayP, runOps, regK, step1, newK, genR, appR, obl, buildR, Value.cells, closeK, keepH, outV, retK, ret1, retC, RetV, Option.getD, runD, stepD, afterK, undef, simprocAttr, sxB, ↓sxD, sxE, sxTab]))
  exact hK _ (((a1.trans b1).trans c1).trans d1)
end
end Go.Proofs.YtamghpnjdohnjaaDoor.Sx
namespace Go.Proofs.YtamghpnjdohnjaaDoor.Sx
open Go Go.RowKit
set_option linter.unusedVariables false
set_option linter.unusedSimpArgs false
set_option maxRecDepth 100000
set_option maxHeartbeats 8000000
attribute [local congr] fin_congr finG_congr stepG_congr step1_congr runOps_congr brv_congr obl_congr condK_congr LoopK_congr seqK_congr CutK_congr vc_congr DrawK_congr regK_congr CallK_congr AskK_congr newK_congr retC_congr ret1_congr retK_congr outV_congr closeK_congr genR_congr appR_congr finD_congr finGD_congr stepGD_congr stepD_congr CallK0_congr runD_congr okR_congr CallS_congr vcX_congr
attribute [local congr] Stop_congr
section
variable {M : Mem} {K : AV → Hp → Mem → Prop} {u1 u2 : Value} {l1 l2 : List Nat}
def t2St (M : Mem) (w : Value) : St := { env := [(0, .ext w)], hp := [], M := M, kb := 0, fx := [] }
theorem trim02_ok (u : Value) (l : List Nat) (hu : IsL M u32V u l) (ho : okN l) (hK : ∀ w n, IsL M u32V w (ofN n) → (ofN n).length ≤ 8 → K (.ext w) [] M) : CallS Tryd.prog 59 [.ext u] [] M [] K := by
  refine inlS (cs := []) Tryd.mixed Tryd.func59 rfl (by kernel_rfl) 0 rfl rfl ?_
  simp only [Tryd.f59]
  (replace hb0 := true_and True); refine Go1.mk ?_; repeat' ((first | (with_reducible refine Go1.go ?_) | ((with_reducible first | refine brv_mk ?_ ?_ | refine gsplitD ?_ ?_ | refine gsplitG ?_ ?_) <;> intro h <;> (try simp only [Bool.not_eq_true', Bool.not_eq_false'] at h) <;> replace hb0 := h) | ((first | (with_reducible refine isCall (f := 11) ?_; refine callA_nil (by kernel_rfl) ?_) | (with_reducible refine isCall0 (f := 11) ?_; refine callA0_nil (by kernel_rfl) ?_)); refine (cut8_ok u l hu (fun u hu => Stop.mk ?_))) | (refine And.intro ?ob ?_; case ob => ((try simp only [sxO, ne_eq, maxLen] at *); omega)) | fail) <;> (try simp (config := { maxSteps := 1000000 }) only [hb0, hu.one, ↓hold_pre, awayP, runOps, regK, step1, newK, genR, appR, obl, buildR, Value.cells, closeK, keepH, outV, retK, ret1, retC, RetV, Option.getD, runD, stepD, afterK, undef, simprocAttr, sxB, ↓sxD, sxE, sxTab]))
  have ho := okN_take ho 8
  have hl : (l.take 8).length ≤ 8 := by rw [List.length_take]; omega
  generalize l.take 8 = l at *
  refine Stop.go ?_
  (replace hb0 := true_and True); refine Go1.mk ?_; repeat' ((first | (with_reducible refine Go1.go ?_) | ((with_reducible first | refine brv_mk ?_ ?_ | refine gsplitD ?_ ?_ | refine gsplitG ?_ ?_) <;> intro h <;> (try simp only [Bool.not_eq_true', Bool.not_eq_false'] at h) <;> replace hb0 := h) | (refine And.intro ?ob ?_; case ob => ((try simp only [sxO, ne_eq, maxLen] at *); omega)) | fail) <;> (try simp (config := { maxSteps := 1000000 }) only [hb0, hu.one, ↓hold_pre, awayP, runOps, regK, step1, newK, genR, appR, obl, buildR, Value.cells, closeK, keepH, outV, retK, ret1, retC, RetV, Option.getD, runD, stepD, afterK, undef, simprocAttr, sxB, ↓sxD, sxE, sxTab]))
  refine ⟨fun d z => ∃ j w, j = d ∧ j ≤ l.length ∧ (∀ i (h : i < l.length), j ≤ i → l[i] = 0) ∧ IsL M u32V w (l.take j) ∧ z = t2St M w, ⟨l.length, t2St M u, le_sub ⟨rfl, trivial⟩ trivial rfl rfl rfl (keepLt0 _), ⟨_, u, rfl, Nat.le_refl _, fun i h hi => by omega, by rw [List.take_length]; exact hu, rfl⟩⟩, ?_⟩
  clear hu
  rintro d z ⟨j, w, rfl, hj, hz, hw, rfl⟩
  have key : (∀ h : 0 < j, l[j - 1] ≠ 0) → K (.ext w) [] M := fun h => by
    have e := take_canon ho hj hz h
    rw [e] at hw
    exact hK w (valN l) hw (by rw [← e, List.length_take]; omega)
  have hlw : (l.take j).length = j := by rw [List.length_take]; omega
  have hwl := hw.len
  rw [hlw] at hwl
  by_cases hlt : 0 < j
  case neg =>
    obtain rfl : j = 0 := by omega
    have d1 : decide ((0 : Int) < ((0 : Nat) : Int)) = false := by decide
    (replace hb0 := true_and True); refine Go1.mk ?_; repeat' ((first | (with_reducible refine Go1.go ?_) | ((with_reducible first | refine brv_mk ?_ ?_ | refine gsplitD ?_ ?_ | refine gsplitG ?_ ?_) <;> intro h <;> (try simp only [Bool.not_eq_true', Bool.not_eq_false'] at h) <;> replace hb0 := h) | (refine And.intro ?ob ?_; case ob => ((try simp only [sxO, ne_eq, maxLen] at *); omega)) | fail) <;> (try simp (config := { maxSteps := 1000000 }) only [hb0, t2St, hw.one, hw.sl, hwl, d1, ↓hold_pre, awayP, runOps, regK, step1, newK, genR, appR, obl, buildR, Value.cells, closeK, keepH, outV, retK, ret1, retC, RetV, Option.getD, runD, stepD, afterK, undef, simprocAttr, sxB, ↓sxD, sxE, sxTab]))
    exact key (fun h => by omega)
  have d1 : decide ((0 : Int) < (j : Int)) = true := by simp; omega
  have w1 := pred_i hlt (by omega)
  have hi : j - 1 < (l.take j).length := by omega
  have hxi := hw.idx (P := Tryd.prog) (T := 70) tk70 tz70 (by omega) hi
  rw [hlw, List.getElem_take] at hxi
  by_cases h0 : l[j - 1] = 0
  · have d4 : decide ((l[j - 1] : Int) = 0) = true := by simp; omega
    have hs := hw.sub (Nat.zero_le (j - 1)) (by omega)
    rw [List.drop_zero, Nat.sub_zero, List.take_take, Nat.min_eq_left (by omega)] at hs
    have hcap := hw.cap
    have d5 : ((j - 1 : Nat) : Int) ≤ (scap w : Int) := by omega
    have d6 : (0 : Int) ≤ ((j - 1 : Nat) : Int) := by omega
    (replace hb0 := true_and True); refine Go1.mk ?_; repeat' ((first | (with_reducible refine Go1.go ?_) | ((with_reducible first | refine brv_mk ?_ ?_ | refine gsplitD ?_ ?_ | refine gsplitG ?_ ?_) <;> intro h <;> (try simp only [Bool.not_eq_true', Bool.not_eq_false'] at h) <;> replace hb0 := h) | (refine And.intro ?ob ?_; case ob => ((try simp only [sxO, ne_eq, maxLen] at *); omega)) | fail) <;> (try simp (config := { maxSteps := 1000000 }) only [hb0, t2St, u32V, hw.one, hw.sl, hwl, d1, w1, hxi, d4, d5, d6, hs.one, ↓hold_pre, awayP, runOps, regK, step1, newK, genR, appR, obl, buildR, Value.cells, closeK, keepH, outV, retK, ret1, retC, RetV, Option.getD, runD, stepD, afterK, undef, simprocAttr, sxB, ↓sxD, sxE, sxTab]))
    exact ⟨j - 1, t2St M _, by omega, le_sub ⟨rfl, trivial⟩ trivial rfl rfl rfl (keepLt0 _), j - 1, _, rfl, by omega, fun i h hi => by
      rcases Nat.lt_or_ge i j with h1 | h1
      · obtain rfl : i = j - 1 := by omega
        exact h0
      · exact hz i h h1, hs, rfl⟩
  · have d4 : decide ((l[j - 1] : Int) = 0) = false := by simp; omega
    (replace hb0 := true_and True); refine Go1.mk ?_; repeat' ((first | (with_reducible refine Go1.go ?_) | ((with_reducible first | refine brv_mk ?_ ?_ | refine gsplitD ?_ ?_ | refine gsplitG ?_ ?_) <;> intro h <;> (try simp only [Bool.not_eq_true', Bool.not_eq_false'] at h) <;> replace hb0 := h) | (refine And.intro ?ob ?_; case ob => ((try simp only [sxO, ne_eq, maxLen] at *); omega)) | fail) <;> (try simp (config := { maxSteps := 1000000 }) only [hb0, t2St, u32V, hw.one, hw.sl, hwl, d1, w1, hxi, d4, ↓hold_pre, awayP, runOps, regK, step1, newK, genR, appR, obl, buildR, Value.cells, closeK, keepH, outV, retK, ret1, retC, RetV, Option.getD, runD, stepD, afterK, undef, simprocAttr, sxB, ↓sxD, sxE, sxTab]))
    exact key (fun h => h0)
theorem rfmake_bor2 (k n : Nat) (T : TypeId) (L : List Nat) (hn : n = L.length) (h1 : IsL M u32V u1 l1) (o1 : okN l1) (o2 : okN L) (b1 : l1.length < 1000000) (b2 : L.length < 1000000) (hK : ∀ w1 w2 M', Mem.le M M' → IsL M' u32V w1 (ofN (makF l1 L).2.1) → IsL M' u32V w2 (ofN (makF l1 L).2.2) → FreshS M w1 → FreshS M w2 → K (.ext (.tuple #[.agg #[w1, w2], .int .i64 (makF l1 L).1])) [(k, T, cE u32V L)] M') :
    CallS Tryd.prog 12 [.ext u1, .slo k 0 n 1] [(k, T, cE u32V L)] M [] K := by
  refine CallS.bor ⟨⟨_, rfl⟩, trivial⟩ fun us M' hM hb' => ?_
  obtain ⟨v1, _, rfl, e1, v2, _, rfl, e2, rfl⟩ := hb'
  have e1 : v1 = u1 := e1
  subst e1
  have g1 := e2.isL (g := u32V) (L := L) (T := T) (by simp [lkH]) hn
  refine rfmake_ok (h1.le hM) g1 o1 o2 b1 b2 fun w1 w2 M2 a1 a2 a3 a4 a5 => ?_
  exact ⟨fun j hj => rfl, fun M3 h5 h6 _ => hK w1 w2 M3 h5 (a2.move a4 h6) (a3.move a5 h6) (a4.le hM) (a5.le hM)⟩
theorem chkF_low {n d : Nat} (h1 : (ofN n).length ≤ 128) (h2 : (ofN d).length ≤ 128) (h0 : 0 < d) : chkF (ofN (n / Nat.gcd n d)) (ofN (d / Nat.gcd n d)) = true := by
  have hg : 0 < Nat.gcd n d := Nat.gcd_pos_of_pos_right _ h0
  have a := len_mono (Nat.div_le_self n (Nat.gcd n d))
  have b := len_mono (Nat.div_le_self d (Nat.gcd n d))
  have c : d / Nat.gcd n d ≠ 0 := by
    have := Nat.div_pos (Nat.gcd_le_right n h0) hg
    omega
  have e : Nat.gcd (n / Nat.gcd n d) (d / Nat.gcd n d) = 1 := Nat.gcd_div_gcd_div_gcd_of_pos_right h0
  unfold chkF
  rw [chkN_ofN (by omega), chkN_ofN (by omega), valN_ofN, valN_ofN, decide_eq_false c, e]
  rfl
def GivK (M : Mem) (K : AV → Hp → Mem → Prop) (z : Int) : Prop := ∀ w1 w2 M' l1 l2, Mem.le M M' → IsF M' w1 w2 l1 l2 → l1.length ≤ 8 → l2.length ≤ 8 → (z.tmod 7 ≠ 3 → chkF l1 l2 = true) → K (.ext (.agg #[w1, w2])) [] M'
theorem GivK.made {z : Int} (hK : GivK M K z) {n d : Nat} {w1 w2 : Value} {M' : Mem} (hM : Mem.le M M') (h1 : (ofN n).length ≤ 8) (h2 : (ofN d).length ≤ 8) (h0 : 0 < d) (a1 : IsL M' u32V w1 (ofN (makF (ofN n) (ofN d)).2.1)) (a2 : IsL M' u32V w2 (ofN (makF (ofN n) (ofN d)).2.2)) : K (.ext (.agg #[w1, w2])) [] M' := by
  have e : makF (ofN n) (ofN d) = (0, n / Nat.gcd n d, d / Nat.gcd n d) := by
    unfold makF
    rw [chkN_ofN (by omega), chkN_ofN (by omega), Bool.and_self, if_pos rfl, valN_ofN, valN_ofN, if_neg (by omega), exF_is (by omega) (by omega)]
  rw [e] at a1 a2
  have a := len_mono (Nat.div_le_self n (Nat.gcd n d))
  have b := len_mono (Nat.div_le_self d (Nat.gcd n d))
  exact hK w1 w2 M' _ _ hM ⟨a1, a2, okN_ofN _, okN_ofN _, by simp only; omega, by simp only; omega⟩ (by simp only; omega) (by simp only; omega) (fun _ => chkF_low (by omega) (by omega) h0)
def gvSt (M : Mem) (u w : Value) : St := { env := [(7, .ext w), (6, .own 6 0), (0, .ext u)], hp := [(6, 25, [.ext (.slice none 0 0), .ext (.slice none 0 0)])], M := M, kb := 0, fx := [] }
def gwSt (M : Mem) (u : Value) : St := { env := [(7, .slo 23 0 1 1), (6, .own 6 0), (0, .ext u)], hp := [(23, 70, cE u32V [1]), (6, 25, [.ext (.slice none 0 0), .ext (.slice none 0 0)])], M := M, kb := 0, fx := [] }
theorem frac_ok (u v : Value) (x y : List Nat) (z : Int) (hu : IsL M u32V u x) (hv : IsL M u32V v y) (ox : okN x) (oy : okN y) (hK : GivK M K z) : CallS Tryd.prog 19 [.ext u, .ext v, .ext (.int .i64 z)] [] M [] K := by
  refine inlS (cs := [6]) Tryd.mixed Tryd.func19 rfl (by kernel_rfl) 0 rfl rfl ?_
  simp only [Tryd.f19]
  by_cases h3 : z.tmod 7 = 3
  · have d1 : decide (z.tmod 7 = 3) = true := by rw [decide_eq_true_eq]; exact h3
    (replace hb0 := true_and True); refine Go1.mk ?_; repeat' ((first | (with_reducible refine Go1.go ?_) | ((with_reducible first | refine brv_mk ?_ ?_ | refine gsplitD ?_ ?_ | refine gsplitG ?_ ?_) <;> intro h <;> (try simp only [Bool.not_eq_true', Bool.not_eq_false'] at h) <;> replace hb0 := h) | ((first | (with_reducible refine isCall (f := 11) ?_; refine callA_nil (by kernel_rfl) ?_) | (with_reducible refine isCall0 (f := 11) ?_; refine callA0_nil (by kernel_rfl) ?_)); refine (cut8_ok u x hu (fun a ha => Stop.mk ?_))) | (refine And.intro ?ob ?_; case ob => ((try simp only [sxO, ne_eq, maxLen] at *); omega)) | fail) <;> (try simp (config := { maxSteps := 1000000 }) only [hb0, hu.one, hv.one, d1, ↓hold_pre, awayP, runOps, regK, step1, newK, genR, appR, obl, buildR, Value.cells, closeK, keepH, outV, retK, ret1, retC, RetV, Option.getD, runD, stepD, afterK, undef, simprocAttr, sxB, ↓sxD, sxE, sxTab]))
    refine Stop.go ?_
    (replace hb0 := true_and True); refine Go1.mk ?_; repeat' ((first | (with_reducible refine Go1.go ?_) | ((with_reducible first | refine brv_mk ?_ ?_ | refine gsplitD ?_ ?_ | refine gsplitG ?_ ?_) <;> intro h <;> (try simp only [Bool.not_eq_true', Bool.not_eq_false'] at h) <;> replace hb0 := h) | ((first | (with_reducible refine isCall (f := 11) ?_; refine callA_nil (by kernel_rfl) ?_) | (with_reducible refine isCall0 (f := 11) ?_; refine callA0_nil (by kernel_rfl) ?_)); refine (cut8_ok v y hv (fun b hb => Stop.mk ?_))) | (refine And.intro ?ob ?_; case ob => ((try simp only [sxO, ne_eq, maxLen] at *); omega)) | fail) <;> (try simp (config := { maxSteps := 1000000 }) only [hb0, hu.one, hv.one, ha.one, d1, ↓hold_pre, awayP, runOps, regK, step1, newK, genR, appR, obl, buildR, Value.cells, closeK, keepH, outV, retK, ret1, retC, RetV, Option.getD, runD, stepD, afterK, undef, simprocAttr, sxB, ↓sxD, sxE, sxTab]))
    have e1 : (x.take 8).length ≤ 8 := by rw [List.length_take]; omega
    have e2 : (y.take 8).length ≤ 8 := by rw [List.length_take]; omega
    refine Stop.go ?_
    (replace hb0 := true_and True); refine Go1.mk ?_; repeat' ((first | (with_reducible refine Go1.go ?_) | ((with_reducible first | refine brv_mk ?_ ?_ | refine gsplitD ?_ ?_ | refine gsplitG ?_ ?_) <;> intro h <;> (try simp only [Bool.not_eq_true', Bool.not_eq_false'] at h) <;> replace hb0 := h) | (refine And.intro ?ob ?_; case ob => ((try simp only [sxO, ne_eq, maxLen] at *); omega)) | fail) <;> (try simp (config := { maxSteps := 1000000 }) only [hb0, hu.one, hv.one, ha.one, hb.one, d1, ↓hold_pre, awayP, runOps, regK, step1, newK, genR, appR, obl, buildR, Value.cells, closeK, keepH, outV, retK, ret1, retC, RetV, Option.getD, runD, stepD, afterK, undef, simprocAttr, sxB, ↓sxD, sxE, sxTab]))
    exact hK _ _ _ _ _ (Mem.le.refl _) ⟨ha, hb, okN_take ox 8, okN_take oy 8, by omega, by omega⟩ e1 e2 (fun h => absurd h3 h)
  have d1 : decide (z.tmod 7 = 3) = false := by rw [decide_eq_false_iff_not]; exact h3
  (replace hb0 := true_and True); refine Go1.mk ?_; repeat' ((first | (with_reducible refine Go1.go ?_) | ((with_reducible first | refine brv_mk ?_ ?_ | refine gsplitD ?_ ?_ | refine gsplitG ?_ ?_) <;> intro h <;> (try simp only [Bool.not_eq_true', Bool.not_eq_false'] at h) <;> replace hb0 := h) | ((first | (with_reducible refine isCall (f := 59) ?_; refine callA_nil (by kernel_rfl) ?_) | (with_reducible refine isCall0 (f := 59) ?_; refine callA0_nil (by kernel_rfl) ?_)); refine (trim02_ok v y hv oy (fun w d hw hwl => Stop.mk ?_))) | (refine And.intro ?ob ?_; case ob => ((try simp only [sxO, ne_eq, maxLen] at *); omega)) | fail) <;> (try simp (config := { maxSteps := 1000000 }) only [hb0, hu.one, hv.one, d1, ↓hold_pre, awayP, runOps, regK, step1, newK, genR, appR, obl, buildR, Value.cells, closeK, keepH, outV, retK, ret1, retC, RetV, Option.getD, runD, stepD, afterK, undef, simprocAttr, sxB, ↓sxD, sxE, sxTab]))
  refine Stop.go ?_
  (replace hb0 := true_and True); refine Go1.mk ?_; repeat' ((first | (with_reducible refine Go1.go ?_) | ((with_reducible first | refine brv_mk ?_ ?_ | refine gsplitD ?_ ?_ | refine gsplitG ?_ ?_) <;> intro h <;> (try simp only [Bool.not_eq_true', Bool.not_eq_false'] at h) <;> replace hb0 := h) | (refine And.intro ?ob ?_; case ob => ((try simp only [sxO, ne_eq, maxLen] at *); omega)) | fail) <;> (try simp (config := { maxSteps := 1000000 }) only [hb0, hu.one, hv.one, hw.one, ↓hold_pre, awayP, runOps, regK, step1, newK, genR, appR, obl, buildR, Value.cells, closeK, keepH, outV, retK, ret1, retC, RetV, Option.getD, runD, stepD, afterK, undef, simprocAttr, sxB, ↓sxD, sxE, sxTab]))
  refine ⟨fun s => (∃ w d, IsL M u32V w (ofN d) ∧ 0 < d ∧ (ofN d).length ≤ 8 ∧ s = gvSt M u w) ∨ s = gwSt M u, ?_, ?_⟩
  · by_cases h0 : (ofN d).length = 0
    · have d2 : decide (((ofN d).length : Int) = 0) = true := by rw [decide_eq_true_eq]; omega
      (replace hb0 := true_and True); refine Go1.mk ?_; repeat' ((first | (with_reducible refine Go1.go ?_) | ((with_reducible first | refine brv_mk ?_ ?_ | refine gsplitD ?_ ?_ | refine gsplitG ?_ ?_) <;> intro h <;> (try simp only [Bool.not_eq_true', Bool.not_eq_false'] at h) <;> replace hb0 := h) | (refine And.intro ?ob ?_; case ob => ((try simp only [sxO, ne_eq, maxLen] at *); omega)) | fail) <;> (try simp (config := { maxSteps := 1000000 }) only [hb0, hu.one, hw.one, hw.len, hw.sl, d2, ↓hold_pre, awayP, runOps, regK, step1, newK, genR, appR, obl, buildR, Value.cells, closeK, keepH, outV, retK, ret1, retC, RetV, Option.getD, runD, stepD, afterK, undef, simprocAttr, sxB, ↓sxD, sxE, sxTab]))
      exact ⟨gwSt M u, le_sub ⟨rfl, rfl, rfl, trivial⟩ ⟨rfl, rfl, trivial⟩ rfl rfl rfl (keepLt0 _), .inr rfl⟩
    · have d2 : decide (((ofN d).length : Int) = 0) = false := by rw [decide_eq_false_iff_not]; omega
      have hd0 : 0 < d := by
        rcases Nat.eq_zero_or_pos d with h | h
        · rw [h, ofN_zero] at h0; exact absurd rfl h0
        · exact h
      (replace hb0 := true_and True); refine Go1.mk ?_; repeat' ((first | (with_reducible refine Go1.go ?_) | ((with_reducible first | refine brv_mk ?_ ?_ | refine gsplitD ?_ ?_ | refine gsplitG ?_ ?_) <;> intro h <;> (try simp only [Bool.not_eq_true', Bool.not_eq_false'] at h) <;> replace hb0 := h) | (refine And.intro ?ob ?_; case ob => ((try simp only [sxO, ne_eq, maxLen] at *); omega)) | fail) <;> (try simp (config := { maxSteps := 1000000 }) only [hb0, hu.one, hw.one, hw.len, hw.sl, d2, ↓hold_pre, awayP, runOps, regK, step1, newK, genR, appR, obl, buildR, Value.cells, closeK, keepH, outV, retK, ret1, retC, RetV, Option.getD, runD, stepD, afterK, undef, simprocAttr, sxB, ↓sxD, sxE, sxTab]))
      exact ⟨gvSt M u w, le_sub ⟨rfl, rfl, rfl, trivial⟩ ⟨rfl, trivial⟩ rfl rfl rfl (keepLt0 _), .inl ⟨w, d, hw, hd0, hwl, rfl⟩⟩
  clear hw hwl
  rintro s (⟨w, d, hw, hd0, hwl, rfl⟩ | rfl)
  · (replace hb0 := true_and True); refine Go1.mk ?_; repeat' ((first | (with_reducible refine Go1.go ?_) | ((with_reducible first | refine brv_mk ?_ ?_ | refine gsplitD ?_ ?_ | refine gsplitG ?_ ?_) <;> intro h <;> (try simp only [Bool.not_eq_true', Bool.not_eq_false'] at h) <;> replace hb0 := h) | ((first | (with_reducible refine isCall (f := 59) ?_; refine callA_nil (by kernel_rfl) ?_) | (with_reducible refine isCall0 (f := 59) ?_; refine callA0_nil (by kernel_rfl) ?_)); refine (trim02_ok u x hu ox (fun w3 n hn hnl => Stop.mk ?_))) | (refine And.intro ?ob ?_; case ob => ((try simp only [sxO, ne_eq, maxLen] at *); omega)) | fail) <;> (try simp (config := { maxSteps := 1000000 }) only [hb0, gvSt, hu.one, hw.one, ↓hold_pre, awayP, runOps, regK, step1, newK, genR, appR, obl, buildR, Value.cells, closeK, keepH, outV, retK, ret1, retC, RetV, Option.getD, runD, stepD, afterK, undef, simprocAttr, sxB, ↓sxD, sxE, sxTab]))
    refine Stop.go ?_
    (replace hb0 := true_and True); refine Go1.mk ?_; repeat' ((first | (with_reducible refine Go1.go ?_) | ((with_reducible first | refine brv_mk ?_ ?_ | refine gsplitD ?_ ?_ | refine gsplitG ?_ ?_) <;> intro h <;> (try simp only [Bool.not_eq_true', Bool.not_eq_false'] at h) <;> replace hb0 := h) | ((first | (with_reducible refine isCall (f := 12) ?_; refine callA_nil (by kernel_rfl) ?_) | (with_reducible refine isCall0 (f := 12) ?_; refine callA0_nil (by kernel_rfl) ?_)); refine (rfmake_ok hn hw (okN_ofN _) (okN_ofN _) (by omega) (by omega) (fun w1 w2 M1 a1 a2 a3 a4 a5 => Stop.mk ?_))) | (refine And.intro ?ob ?_; case ob => ((try simp only [sxO, ne_eq, maxLen] at *); omega)) | fail) <;> (try simp (config := { maxSteps := 1000000 }) only [hb0, hu.one, hw.one, hn.one, ↓hold_pre, awayP, runOps, regK, step1, newK, genR, appR, obl, buildR, Value.cells, closeK, keepH, outV, retK, ret1, retC, RetV, Option.getD, runD, stepD, afterK, undef, simprocAttr, sxB, ↓sxD, sxE, sxTab]))
    refine Stop.go ?_
    (replace hb0 := true_and True); refine Go1.mk ?_; repeat' ((first | (with_reducible refine Go1.go ?_) | ((with_reducible first | refine brv_mk ?_ ?_ | refine gsplitD ?_ ?_ | refine gsplitG ?_ ?_) <;> intro h <;> (try simp only [Bool.not_eq_true', Bool.not_eq_false'] at h) <;> replace hb0 := h) | (refine And.intro ?ob ?_; case ob => ((try simp only [sxO, ne_eq, maxLen] at *); omega)) | fail) <;> (try simp (config := { maxSteps := 1000000 }) only [hb0, a2.one, a3.one, ↓hold_pre, awayP, runOps, regK, step1, newK, genR, appR, obl, buildR, Value.cells, closeK, keepH, outV, retK, ret1, retC, RetV, Option.getD, runD, stepD, afterK, undef, simprocAttr, sxB, ↓sxD, sxE, sxTab]))
    exact hK.made a1 hnl hwl hd0 a2 a3
  · (replace hb0 := true_and True); refine Go1.mk ?_; repeat' ((first | (with_reducible refine Go1.go ?_) | ((with_reducible first | refine brv_mk ?_ ?_ | refine gsplitD ?_ ?_ | refine gsplitG ?_ ?_) <;> intro h <;> (try simp only [Bool.not_eq_true', Bool.not_eq_false'] at h) <;> replace hb0 := h) | ((first | (with_reducible refine isCall (f := 59) ?_; refine callA_nil (by kernel_rfl) ?_) | (with_reducible refine isCall0 (f := 59) ?_; refine callA0_nil (by kernel_rfl) ?_)); refine (trim02_ok u x hu ox (fun w3 n hn hnl => Stop.mk ?_))) | (refine And.intro ?ob ?_; case ob => ((try simp only [sxO, ne_eq, maxLen] at *); omega)) | fail) <;> (try simp (config := { maxSteps := 1000000 }) only [hb0, gwSt, cE_ment, hasK_nil, cE_kill, cE_len, u32_one, u32_app1, u32_set, Nat.mul_one, hu.one, ↓hold_pre, awayP, runOps, regK, step1, newK, genR, appR, obl, buildR, Value.cells, closeK, keepH, outV, retK, ret1, retC, RetV, Option.getD, runD, stepD, afterK, undef, simprocAttr, sxB, ↓sxD, sxE, sxTab]))
    refine Stop.go ?_
    (replace hb0 := true_and True); refine Go1.mk ?_; repeat' ((first | (with_reducible refine Go1.go ?_) | ((with_reducible first | refine brv_mk ?_ ?_ | refine gsplitD ?_ ?_ | refine gsplitG ?_ ?_) <;> intro h <;> (try simp only [Bool.not_eq_true', Bool.not_eq_false'] at h) <;> replace hb0 := h) | ((with_reducible refine isCall (f := 12) ?_); refine callA ?_) | ((with_reducible refine isCall0 (f := 12) ?_); refine callA0 ?_) | ((with_reducible refine isCallS (f := 12) ?_); refine (rfmake_bor2 23 1 _ [1] rfl hn (okN_ofN _) (by simp [okN]) (by omega) (by simp) (fun w1 w2 M1 a1 a2 a3 a4 a5 => Stop.mk ?_))) | (refine And.intro ?ob ?_; case ob => ((try simp only [sxO, ne_eq, maxLen] at *); omega)) | fail) <;> (try simp (config := { maxSteps := 1000000 }) only [hb0, cE_ment, hasK_nil, cE_kill, cE_len, u32_one, u32_app1, u32_set, Nat.mul_one, hu.one, hn.one, ↓hold_pre, awayP, runOps, regK, step1, newK, genR, appR, obl, buildR, Value.cells, closeK, keepH, outV, retK, ret1, retC, RetV, Option.getD, runD, stepD, afterK, undef, simprocAttr, sxB, ↓sxD, sxE, sxTab]))
    rw [← ofN_1] at a2 a3
    refine Stop.go ?_
    (replace hb0 := true_and True); refine Go1.mk ?_; repeat' ((first | (with_reducible refine Go1.go ?_) | ((with_reducible first | refine brv_mk ?_ ?_ | refine gsplitD ?_ ?_ | refine gsplitG ?_ ?_) <;> intro h <;> (try simp only [Bool.not_eq_true', Bool.not_eq_false'] at h) <;> replace hb0 := h) | (refine And.intro ?ob ?_; case ob => ((try simp only [sxO, ne_eq, maxLen] at *); omega)) | fail) <;> (try simp (config := { maxSteps := 1000000 }) only [hb0, cE_ment, hasK_nil, cE_kill, cE_len, u32_one, u32_app1, u32_set, Nat.mul_one, a2.one, a3.one, ↓hold_pre, awayP, runOps, regK, step1, newK, genR, appR, obl, buildR, Value.cells, closeK, keepH, outV, retK, ret1, retC, RetV, Option.getD, runD, stepD, afterK, undef, simprocAttr, sxB, ↓sxD, sxE, sxTab]))
    exact hK.made a1 hnl (by rw [ofN_1]; decide) (by decide) a2 a3
end
end Go.Proofs.YtamghpnjdohnjaaDoor.Sx
namespace Go.Proofs.YtamghpnjdohnjaaDoor.Sx
open Go Go.RowKit
set_option linter.unusedVariables false
set_option linter.unusedSimpArgs false
set_option maxRecDepth 100000
set_option maxHeartbeats 8000000
attribute [local congr] fin_congr finG_congr stepG_congr step1_congr runOps_congr brv_congr obl_congr condK_congr LoopK_congr seqK_congr CutK_congr vc_congr DrawK_congr regK_congr CallK_congr AskK_congr newK_congr retC_congr ret1_congr retK_congr outV_congr closeK_congr genR_congr appR_congr finD_congr finGD_congr stepGD_congr stepD_congr CallK0_congr runD_congr okR_congr CallS_congr vcX_congr
attribute [local congr] Stop_congr
def dgT (b : UInt8) : Bool := decide (48 ≤ b.toNat) && decide (b.toNat ≤ 57)
theorem dgT_is {b : UInt8} : dgT b = true ↔ isDg b := by simp [dgT, isDg]
def tens : List UInt8 := [48, 49, 50, 51, 52, 53, 54, 55, 56, 57]
theorem tens_at : ∀ {i : Nat}, i < 10 → (tens.getD i 0).toNat = 48 + i := fun {i} h => by
  have : ∀ j : Fin 10, (tens.getD j.val 0).toNat = 48 + j.val := by decide
  exact this ⟨i, h⟩
theorem par48 : parC dgT (48 + 0) = z256 := by
  rw [← par_zero dgT]
  unfold parC
  congr 1
  funext c
  by_cases h : c.toNat < 48
  · have : dgT c = false := by simp [dgT]; omega
    rw [this]; simp
  · have : decide (c.toNat < 48 + 0) = false := by simp; omega
    rw [this]; simp
theorem par58 : parC dgT (48 + 10) = clsC dgT := by
  unfold parC
  congr 1
  funext c
  by_cases h : c.toNat ≤ 57
  · have : decide (c.toNat < 48 + 10) = true := by simp; omega
    rw [this]; simp
  · have : dgT c = false := by simp [dgT]; omega
    rw [this]; simp
theorem dropWhile_nil {p : UInt8 → Bool} : ∀ {l : List UInt8}, l.dropWhile p = [] → ∀ b ∈ l, p b = true
  | [], _, b, hb => by cases hb
  | c :: r, h, b, hb => by
    rw [List.dropWhile_cons] at h
    cases hc : p c with
    | true =>
      rw [hc] at h
      rcases List.mem_cons.1 hb with h1 | h1
      · rw [h1]; exact hc
      · exact dropWhile_nil (by simpa using h) b h1
    | false => rw [hc] at h; simp at h
section
variable {M : Mem} {K : AV → Hp → Mem → Prop}
def maSt (M : Mem) (i : Nat) : St := { env := [(4, .ext (.int .i64 (i : Int))), (2, .own 2 0), (0, .ext (.string (bs tens)))], hp := [(2, 129, parC dgT (48 + i))], M := M, kb := 0, fx := [] }
theorem makeSet_ok (hK : K (.ext (.tuple #[clsV dgT, .bool true])) [] M) : CallS Tryd.prog 119 [.ext (.string (bs tens))] [] M [] K := by
  refine inlS (cs := []) Tryd.mixed Tryd.func119 rfl (by kernel_rfl) 0 rfl rfl ?_
  simp only [Tryd.f119]
  have q10 : (tens.length : Int) = 10 := rfl
  (replace hb0 := true_and True); refine Go1.mk ?_; repeat' ((first | (with_reducible refine Go1.go ?_) | ((with_reducible first | refine brv_mk ?_ ?_ | refine gsplitD ?_ ?_ | refine gsplitG ?_ ?_) <;> intro h <;> (try simp only [Bool.not_eq_true', Bool.not_eq_false'] at h) <;> replace hb0 := h) | (refine And.intro ?ob ?_; case ob => ((try simp only [sxO, ne_eq, maxLen] at *); omega)) | fail) <;> (try simp (config := { maxSteps := 1000000 }) only [hb0, cls_len, cls_take, cls_drop, cls_agg, cls_cellsG, cls_cellsA, cls_one, cls_ment, cls_kill, z256_def, z256_len, z256_drop, z256_ment, par_len, par_ment, Nat.mul_one, imp_ga, guard_pk, guard_pk2, bs_mk, bs_app, bs_ext, bs_size, bs_toList, bs_at, bs_cells, List.take_length, imp_ga, guard_pk, guard_pk2, ↓hold_pre, awayP, runOps, regK, step1, newK, genR, appR, obl, buildR, Value.cells, closeK, keepH, outV, retK, ret1, retC, RetV, Option.getD, runD, stepD, afterK, undef, simprocAttr, sxB, ↓sxD, sxE, sxTab]))
  refine ⟨fun m z => ∃ i, i ≤ 10 ∧ m = 10 - i ∧ z = maSt M i, ⟨10, maSt M 0, le_sub ⟨rfl, rfl, rfl, trivial⟩ ⟨by rw [par48]; rfl, trivial⟩ rfl rfl rfl (keepLt0 _), ⟨0, by omega, rfl, rfl⟩⟩, ?_⟩
  rintro m z ⟨i, hi, rfl, rfl⟩
  by_cases hlt : i < 10
  · have d1 : decide ((i : Int) < 10) = true := by simp; omega
    have g1 := tens_at hlt
    have a1 : (0 : Int) ≤ (i : Int) := by omega
    have a2 : (i : Int) < 10 := by omega
    have a3 : (0 : Int) ≤ ((48 + i : Nat) : Int) := by omega
    have a4 : ((48 + i : Nat) : Int) < 256 := by omega
    have d2 : decide ((128 : Int) ≤ ((48 + i : Nat) : Int)) = false := by rw [decide_eq_false_iff_not]; omega
    have s1 : (parC dgT (48 + i)).set (48 + i) (.ext (.bool true)) = parC dgT (48 + (i + 1)) := par_set _ (by omega) _ (by
      have e : (UInt8.ofNat (48 + i)).toNat = 48 + i := by simp; omega
      unfold dgT
      rw [e]; simp; omega)
    have w2 : IntKind.i64.wrap ((i : Int) + 1) = ((i + 1 : Nat) : Int) := by rw [wrap_id (by omega) (by omega)]; omega
    (replace hb0 := true_and True); refine Go1.mk ?_; repeat' ((first | (with_reducible refine Go1.go ?_) | ((with_reducible first | refine brv_mk ?_ ?_ | refine gsplitD ?_ ?_ | refine gsplitG ?_ ?_) <;> intro h <;> (try simp only [Bool.not_eq_true', Bool.not_eq_false'] at h) <;> replace hb0 := h) | (refine And.intro ?ob ?_; case ob => ((try simp only [sxO, ne_eq, maxLen] at *); omega)) | fail) <;> (try simp (config := { maxSteps := 1000000 }) only [hb0, maSt, q10, d1, g1, a1, a2, a3, a4, d2, s1, w2, cls_len, cls_take, cls_drop, cls_agg, cls_cellsG, cls_cellsA, cls_one, cls_ment, cls_kill, z256_def, z256_len, z256_drop, z256_ment, par_len, par_ment, Nat.mul_one, imp_ga, guard_pk, guard_pk2, bs_mk, bs_app, bs_ext, bs_size, bs_toList, bs_at, bs_cells, List.take_length, imp_ga, guard_pk, guard_pk2, ↓hold_pre, awayP, runOps, regK, step1, newK, genR, appR, obl, buildR, Value.cells, closeK, keepH, outV, retK, ret1, retC, RetV, Option.getD, runD, stepD, afterK, undef, simprocAttr, sxB, ↓sxD, sxE, sxTab]))
    exact ⟨10 - (i + 1), maSt M (i + 1), by omega, le_sub ⟨rfl, rfl, rfl, trivial⟩ ⟨rfl, trivial⟩ rfl rfl rfl (keepLt0 _), i + 1, by omega, rfl, rfl⟩
  · obtain rfl : i = 10 := by omega
    have d1 : decide (((10 : Nat) : Int) < 10) = false := by decide
    have e58 := par58
    (replace hb0 := true_and True); refine Go1.mk ?_; repeat' ((first | (with_reducible refine Go1.go ?_) | ((with_reducible first | refine brv_mk ?_ ?_ | refine gsplitD ?_ ?_ | refine gsplitG ?_ ?_) <;> intro h <;> (try simp only [Bool.not_eq_true', Bool.not_eq_false'] at h) <;> replace hb0 := h) | (refine And.intro ?ob ?_; case ob => ((try simp only [sxO, ne_eq, maxLen] at *); omega)) | fail) <;> (try simp (config := { maxSteps := 1000000 }) only [hb0, maSt, q10, d1, e58, cls_len, cls_take, cls_drop, cls_agg, cls_cellsG, cls_cellsA, cls_one, cls_ment, cls_kill, z256_def, z256_len, z256_drop, z256_ment, par_len, par_ment, Nat.mul_one, imp_ga, guard_pk, guard_pk2, bs_mk, bs_app, bs_ext, bs_size, bs_toList, bs_at, bs_cells, List.take_length, imp_ga, guard_pk, guard_pk2, ↓hold_pre, awayP, runOps, regK, step1, newK, genR, appR, obl, buildR, Value.cells, closeK, keepH, outV, retK, ret1, retC, RetV, Option.getD, runD, stepD, afterK, undef, simprocAttr, sxB, ↓sxD, sxE, sxTab]))
    exact hK
def tlaSt (M : Mem) (r : List UInt8) : St := { env := [(0, .ext (.string (bs r))), (1, .own 5 0)], hp := [(5, 129, clsC dgT)], M := M, kb := 6, fx := [5] }
theorem trimLA_ok (l : List UInt8) (hb : l.length < 1000000000) (hK : K (.ext (.string (bs (l.dropWhile dgT)))) [(5, 129, clsC dgT)] M) : CallS Tryd.prog 120 [.ext (.string (bs l)), .own 5 0] [(5, 129, clsC dgT)] M [] K := by
  refine inlS (cs := []) Tryd.mixed Tryd.func120 rfl (by kernel_rfl) 6 rfl rfl ?_
  simp only [Tryd.f120]
  (replace hb0 := true_and True); refine Go1.mk ?_; repeat' ((first | (with_reducible refine Go1.go ?_) | ((with_reducible first | refine brv_mk ?_ ?_ | refine gsplitD ?_ ?_ | refine gsplitG ?_ ?_) <;> intro h <;> (try simp only [Bool.not_eq_true', Bool.not_eq_false'] at h) <;> replace hb0 := h) | (refine And.intro ?ob ?_; case ob => ((try simp only [sxO, ne_eq, maxLen] at *); omega)) | fail) <;> (try simp (config := { maxSteps := 1000000 }) only [hb0, cls_len, cls_take, cls_drop, cls_agg, cls_cellsG, cls_cellsA, cls_one, cls_ment, cls_kill, z256_def, z256_len, z256_drop, z256_ment, par_len, par_ment, Nat.mul_one, imp_ga, guard_pk, guard_pk2, bs_mk, bs_app, bs_ext, bs_size, bs_toList, bs_at, bs_cells, List.take_length, imp_ga, guard_pk, guard_pk2, ↓hold_pre, awayP, runOps, regK, step1, newK, genR, appR, obl, buildR, Value.cells, closeK, keepH, outV, retK, ret1, retC, RetV, Option.getD, runD, stepD, afterK, undef, simprocAttr, sxB, ↓sxD, sxE, sxTab]))
  refine ⟨fun d z => ∃ r, r.length = d ∧ r.length ≤ l.length ∧ r.dropWhile dgT = l.dropWhile dgT ∧ z = tlaSt M r, ⟨l.length, tlaSt M l, le_sub ⟨rfl, rfl, trivial⟩ ⟨rfl, trivial⟩ rfl rfl rfl (by simp [keepLt, tlaSt, lkH]), ⟨l, rfl, Nat.le_refl _, rfl, rfl⟩⟩, ?_⟩
  rintro d z ⟨r, rfl, hr, hd, rfl⟩
  cases r with
  | nil =>
    have d1 : decide ((0 : Int) < ((0 : Nat) : Int)) = false := by decide
    rw [← hd] at hK
    (replace hb0 := true_and True); refine Go1.mk ?_; repeat' ((first | (with_reducible refine Go1.go ?_) | ((with_reducible first | refine brv_mk ?_ ?_ | refine gsplitD ?_ ?_ | refine gsplitG ?_ ?_) <;> intro h <;> (try simp only [Bool.not_eq_true', Bool.not_eq_false'] at h) <;> replace hb0 := h) | (refine And.intro ?ob ?_; case ob => ((try simp only [sxO, ne_eq, maxLen] at *); omega)) | fail) <;> (try simp (config := { maxSteps := 1000000 }) only [hb0, tlaSt, d1, cls_len, cls_take, cls_drop, cls_agg, cls_cellsG, cls_cellsA, cls_one, cls_ment, cls_kill, z256_def, z256_len, z256_drop, z256_ment, par_len, par_ment, Nat.mul_one, imp_ga, guard_pk, guard_pk2, bs_mk, bs_app, bs_ext, bs_size, bs_toList, bs_at, bs_cells, List.take_length, imp_ga, guard_pk, guard_pk2, ↓hold_pre, awayP, runOps, regK, step1, newK, genR, appR, obl, buildR, Value.cells, closeK, keepH, outV, retK, ret1, retC, RetV, Option.getD, runD, stepD, afterK, undef, simprocAttr, sxB, ↓sxD, sxE, sxTab]))
    exact hK
  | cons b t =>
    have hlt : (b :: t).length = t.length + 1 := rfl
    have d1 : decide ((0 : Int) < ((t.length + 1 : Nat) : Int)) = true := by rw [decide_eq_true_eq]; omega
    have d0 : (0 : Int) < ((t.length + 1 : Nat) : Int) := by omega
    have g0 : (b :: t).getD 0 0 = b := rfl
    have i1 : (1 : Int).toNat = 1 := rfl
    have c1 := cls_at dgT b
    have a3 : (0 : Int) ≤ (b.toNat : Int) := by omega
    have a4 : (b.toNat : Int) < 256 := by have := b.toNat_lt; omega
    cases hp : dgT b with
    | true =>
      rw [hp] at c1
      have d3 : (1 : Int) ≤ ((t.length + 1 : Nat) : Int) := by omega
      (replace hb0 := true_and True); refine Go1.mk ?_; repeat' ((first | (with_reducible refine Go1.go ?_) | ((with_reducible first | refine brv_mk ?_ ?_ | refine gsplitD ?_ ?_ | refine gsplitG ?_ ?_) <;> intro h <;> (try simp only [Bool.not_eq_true', Bool.not_eq_false'] at h) <;> replace hb0 := h) | ((first | ((with_reducible refine isCall (f := 127) ?_); refine inlK (cs := []) (f := 127) Tryd.mixed Tryd.func127 rfl (by kernel_rfl) 100 rfl (by kernel_rfl) ?_) | ((with_reducible refine isCall0 (f := 127) ?_); refine inlK0 (cs := []) (f := 127) Tryd.mixed Tryd.func127 rfl (by kernel_rfl) 100 rfl (by kernel_rfl) ?_)); simp only [Tryd.f127]) | (refine And.intro ?ob ?_; case ob => ((try simp only [sxO, ne_eq, maxLen] at *); omega)) | fail) <;> (try simp (config := { maxSteps := 1000000 }) only [hb0, tlaSt, hlt, d0, d1, d3, g0, i1, c1, a3, a4, cls_len, cls_take, cls_drop, cls_agg, cls_cellsG, cls_cellsA, cls_one, cls_ment, cls_kill, z256_def, z256_len, z256_drop, z256_ment, par_len, par_ment, Nat.mul_one, imp_ga, guard_pk, guard_pk2, bs_mk, bs_app, bs_ext, bs_size, bs_toList, bs_at, bs_cells, List.take_length, imp_ga, guard_pk, guard_pk2, ↓hold_pre, awayP, runOps, regK, step1, newK, genR, appR, obl, buildR, Value.cells, closeK, keepH, outV, retK, ret1, retC, RetV, Option.getD, runD, stepD, afterK, undef, simprocAttr, sxB, ↓sxD, sxE, sxTab]))
      exact ⟨t.length, tlaSt M t, by omega, le_sub ⟨rfl, rfl, trivial⟩ ⟨rfl, trivial⟩ rfl rfl rfl (by simp [keepLt, tlaSt, lkH]), t, rfl, by rw [hlt] at hr; omega, by rw [← hd, List.dropWhile_cons, hp]; rfl, rfl⟩
    | false =>
      rw [hp] at c1
      rw [← hd, List.dropWhile_cons, hp] at hK
      (replace hb0 := true_and True); refine Go1.mk ?_; repeat' ((first | (with_reducible refine Go1.go ?_) | ((with_reducible first | refine brv_mk ?_ ?_ | refine gsplitD ?_ ?_ | refine gsplitG ?_ ?_) <;> intro h <;> (try simp only [Bool.not_eq_true', Bool.not_eq_false'] at h) <;> replace hb0 := h) | ((first | ((with_reducible refine isCall (f := 127) ?_); refine inlK (cs := []) (f := 127) Tryd.mixed Tryd.func127 rfl (by kernel_rfl) 100 rfl (by kernel_rfl) ?_) | ((with_reducible refine isCall0 (f := 127) ?_); refine inlK0 (cs := []) (f := 127) Tryd.mixed Tryd.func127 rfl (by kernel_rfl) 100 rfl (by kernel_rfl) ?_)); simp only [Tryd.f127]) | (refine And.intro ?ob ?_; case ob => ((try simp only [sxO, ne_eq, maxLen] at *); omega)) | fail) <;> (try simp (config := { maxSteps := 1000000 }) only [hb0, tlaSt, hlt, d0, d1, g0, i1, c1, a3, a4, cls_len, cls_take, cls_drop, cls_agg, cls_cellsG, cls_cellsA, cls_one, cls_ment, cls_kill, z256_def, z256_len, z256_drop, z256_ment, par_len, par_ment, Nat.mul_one, imp_ga, guard_pk, guard_pk2, bs_mk, bs_app, bs_ext, bs_size, bs_toList, bs_at, bs_cells, List.take_length, imp_ga, guard_pk, guard_pk2, ↓hold_pre, awayP, runOps, regK, step1, newK, genR, appR, obl, buildR, Value.cells, closeK, keepH, outV, retK, ret1, retC, RetV, Option.getD, runD, stepD, afterK, undef, simprocAttr, sxB, ↓sxD, sxE, sxTab]))
      exact hK
def traSt (M : Mem) (r : List UInt8) : St := { env := [(0, .ext (.string (bs r))), (1, .own 5 0)], hp := [(5, 129, clsC dgT)], M := M, kb := 6, fx := [5] }
theorem trimRA_ok (l : List UInt8) (hb : l.length < 1000000000) (hK : ∀ r t, r ++ t = l → (∀ b ∈ t, dgT b = true) → (∀ q b, r = q ++ [b] → dgT b = false) → K (.ext (.string (bs r))) [(5, 129, clsC dgT)] M) : CallS Tryd.prog 125 [.ext (.string (bs l)), .own 5 0] [(5, 129, clsC dgT)] M [] K := by
  refine inlS (cs := []) Tryd.mixed Tryd.func125 rfl (by kernel_rfl) 6 rfl rfl ?_
  simp only [Tryd.f125]
  (replace hb0 := true_and True); refine Go1.mk ?_; repeat' ((first | (with_reducible refine Go1.go ?_) | ((with_reducible first | refine brv_mk ?_ ?_ | refine gsplitD ?_ ?_ | refine gsplitG ?_ ?_) <;> intro h <;> (try simp only [Bool.not_eq_true', Bool.not_eq_false'] at h) <;> replace hb0 := h) | (refine And.intro ?ob ?_; case ob => ((try simp only [sxO, ne_eq, maxLen] at *); omega)) | fail) <;> (try simp (config := { maxSteps := 1000000 }) only [hb0, cls_len, cls_take, cls_drop, cls_agg, cls_cellsG, cls_cellsA, cls_one, cls_ment, cls_kill, z256_def, z256_len, z256_drop, z256_ment, par_len, par_ment, Nat.mul_one, imp_ga, guard_pk, guard_pk2, bs_mk, bs_app, bs_ext, bs_size, bs_toList, bs_at, bs_cells, List.take_length, imp_ga, guard_pk, guard_pk2, ↓hold_pre, awayP, runOps, regK, step1, newK, genR, appR, obl, buildR, Value.cells, closeK, keepH, outV, retK, ret1, retC, RetV, Option.getD, runD, stepD, afterK, undef, simprocAttr, sxB, ↓sxD, sxE, sxTab]))
  refine ⟨fun d z => ∃ r t, r.length = d ∧ r ++ t = l ∧ (∀ b ∈ t, dgT b = true) ∧ z = traSt M r, ⟨l.length, traSt M l, le_sub ⟨rfl, rfl, trivial⟩ ⟨rfl, trivial⟩ rfl rfl rfl (by simp [keepLt, traSt, lkH]), ⟨l, [], rfl, by simp, by simp, rfl⟩⟩, ?_⟩
  rintro d z ⟨r, t, rfl, hrt, ht, rfl⟩
  have hrl : r.length ≤ l.length := by rw [← hrt, List.length_append]; omega
  rcases list_snoc r with rfl | ⟨q, b, rfl⟩
  · have d1 : decide ((0 : Int) < ((0 : Nat) : Int)) = false := by decide
    have n0 : ([] : List UInt8).length = 0 := rfl
    (replace hb0 := true_and True); refine Go1.mk ?_; repeat' ((first | (with_reducible refine Go1.go ?_) | ((with_reducible first | refine brv_mk ?_ ?_ | refine gsplitD ?_ ?_ | refine gsplitG ?_ ?_) <;> intro h <;> (try simp only [Bool.not_eq_true', Bool.not_eq_false'] at h) <;> replace hb0 := h) | (refine And.intro ?ob ?_; case ob => ((try simp only [sxO, ne_eq, maxLen] at *); omega)) | fail) <;> (try simp (config := { maxSteps := 1000000 }) only [hb0, traSt, n0, d1, cls_len, cls_take, cls_drop, cls_agg, cls_cellsG, cls_cellsA, cls_one, cls_ment, cls_kill, z256_def, z256_len, z256_drop, z256_ment, par_len, par_ment, Nat.mul_one, imp_ga, guard_pk, guard_pk2, bs_mk, bs_app, bs_ext, bs_size, bs_toList, bs_at, bs_cells, List.take_length, imp_ga, guard_pk, guard_pk2, ↓hold_pre, awayP, runOps, regK, step1, newK, genR, appR, obl, buildR, Value.cells, closeK, keepH, outV, retK, ret1, retC, RetV, Option.getD, runD, stepD, afterK, undef, simprocAttr, sxB, ↓sxD, sxE, sxTab]))
    exact hK _ _ hrt ht (fun q b h => by simp at h)
  · have hlt : (q ++ [b]).length = q.length + 1 := by simp
    have d1 : decide ((0 : Int) < ((q.length + 1 : Nat) : Int)) = true := by rw [decide_eq_true_eq]; omega
    have d0 : (q.length : Int) < ((q.length + 1 : Nat) : Int) := by omega
    have d2 : (0 : Int) ≤ (q.length : Int) := by omega
    have d3 : (q.length : Int) ≤ ((q.length + 1 : Nat) : Int) := by omega
    have w1 : IntKind.i64.wrap (((q.length + 1 : Nat) : Int) - 1) = (q.length : Int) := by rw [wrap_id (by omega) (by omega)]; omega
    have g0 : (q ++ [b]).getD q.length 0 = b := by simp [List.getD_eq_getElem?_getD]
    have t0 : (q ++ [b]).take q.length = q := by simp
    have c1 := cls_at dgT b
    have a3 : (0 : Int) ≤ (b.toNat : Int) := by omega
    have a4 : (b.toNat : Int) < 256 := by have := b.toNat_lt; omega
    cases hp : dgT b with
    | true =>
      rw [hp] at c1
      (replace hb0 := true_and True); refine Go1.mk ?_; repeat' ((first | (with_reducible refine Go1.go ?_) | ((with_reducible first | refine brv_mk ?_ ?_ | refine gsplitD ?_ ?_ | refine gsplitG ?_ ?_) <;> intro h <;> (try simp only [Bool.not_eq_true', Bool.not_eq_false'] at h) <;> replace hb0 := h) | ((first | ((with_reducible refine isCall (f := 127) ?_); refine inlK (cs := []) (f := 127) Tryd.mixed Tryd.func127 rfl (by kernel_rfl) 100 rfl (by kernel_rfl) ?_) | ((with_reducible refine isCall0 (f := 127) ?_); refine inlK0 (cs := []) (f := 127) Tryd.mixed Tryd.func127 rfl (by kernel_rfl) 100 rfl (by kernel_rfl) ?_)); simp only [Tryd.f127]) | (refine And.intro ?ob ?_; case ob => ((try simp only [sxO, ne_eq, maxLen] at *); omega)) | fail) <;> (try simp (config := { maxSteps := 1000000 }) only [hb0, traSt, hlt, d0, d1, d2, d3, w1, g0, t0, c1, a3, a4, cls_len, cls_take, cls_drop, cls_agg, cls_cellsG, cls_cellsA, cls_one, cls_ment, cls_kill, z256_def, z256_len, z256_drop, z256_ment, par_len, par_ment, Nat.mul_one, imp_ga, guard_pk, guard_pk2, bs_mk, bs_app, bs_ext, bs_size, bs_toList, bs_at, bs_cells, List.take_length, imp_ga, guard_pk, guard_pk2, ↓hold_pre, awayP, runOps, regK, step1, newK, genR, appR, obl, buildR, Value.cells, closeK, keepH, outV, retK, ret1, retC, RetV, Option.getD, runD, stepD, afterK, undef, simprocAttr, sxB, ↓sxD, sxE, sxTab]))
      exact ⟨q.length, traSt M q, by omega, le_sub ⟨rfl, rfl, trivial⟩ ⟨rfl, trivial⟩ rfl rfl rfl (by simp [keepLt, traSt, lkH]), q, b :: t, rfl, by rw [← hrt]; simp, fun c hc => by
        rcases List.mem_cons.1 hc with h | h
        · rw [h]; exact hp
        · exact ht c h, rfl⟩
    | false =>
      rw [hp] at c1
      (replace hb0 := true_and True); refine Go1.mk ?_; repeat' ((first | (with_reducible refine Go1.go ?_) | ((with_reducible first | refine brv_mk ?_ ?_ | refine gsplitD ?_ ?_ | refine gsplitG ?_ ?_) <;> intro h <;> (try simp only [Bool.not_eq_true', Bool.not_eq_false'] at h) <;> replace hb0 := h) | ((first | ((with_reducible refine isCall (f := 127) ?_); refine inlK (cs := []) (f := 127) Tryd.mixed Tryd.func127 rfl (by kernel_rfl) 100 rfl (by kernel_rfl) ?_) | ((with_reducible refine isCall0 (f := 127) ?_); refine inlK0 (cs := []) (f := 127) Tryd.mixed Tryd.func127 rfl (by kernel_rfl) 100 rfl (by kernel_rfl) ?_)); simp only [Tryd.f127]) | (refine And.intro ?ob ?_; case ob => ((try simp only [sxO, ne_eq, maxLen] at *); omega)) | fail) <;> (try simp (config := { maxSteps := 1000000 }) only [hb0, traSt, hlt, d0, d1, d2, d3, w1, g0, t0, c1, a3, a4, cls_len, cls_take, cls_drop, cls_agg, cls_cellsG, cls_cellsA, cls_one, cls_ment, cls_kill, z256_def, z256_len, z256_drop, z256_ment, par_len, par_ment, Nat.mul_one, imp_ga, guard_pk, guard_pk2, bs_mk, bs_app, bs_ext, bs_size, bs_toList, bs_at, bs_cells, List.take_length, imp_ga, guard_pk, guard_pk2, ↓hold_pre, awayP, runOps, regK, step1, newK, genR, appR, obl, buildR, Value.cells, closeK, keepH, outV, retK, ret1, retC, RetV, Option.getD, runD, stepD, afterK, undef, simprocAttr, sxB, ↓sxD, sxE, sxTab]))
      exact hK _ _ hrt ht (fun q' b' h => by
        have := List.append_inj_right' h (by simp)
        simp at this
        rw [← this]; exact hp)
theorem strTrim_ok (l : List UInt8) (hb : l.length < 1000000000) (hK : ∀ r, (r = [] ↔ ∀ b ∈ l, dgT b = true) → K (.ext (.string (bs r))) [] M) : CallS Tryd.prog 111 [.ext (.string (bs l)), .ext (.string (bs tens))] [] M [] K := by
  refine inlS (cs := []) Tryd.mixed Tryd.func111 rfl (by kernel_rfl) 0 rfl rfl ?_
  simp only [Tryd.f111]
  have c1 : (tens == []) = false := rfl
  have q10 : (tens.length : Int) = 10 := rfl
  by_cases hl : l = []
  · subst hl
    have c2 : (([] : List UInt8) == []) = true := rfl
    (replace hb0 := true_and True); refine Go1.mk ?_; repeat' ((first | (with_reducible refine Go1.go ?_) | ((with_reducible first | refine brv_mk ?_ ?_ | refine gsplitD ?_ ?_ | refine gsplitG ?_ ?_) <;> intro h <;> (try simp only [Bool.not_eq_true', Bool.not_eq_false'] at h) <;> replace hb0 := h) | ((with_reducible refine isDraw [some 22, some 23, some 24, some 25, some 26, some 27, some 28, some 4] (by decide) ?_); refine draw_rule [(0, []), (1, []), (2, []), (4, []), (5, []), (3, []), (6, []), (7, [])] [[], [], [1], [0, 1, 2], [], [4], [0, 1, 2, 3, 4, 5], [0, 1, 2, 3, 4, 5, 6]] [22, 23, 24, 25, 26, 27] [] (by kernel_rfl) (by kernel_rfl) (by kernel_rfl) (by kernel_rfl) (by exact trivial) ?_) | (refine And.intro ?ob ?_; case ob => ((try simp only [sxO, ne_eq, maxLen] at *); omega)) | fail) <;> (try simp (config := { maxSteps := 1000000 }) only [hb0, c1, c2, cls_len, cls_take, cls_drop, cls_agg, cls_cellsG, cls_cellsA, cls_one, cls_ment, cls_kill, z256_def, z256_len, z256_drop, z256_ment, par_len, par_ment, Nat.mul_one, imp_ga, guard_pk, guard_pk2, bs_mk, bs_app, bs_ext, bs_size, bs_toList, bs_at, bs_cells, List.take_length, imp_ga, guard_pk, guard_pk2, ↓hold_pre, awayP, runOps, regK, step1, newK, genR, appR, obl, buildR, Value.cells, closeK, keepH, outV, retK, ret1, retC, RetV, Option.getD, runD, stepD, afterK, undef, simprocAttr, sxB, ↓sxD, sxE, sxTab]))
    exact hK [] (by simp)
  have c2 : (l == []) = false := by simpa using hl
  (replace hb0 := true_and True); refine Go1.mk ?_; repeat' ((first | (with_reducible refine Go1.go ?_) | ((with_reducible first | refine brv_mk ?_ ?_ | refine gsplitD ?_ ?_ | refine gsplitG ?_ ?_) <;> intro h <;> (try simp only [Bool.not_eq_true', Bool.not_eq_false'] at h) <;> replace hb0 := h) | ((first | (with_reducible refine isCall (f := 119) ?_; refine callA_nil (by kernel_rfl) ?_) | (with_reducible refine isCall0 (f := 119) ?_; refine callA0_nil (by kernel_rfl) ?_)); refine (makeSet_ok ?_)) | ((with_reducible refine isCall (f := 125) ?_); refine callA ?_) | ((with_reducible refine isCall0 (f := 125) ?_); refine callA0 ?_) | ((with_reducible refine isCallS (f := 125) ?_); refine (trimRA_ok l hb (fun r t h1 h2 h3 => Stop.mk ?_))) | ((with_reducible refine isDraw [some 22, some 23, some 24, some 25, some 26, some 27, some 28, some 4] (by decide) ?_); refine draw_rule [(0, []), (1, []), (2, []), (4, []), (5, []), (3, []), (6, []), (7, [])] [[], [], [1], [0, 1, 2], [], [4], [0, 1, 2, 3, 4, 5], [0, 1, 2, 3, 4, 5, 6]] [22, 23, 24, 25, 26, 27] [] (by kernel_rfl) (by kernel_rfl) (by kernel_rfl) (by kernel_rfl) (by exact trivial) ?_) | (refine And.intro ?ob ?_; case ob => ((try simp only [sxO, ne_eq, maxLen] at *); omega)) | fail) <;> (try simp (config := { maxSteps := 1000000 }) only [hb0, c1, c2, q10, cls_len, cls_take, cls_drop, cls_agg, cls_cellsG, cls_cellsA, cls_one, cls_ment, cls_kill, z256_def, z256_len, z256_drop, z256_ment, par_len, par_ment, Nat.mul_one, imp_ga, guard_pk, guard_pk2, bs_mk, bs_app, bs_ext, bs_size, bs_toList, bs_at, bs_cells, List.take_length, imp_ga, guard_pk, guard_pk2, ↓hold_pre, awayP, runOps, regK, step1, newK, genR, appR, obl, buildR, Value.cells, closeK, keepH, outV, retK, ret1, retC, RetV, Option.getD, runD, stepD, afterK, undef, simprocAttr, sxB, ↓sxD, sxE, sxTab]))
  have hrl : r.length < 1000000000 := by
    have := congrArg List.length h1
    rw [List.length_append] at this; omega
  refine Stop.go ?_
  (replace hb0 := true_and True); refine Go1.mk ?_; repeat' ((first | (with_reducible refine Go1.go ?_) | ((with_reducible first | refine brv_mk ?_ ?_ | refine gsplitD ?_ ?_ | refine gsplitG ?_ ?_) <;> intro h <;> (try simp only [Bool.not_eq_true', Bool.not_eq_false'] at h) <;> replace hb0 := h) | ((with_reducible refine isCall (f := 120) ?_); refine callA ?_) | ((with_reducible refine isCall0 (f := 120) ?_); refine callA0 ?_) | ((with_reducible refine isCallS (f := 120) ?_); refine (trimLA_ok r hrl (Stop.mk ?_))) | ((with_reducible refine isDraw [some 22, some 23, some 24, some 25, some 26, some 27, some 28, some 4] (by decide) ?_); refine draw_rule [(0, []), (1, []), (2, []), (4, []), (5, []), (3, []), (6, []), (7, [])] [[], [], [1], [0, 1, 2], [], [4], [0, 1, 2, 3, 4, 5], [0, 1, 2, 3, 4, 5, 6]] [22, 23, 24, 25, 26, 27] [] (by kernel_rfl) (by kernel_rfl) (by kernel_rfl) (by kernel_rfl) (by exact trivial) ?_) | (refine And.intro ?ob ?_; case ob => ((try simp only [sxO, ne_eq, maxLen] at *); omega)) | fail) <;> (try simp (config := { maxSteps := 1000000 }) only [hb0, cls_len, cls_take, cls_drop, cls_agg, cls_cellsG, cls_cellsA, cls_one, cls_ment, cls_kill, z256_def, z256_len, z256_drop, z256_ment, par_len, par_ment, Nat.mul_one, imp_ga, guard_pk, guard_pk2, bs_mk, bs_app, bs_ext, bs_size, bs_toList, bs_at, bs_cells, List.take_length, imp_ga, guard_pk, guard_pk2, ↓hold_pre, awayP, runOps, regK, step1, newK, genR, appR, obl, buildR, Value.cells, closeK, keepH, outV, retK, ret1, retC, RetV, Option.getD, runD, stepD, afterK, undef, simprocAttr, sxB, ↓sxD, sxE, sxTab]))
  refine Stop.go ?_
  (replace hb0 := true_and True); refine Go1.mk ?_; repeat' ((first | (with_reducible refine Go1.go ?_) | ((with_reducible first | refine brv_mk ?_ ?_ | refine gsplitD ?_ ?_ | refine gsplitG ?_ ?_) <;> intro h <;> (try simp only [Bool.not_eq_true', Bool.not_eq_false'] at h) <;> replace hb0 := h) | ((with_reducible refine isDraw [some 22, some 23, some 24, some 25, some 26, some 27, some 28, some 4] (by decide) ?_); refine draw_rule [(0, []), (1, []), (2, []), (4, []), (5, []), (3, []), (6, []), (7, [])] [[], [], [1], [0, 1, 2], [], [4], [0, 1, 2, 3, 4, 5], [0, 1, 2, 3, 4, 5, 6]] [22, 23, 24, 25, 26, 27] [] (by kernel_rfl) (by kernel_rfl) (by kernel_rfl) (by kernel_rfl) (by exact trivial) ?_) | (refine And.intro ?ob ?_; case ob => ((try simp only [sxO, ne_eq, maxLen] at *); omega)) | fail) <;> (try simp (config := { maxSteps := 1000000 }) only [hb0, cls_len, cls_take, cls_drop, cls_agg, cls_cellsG, cls_cellsA, cls_one, cls_ment, cls_kill, z256_def, z256_len, z256_drop, z256_ment, par_len, par_ment, Nat.mul_one, imp_ga, guard_pk, guard_pk2, bs_mk, bs_app, bs_ext, bs_size, bs_toList, bs_at, bs_cells, List.take_length, imp_ga, guard_pk, guard_pk2, ↓hold_pre, awayP, runOps, regK, step1, newK, genR, appR, obl, buildR, Value.cells, closeK, keepH, outV, retK, ret1, retC, RetV, Option.getD, runD, stepD, afterK, undef, simprocAttr, sxB, ↓sxD, sxE, sxTab]))
  refine hK _ ⟨fun h => ?_, fun h => ?_⟩
  · have hr : ∀ b ∈ r, dgT b = true := by
      intro b hb
      exact dropWhile_nil h b hb
    rcases list_snoc r with rfl | ⟨q, b, rfl⟩
    · rw [List.nil_append] at h1; rw [← h1]; exact h2
    · have := h3 q b rfl
      rw [hr b (by simp)] at this; cases this
  · rcases list_snoc r with rfl | ⟨q, b, rfl⟩
    · rfl
    · have h4 := h3 q b rfl
      rw [h b (by rw [← h1]; simp)] at h4; cases h4
end
end Go.Proofs.YtamghpnjdohnjaaDoor.Sx
namespace Go.Proofs.YtamghpnjdohnjaaDoor.Sx
open Go Go.RowKit
set_option linter.unusedVariables false
set_option linter.unusedSimpArgs false
set_option maxRecDepth 100000
set_option maxHeartbeats 8000000
attribute [local congr] fin_congr finG_congr stepG_congr step1_congr runOps_congr brv_congr obl_congr condK_congr LoopK_congr seqK_congr CutK_congr vc_congr DrawK_congr regK_congr CallK_congr AskK_congr newK_congr retC_congr ret1_congr retK_congr outV_congr closeK_congr genR_congr appR_congr finD_congr finGD_congr stepGD_congr stepD_congr CallK0_congr runD_congr okR_congr CallS_congr vcX_congr
attribute [local congr] Stop_congr
def parR (l : List UInt8) : Int × List Nat := if 1300 < l.length then (2, []) else if l = [] ∨ (1 < l.length ∧ l.getD 0 0 = 48) then (6, []) else if l.all dgT = true then limR (numB l) else (6, [])
theorem numB_len {l : List UInt8} (h : ∀ b ∈ l, dgT b = true) : numB l < 10 ^ l.length := numB_lt fun b hb => dgT_is.1 (h b hb)
theorem ten_len {n k : Nat} (h : n < 10 ^ k) : (ofN n).length ≤ k := ofN_len_le (Nat.lt_of_lt_of_le h (Nat.pow_le_pow_left (by decide) k))
theorem ofN_small {n : Nat} (h0 : 0 < n) (h : n < 4294967296) : ofN n = [n] := by
  rw [ofN_pos (by omega), Nat.div_eq_of_lt h, Nat.mod_eq_of_lt h, ofN_zero]
theorem dg_sub {b : UInt8} (h : dgT b = true) : IntKind.u8.wrap ((b.toNat : Int) - 48) = ((dgV b : Nat) : Int) ∧ dgV b < 10 := by
  obtain ⟨h1, h2⟩ := dgT_is.1 h
  have : ∀ j : Fin 256, 48 ≤ j.val → j.val ≤ 57 → IntKind.u8.wrap ((j.val : Int) - 48) = ((j.val - 48 : Nat) : Int) := by decide +kernel
  exact ⟨this ⟨b.toNat, b.toNat_lt⟩ h1 h2, by unfold dgV; omega⟩
section
variable {M : Mem} {K : AV → Hp → Mem → Prop}
end
end Go.Proofs.YtamghpnjdohnjaaDoor.Sx
