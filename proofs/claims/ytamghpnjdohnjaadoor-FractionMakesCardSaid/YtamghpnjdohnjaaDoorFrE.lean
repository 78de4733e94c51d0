import Derived.Test.YtamghpnjdohnjaaDoorFrB
import Derived.Test.YtamghpnjdohnjaaDoorNumN
/- Fractions: how the program writes them, and what all laws share. -/
namespace Go.Proofs.YtamghpnjdohnjaaDoor.Sx
open Go Go.RowKit
set_option linter.unusedVariables false
set_option linter.unusedSimpArgs false
set_option maxRecDepth 100000
set_option maxHeartbeats 8000000
attribute [local congr] fin_congr finG_congr stepG_congr step1_congr runOps_congr brv_congr obl_congr condK_congr LoopK_congr seqK_congr CutK_congr vc_congr DrawK_congr regK_congr CallK_congr AskK_congr newK_congr retC_congr ret1_congr retK_congr outV_congr closeK_congr genR_congr appR_congr finD_congr finGD_congr stepGD_congr stepD_congr CallK0_congr runD_congr okR_congr CallS_congr vcX_congr
attribute [local congr] Stop_congr
theorem i64_wf {x : Int} (h : (Lit.int .i64 x).wf = true) : -9223372036854775808 ≤ x ∧ x ≤ 9223372036854775807 := by
  have e1 : IntKind.i64.min = -9223372036854775808 := rfl
  have e2 : IntKind.i64.max = 9223372036854775807 := rfl
  simp only [Lit.wf, e1, e2, Bool.and_eq_true, decide_eq_true_eq] at h
  exact h
def fmtF (a b : List Nat) : Int × List UInt8 := if chkF a b then (if valN b = 1 then (0, decB (valN a)) else (0, decB (valN a) ++ 47 :: decB (valN b))) else (1, [])
theorem dec_short2 (n : Nat) : ∀ k, n < 2 ^ k → (dec n).length ≤ k := by
  induction n using Nat.strongRecOn with
  | _ n ih =>
    intro k hk
    by_cases h : n = 0
    · subst h; rw [dec_zero]; exact Nat.zero_le _
    · rw [dec_pos h, List.length_append, List.length_singleton]
      cases k with
      | zero => simp at hk; omega
      | succ k =>
        rw [Nat.pow_succ] at hk
        have := ih (n / 10) (Nat.div_lt_self (by omega) (by decide)) k (by omega)
        omega
theorem wN_pow2 (i : Nat) : wN i = 2 ^ (32 * i) := by unfold wN; rw [Nat.pow_mul]
theorem decB_128 {n : Nat} (h : (ofN n).length ≤ 128) : (decB n).length ≤ 5000 := by
  obtain ⟨k, hk⟩ : ∃ k, k = 128 := ⟨_, rfl⟩
  rw [← hk] at h
  have h1 := ofN_len_lt h
  rw [wN_pow2] at h1
  have := dec_short2 _ _ h1
  unfold decB
  split
  · simp
  · omega
theorem fmtR_128 {n : Nat} (h : (ofN n).length ≤ 128) : fmtR (ofN n) = (0, decB n) := by
  unfold fmtR
  rw [chkN_ofN h, if_pos rfl, valN_ofN]
theorem getD_zero {l : List Nat} (h : 0 < l.length) : l.getD 0 0 = l[0] := by simp [List.getD_eq_getElem?_getD, h]
theorem ofN_1' : ofN 1 = [1] := by rw [ofN_pos (by decide), show 1 / 4294967296 = 0 from rfl, ofN_zero]
theorem den_one {d : Nat} (hl : (ofN d).length = 1) : d = (ofN d).getD 0 0 := by
  have := valN_ofN d
  generalize ofN d = l at *
  match l, hl with
  | [a], _ => simp [valN] at this; simp [this]
section
variable {M : Mem} {K : AV → Hp → Mem → Prop} {u1 u2 v1 v2 : Value} {l1 l2 k1 k2 : List Nat}
theorem sameFrac_ok (h1 : IsL M u32V u1 l1) (h2 : IsL M u32V u2 l2) (k1 : IsL M u32V v1 l1) (k2 : IsL M u32V v2 l2) (b1 : l1.length < 1000000000) (b2 : l2.length < 1000000000) (hK : K (.ext (.bool true)) [] M) : CallS Tryd.prog 32 [.ext (.agg #[u1, u2]), .ext (.agg #[v1, v2])] [] M [] K := by
  refine inlS (cs := []) Tryd.mixed Tryd.func32 rfl (by kernel_rfl) 0 rfl rfl ?_
  simp only [Tryd.f32]
  (replace hb0 := true_and True); refine Go1.mk ?_; repeat' ((first | (with_reducible refine Go1.go ?_) | ((with_reducible first | refine brv_mk ?_ ?_ | refine gsplitD ?_ ?_ | refine gsplitG ?_ ?_) <;> intro h <;> (try simp only [Bool.not_eq_true', Bool.not_eq_false'] at h) <;> replace hb0 := h) | ((first | (with_reducible refine isCall (f := 42) ?_; refine callA_nil (by kernel_rfl) ?_) | (with_reducible refine isCall0 (f := 42) ?_; refine callA0_nil (by kernel_rfl) ?_)); refine (sameNat_ok u1 v1 l1 h1 k1 b1 ?_)) | ((first | (with_reducible refine isCall (f := 42) ?_; refine callA_nil (by kernel_rfl) ?_) | (with_reducible refine isCall0 (f := 42) ?_; refine callA0_nil (by kernel_rfl) ?_)); refine (sameNat_ok u2 v2 l2 h2 k2 b2 ?_)) | (refine And.intro ?ob ?_; case ob => ((try simp only [sxO, ne_eq, maxLen] at *); omega)) | fail) <;> (try simp (config := { maxSteps := 1000000 }) only [hb0, h1.one, h2.one, k1.one, k2.one, ↓hold_pre, awayP, runOps, regK, step1, newK, genR, appR, obl, buildR, Value.cells, closeK, keepH, outV, retK, ret1, retC, RetV, Option.getD, runD, stepD, afterK, undef, simprocAttr, sxB, ↓sxD, sxE, sxTab]))
  exact hK
theorem same02_ok (e : Int) (h1 : IsL M u32V u1 l1) (h2 : IsL M u32V u2 l2) (k1 : IsL M u32V v1 l1) (k2 : IsL M u32V v2 l2) (b1 : l1.length < 1000000000) (b2 : l2.length < 1000000000) (hK : K (.ext (.bool true)) [] M) : CallS Tryd.prog 15 [.ext (.agg #[u1, u2]), .ext (.int .i64 e), .ext (.agg #[v1, v2]), .ext (.int .i64 e)] [] M [] K := by
  refine inlS (cs := []) Tryd.mixed Tryd.func15 rfl (by kernel_rfl) 0 rfl rfl ?_
  simp only [Tryd.f15]
  have d1 : decide (e = e) = true := by simp
  (replace hb0 := true_and True); refine Go1.mk ?_; repeat' ((first | (with_reducible refine Go1.go ?_) | ((with_reducible first | refine brv_mk ?_ ?_ | refine gsplitD ?_ ?_ | refine gsplitG ?_ ?_) <;> intro h <;> (try simp only [Bool.not_eq_true', Bool.not_eq_false'] at h) <;> replace hb0 := h) | ((first | (with_reducible refine isCall (f := 32) ?_; refine callA_nil (by kernel_rfl) ?_) | (with_reducible refine isCall0 (f := 32) ?_; refine callA0_nil (by kernel_rfl) ?_)); refine (sameFrac_ok h1 h2 k1 k2 b1 b2 ?_)) | (refine And.intro ?ob ?_; case ob => ((try simp only [sxO, ne_eq, maxLen] at *); omega)) | fail) <;> (try simp (config := { maxSteps := 1000000 }) only [hb0, h1.one, h2.one, k1.one, k2.one, d1, ↓hold_pre, awayP, runOps, regK, step1, newK, genR, appR, obl, buildR, Value.cells, closeK, keepH, outV, retK, ret1, retC, RetV, Option.getD, runD, stepD, afterK, undef, simprocAttr, sxB, ↓sxD, sxE, sxTab]))
  exact hK
theorem cut8_ok (u : Value) (l : List Nat) (hu : IsL M u32V u l) (hK : ∀ w, IsL M u32V w (l.take 8) → K (.ext w) [] M) : CallS Tryd.prog 11 [.ext u] [] M [] K := by
  refine inlS (cs := []) Tryd.mixed Tryd.func11 rfl (by kernel_rfl) 0 rfl rfl ?_
  simp only [Tryd.f11]
  by_cases h : 8 < l.length
  · have d1 : decide ((8 : Int) < (l.length : Int)) = true := by simp; omega
    have hs := hu.sub (Nat.zero_le 8) (by omega)
    have hcap := hu.cap
    have d2 : (8 : Int) ≤ (scap u : Int) := by omega
    (replace hb0 := true_and True); refine Go1.mk ?_; repeat' ((first | (with_reducible refine Go1.go ?_) | ((with_reducible first | refine brv_mk ?_ ?_ | refine gsplitD ?_ ?_ | refine gsplitG ?_ ?_) <;> intro h <;> (try simp only [Bool.not_eq_true', Bool.not_eq_false'] at h) <;> replace hb0 := h) | (refine And.intro ?ob ?_; case ob => ((try simp only [sxO, ne_eq, maxLen] at *); omega)) | fail) <;> (try simp (config := { maxSteps := 1000000 }) only [hb0, hu.one, hu.len, hu.sl, d1, d2, hs.one, ↓hold_pre, awayP, runOps, regK, step1, newK, genR, appR, obl, buildR, Value.cells, closeK, keepH, outV, retK, ret1, retC, RetV, Option.getD, runD, stepD, afterK, undef, simprocAttr, sxB, ↓sxD, sxE, sxTab]))
    exact hK _ hs
  · have d1 : decide ((8 : Int) < (l.length : Int)) = false := by simp; omega
    (replace hb0 := true_and True); refine Go1.mk ?_; repeat' ((first | (with_reducible refine Go1.go ?_) | ((with_reducible first | refine brv_mk ?_ ?_ | refine gsplitD ?_ ?_ | refine gsplitG ?_ ?_) <;> intro h <;> (try simp only [Bool.not_eq_true', Bool.not_eq_false'] at h) <;> replace hb0 := h) | (refine And.intro ?ob ?_; case ob => ((try simp only [sxO, ne_eq, maxLen] at *); omega)) | fail) <;> (try simp (config := { maxSteps := 1000000 }) only [hb0, hu.one, hu.len, hu.sl, d1, ↓hold_pre, awayP, runOps, regK, step1, newK, genR, appR, obl, buildR, Value.cells, closeK, keepH, outV, retK, ret1, retC, RetV, Option.getD, runD, stepD, afterK, undef, simprocAttr, sxB, ↓sxD, sxE, sxTab]))
    refine hK _ ?_
    rw [List.take_of_length_le (by omega)]; exact hu
theorem ffmt_ok (ha : IsF M u1 u2 l1 l2) (hK : ∀ M', Mem.le M M' → K (.ext (.tuple #[.string (bs (fmtF l1 l2).2), .int .i64 (fmtF l1 l2).1])) [] M') : CallS Tryd.prog 45 [.ext (.agg #[u1, u2])] [] M [] K := by
  refine inlS (cs := []) Tryd.mixed Tryd.func45 rfl (by kernel_rfl) 0 rfl rfl ?_
  simp only [Tryd.f45]
  unfold fmtF at hK
  (replace hb0 := true_and True); refine Go1.mk ?_; repeat' ((first | (with_reducible refine Go1.go ?_) | ((with_reducible first | refine brv_mk ?_ ?_ | refine gsplitD ?_ ?_ | refine gsplitG ?_ ?_) <;> intro h <;> (try simp only [Bool.not_eq_true', Bool.not_eq_false'] at h) <;> replace hb0 := h) | ((first | (with_reducible refine isCall (f := 16) ?_; refine callA_nil (by kernel_rfl) ?_) | (with_reducible refine isCall0 (f := 16) ?_; refine callA0_nil (by kernel_rfl) ?_)); refine (fcheck_ok ha.n ha.d ha.on ha.od ha.bn ha.bd (fun M1 m1 => Stop.mk ?_))) | (refine And.intro ?ob ?_; case ob => ((try simp only [sxO, ne_eq, maxLen] at *); omega)) | fail) <;> (try simp (config := { maxSteps := 1000000 }) only [hb0, ha.n.one, ha.d.one, bs_mk, bs_app, bs_ext, bs_size, bs_toList, bs_at, bs_cells, List.take_length, imp_ga, guard_pk, guard_pk2, ↓hold_pre, awayP, runOps, regK, step1, newK, genR, appR, obl, buildR, Value.cells, closeK, keepH, outV, retK, ret1, retC, RetV, Option.getD, runD, stepD, afterK, undef, simprocAttr, sxB, ↓sxD, sxE, sxTab]))
  have m1 : Mem.le M M1 := m1
  have ha1 := ha.le m1
  refine Stop.go ?_
  cases hc : chkF l1 l2 with
  | false =>
    rw [hc] at hK
    (replace hb0 := true_and True); refine Go1.mk ?_; repeat' ((first | (with_reducible refine Go1.go ?_) | ((with_reducible first | refine brv_mk ?_ ?_ | refine gsplitD ?_ ?_ | refine gsplitG ?_ ?_) <;> intro h <;> (try simp only [Bool.not_eq_true', Bool.not_eq_false'] at h) <;> replace hb0 := h) | (refine And.intro ?ob ?_; case ob => ((try simp only [sxO, ne_eq, maxLen] at *); omega)) | fail) <;> (try simp (config := { maxSteps := 1000000 }) only [hb0, ha1.n.one, ha1.d.one, bs_mk, bs_app, bs_ext, bs_size, bs_toList, bs_at, bs_cells, List.take_length, imp_ga, guard_pk, guard_pk2, ↓hold_pre, awayP, runOps, regK, step1, newK, genR, appR, obl, buildR, Value.cells, closeK, keepH, outV, retK, ret1, retC, RetV, Option.getD, runD, stepD, afterK, undef, simprocAttr, sxB, ↓sxD, sxE, sxTab]))
    exact hK _ m1
  | true =>
  rw [hc, if_pos rfl] at hK
  obtain ⟨n, d, hn, hd, e1, e2, q1, q2, q3⟩ := ha1.num hc
  rw [e1, e2] at hK
  (replace hb0 := true_and True); refine Go1.mk ?_; repeat' ((first | (with_reducible refine Go1.go ?_) | ((with_reducible first | refine brv_mk ?_ ?_ | refine gsplitD ?_ ?_ | refine gsplitG ?_ ?_) <;> intro h <;> (try simp only [Bool.not_eq_true', Bool.not_eq_false'] at h) <;> replace hb0 := h) | ((first | (with_reducible refine isCall (f := 79) ?_; refine callA_nil (by kernel_rfl) ?_) | (with_reducible refine isCall0 (f := 79) ?_; refine callA0_nil (by kernel_rfl) ?_)); refine (fmt_ok u1 _ hn (okN_ofN n) (by omega) (fun M2 m2 => Stop.mk ?_))) | (refine And.intro ?ob ?_; case ob => ((try simp only [sxO, ne_eq, maxLen] at *); omega)) | fail) <;> (try simp (config := { maxSteps := 1000000 }) only [hb0, hn.one, hd.one, bs_mk, bs_app, bs_ext, bs_size, bs_toList, bs_at, bs_cells, List.take_length, imp_ga, guard_pk, guard_pk2, ↓hold_pre, awayP, runOps, regK, step1, newK, genR, appR, obl, buildR, Value.cells, closeK, keepH, outV, retK, ret1, retC, RetV, Option.getD, runD, stepD, afterK, undef, simprocAttr, sxB, ↓sxD, sxE, sxTab]))
  have m2 : Mem.le M1 M2 := m2
  have hn := hn.le m2
  have hd := hd.le m2
  rw [fmtR_128 q1]
  have hL1 := decB_128 q1
  have hL2 := decB_128 q2
  refine Stop.go ?_
  by_cases hl : (ofN d).length = 1
  · have z1 : decide (((ofN d).length : Int) = 1) = true := by rw [decide_eq_true_eq]; omega
    have hyi := hd.idx (P := Tryd.prog) (T := 70) tk70 tz70 (by omega) (show 0 < (ofN d).length by omega)
    have hat : (ofN d)[0] = d := by
      rw [← getD_zero (show 0 < (ofN d).length by omega)]; exact (den_one hl).symm
    rw [hat] at hyi
    by_cases hd1 : d = 1
    · have z2 : decide ((d : Int) = 1) = true := by rw [hd1]; decide
      rw [if_pos hd1] at hK
      (replace hb0 := true_and True); refine Go1.mk ?_; repeat' ((first | (with_reducible refine Go1.go ?_) | ((with_reducible first | refine brv_mk ?_ ?_ | refine gsplitD ?_ ?_ | refine gsplitG ?_ ?_) <;> intro h <;> (try simp only [Bool.not_eq_true', Bool.not_eq_false'] at h) <;> replace hb0 := h) | (refine And.intro ?ob ?_; case ob => ((try simp only [sxO, ne_eq, maxLen] at *); omega)) | fail) <;> (try simp (config := { maxSteps := 1000000 }) only [hb0, u32V, hn.one, hd.one, hd.len, hd.sl, z1, z2, hyi, Int.natCast_zero, Int.cast_ofNat_Int, bs_mk, bs_app, bs_ext, bs_size, bs_toList, bs_at, bs_cells, List.take_length, imp_ga, guard_pk, guard_pk2, ↓hold_pre, awayP, runOps, regK, step1, newK, genR, appR, obl, buildR, Value.cells, closeK, keepH, outV, retK, ret1, retC, RetV, Option.getD, runD, stepD, afterK, undef, simprocAttr, sxB, ↓sxD, sxE, sxTab]))
      exact hK _ (m1.trans m2)
    · have z2 : decide ((d : Int) = 1) = false := by rw [decide_eq_false_iff_not]; omega
      rw [if_neg hd1] at hK
      (replace hb0 := true_and True); refine Go1.mk ?_; repeat' ((first | (with_reducible refine Go1.go ?_) | ((with_reducible first | refine brv_mk ?_ ?_ | refine gsplitD ?_ ?_ | refine gsplitG ?_ ?_) <;> intro h <;> (try simp only [Bool.not_eq_true', Bool.not_eq_false'] at h) <;> replace hb0 := h) | ((first | (with_reducible refine isCall (f := 79) ?_; refine callA_nil (by kernel_rfl) ?_) | (with_reducible refine isCall0 (f := 79) ?_; refine callA0_nil (by kernel_rfl) ?_)); refine (fmt_ok u2 _ hd (okN_ofN d) (by omega) (fun M3 m3 => Stop.mk ?_))) | (refine And.intro ?ob ?_; case ob => ((try simp only [sxO, ne_eq, maxLen] at *); omega)) | fail) <;> (try simp (config := { maxSteps := 1000000 }) only [hb0, u32V, hn.one, hd.one, hd.len, hd.sl, z1, z2, hyi, Int.natCast_zero, Int.cast_ofNat_Int, bs_mk, bs_app, bs_ext, bs_size, bs_toList, bs_at, bs_cells, List.take_length, imp_ga, guard_pk, guard_pk2, ↓hold_pre, awayP, runOps, regK, step1, newK, genR, appR, obl, buildR, Value.cells, closeK, keepH, outV, retK, ret1, retC, RetV, Option.getD, runD, stepD, afterK, undef, simprocAttr, sxB, ↓sxD, sxE, sxTab]))
      rw [fmtR_128 q2]
      refine Stop.go ?_
      (replace hb0 := true_and True); refine Go1.mk ?_; repeat' ((first | (with_reducible refine Go1.go ?_) | ((with_reducible first | refine brv_mk ?_ ?_ | refine gsplitD ?_ ?_ | refine gsplitG ?_ ?_) <;> intro h <;> (try simp only [Bool.not_eq_true', Bool.not_eq_false'] at h) <;> replace hb0 := h) | (refine And.intro ?ob ?_; case ob => ((try simp only [sxO, ne_eq, maxLen] at *); omega)) | fail) <;> (try simp (config := { maxSteps := 1000000 }) only [hb0, List.length_append, List.append_assoc, bs_mk, bs_app, bs_ext, bs_size, bs_toList, bs_at, bs_cells, List.take_length, imp_ga, guard_pk, guard_pk2, ↓hold_pre, awayP, runOps, regK, step1, newK, genR, appR, obl, buildR, Value.cells, closeK, keepH, outV, retK, ret1, retC, RetV, Option.getD, runD, stepD, afterK, undef, simprocAttr, sxB, ↓sxD, sxE, sxTab]))
      exact hK _ ((m1.trans m2).trans m3)
  · have z1 : decide (((ofN d).length : Int) = 1) = false := by rw [decide_eq_false_iff_not]; omega
    rw [if_neg (fun h => hl (by rw [h, ofN_1']; rfl))] at hK
    (replace hb0 := true_and True); refine Go1.mk ?_; repeat' ((first | (with_reducible refine Go1.go ?_) | ((with_reducible first | refine brv_mk ?_ ?_ | refine gsplitD ?_ ?_ | refine gsplitG ?_ ?_) <;> intro h <;> (try simp only [Bool.not_eq_true', Bool.not_eq_false'] at h) <;> replace hb0 := h) | ((first | (with_reducible refine isCall (f := 79) ?_; refine callA_nil (by kernel_rfl) ?_) | (with_reducible refine isCall0 (f := 79) ?_; refine callA0_nil (by kernel_rfl) ?_)); refine (fmt_ok u2 _ hd (okN_ofN d) (by omega) (fun M3 m3 => Stop.mk ?_))) | (refine And.intro ?ob ?_; case ob => ((try simp only [sxO, ne_eq, maxLen] at *); omega)) | fail) <;> (try simp (config := { maxSteps := 1000000 }) only [hb0, hn.one, hd.one, hd.len, hd.sl, z1, bs_mk, bs_app, bs_ext, bs_size, bs_toList, bs_at, bs_cells, List.take_length, imp_ga, guard_pk, guard_pk2, ↓hold_pre, awayP, runOps, regK, step1, newK, genR, appR, obl, buildR, Value.cells, closeK, keepH, outV, retK, ret1, retC, RetV, Option.getD, runD, stepD, afterK, undef, simprocAttr, sxB, ↓sxD, sxE, sxTab]))
    rw [fmtR_128 q2]
    refine Stop.go ?_
    (replace hb0 := true_and True); refine Go1.mk ?_; repeat' ((first | (with_reducible refine Go1.go ?_) | ((with_reducible first | refine brv_mk ?_ ?_ | refine gsplitD ?_ ?_ | refine gsplitG ?_ ?_) <;> intro h <;> (try simp only [Bool.not_eq_true', Bool.not_eq_false'] at h) <;> replace hb0 := h) | (refine And.intro ?ob ?_; case ob => ((try simp only [sxO, ne_eq, maxLen] at *); omega)) | fail) <;> (try simp (config := { maxSteps := 1000000 }) only [hb0, List.length_append, List.append_assoc, bs_mk, bs_app, bs_ext, bs_size, bs_toList, bs_at, bs_cells, List.take_length, imp_ga, guard_pk, guard_pk2, ↓hold_pre, awayP, runOps, regK, step1, newK, genR, appR, obl, buildR, Value.cells, closeK, keepH, outV, retK, ret1, retC, RetV, Option.getD, runD, stepD, afterK, undef, simprocAttr, sxB, ↓sxD, sxE, sxTab]))
    exact hK _ ((m1.trans m2).trans m3)
theorem awake02_ok (hK : ∀ M', Mem.le M M' → K (.ext (.bool true)) [] M') : CallS Tryd.prog 18 [] [] M [] K := by
  refine inlS (cs := []) Tryd.mixed Tryd.func18 rfl (by kernel_rfl) 0 rfl rfl ?_
  simp only [Tryd.f18]
  have e1 : ofF 1 6 = (0, 1, 6) := by decide +kernel
  have e2 : ofF 1 3 = (0, 1, 3) := by decide +kernel
  have e3 : addF (ofN 1) (ofN 6) (ofN 1) (ofN 3) = (0, 1, 2) := by decide +kernel
  have e4 : fmtF (ofN 1) (ofN 2) = (0, [49, 47, 50]) := by decide +kernel
  have hs : ([49, 47, 50] == ([49, 47, 50] : List UInt8)) = true := by decide
  have sm : ∀ n, n < 10 → (ofN n).length ≤ 1 := fun n hn => ofN_len_le (by rw [show wN 1 = 4294967296 from rfl]; omega)
  have s1 := sm 1 (by decide)
  have s2 := sm 2 (by decide)
  have s3 := sm 3 (by decide)
  have s6 := sm 6 (by decide)
  (replace hb0 := true_and True); refine Go1.mk ?_; repeat' ((first | (with_reducible refine Go1.go ?_) | ((with_reducible first | refine brv_mk ?_ ?_ | refine gsplitD ?_ ?_ | refine gsplitG ?_ ?_) <;> intro h <;> (try simp only [Bool.not_eq_true', Bool.not_eq_false'] at h) <;> replace hb0 := h) | ((first | (with_reducible refine isCall (f := 13) ?_; refine callA_nil (by kernel_rfl) ?_) | (with_reducible refine isCall0 (f := 13) ?_; refine callA0_nil (by kernel_rfl) ?_)); refine (fof_ok 1 6 (by decide) (by decide) (by decide) (by decide) (fun w1 w2 M1 a1 a2 a3 a4 a5 => Stop.mk ?_))) | (refine And.intro ?ob ?_; case ob => ((try simp only [sxO, ne_eq, maxLen] at *); omega)) | fail) <;> (try simp (config := { maxSteps := 1000000 }) only [hb0, ↓hold_pre, awayP, runOps, regK, step1, newK, genR, appR, obl, buildR, Value.cells, closeK, keepH, outV, retK, ret1, retC, RetV, Option.getD, runD, stepD, afterK, undef, simprocAttr, sxB, ↓sxD, sxE, sxTab]))
  have a1 : Mem.le M M1 := a1
  rw [e1] at a2 a3 ⊢
  have a2 : IsL M1 u32V w1 (ofN 1) := a2
  have a3 : IsL M1 u32V w2 (ofN 6) := a3
  refine Stop.go ?_
  (replace hb0 := true_and True); refine Go1.mk ?_; repeat' ((first | (with_reducible refine Go1.go ?_) | ((with_reducible first | refine brv_mk ?_ ?_ | refine gsplitD ?_ ?_ | refine gsplitG ?_ ?_) <;> intro h <;> (try simp only [Bool.not_eq_true', Bool.not_eq_false'] at h) <;> replace hb0 := h) | ((first | (with_reducible refine isCall (f := 13) ?_; refine callA_nil (by kernel_rfl) ?_) | (with_reducible refine isCall0 (f := 13) ?_; refine callA0_nil (by kernel_rfl) ?_)); refine (fof_ok 1 3 (by decide) (by decide) (by decide) (by decide) (fun w3 w4 M2 b1 b2 b3 b4 b5 => Stop.mk ?_))) | (refine And.intro ?ob ?_; case ob => ((try simp only [sxO, ne_eq, maxLen] at *); omega)) | fail) <;> (try simp (config := { maxSteps := 1000000 }) only [hb0, a2.one, a3.one, ↓hold_pre, awayP, runOps, regK, step1, newK, genR, appR, obl, buildR, Value.cells, closeK, keepH, outV, retK, ret1, retC, RetV, Option.getD, runD, stepD, afterK, undef, simprocAttr, sxB, ↓sxD, sxE, sxTab]))
  have b1 : Mem.le M1 M2 := b1
  rw [e2] at b2 b3 ⊢
  have b2 : IsL M2 u32V w3 (ofN 1) := b2
  have b3 : IsL M2 u32V w4 (ofN 3) := b3
  have a2 := a2.le b1
  have a3 := a3.le b1
  refine Stop.go ?_
  (replace hb0 := true_and True); refine Go1.mk ?_; repeat' ((first | (with_reducible refine Go1.go ?_) | ((with_reducible first | refine brv_mk ?_ ?_ | refine gsplitD ?_ ?_ | refine gsplitG ?_ ?_) <;> intro h <;> (try simp only [Bool.not_eq_true', Bool.not_eq_false'] at h) <;> replace hb0 := h) | ((first | (with_reducible refine isCall (f := 22) ?_; refine callA_nil (by kernel_rfl) ?_) | (with_reducible refine isCall0 (f := 22) ?_; refine callA0_nil (by kernel_rfl) ?_)); refine (fadd_ok ⟨a2, a3, okN_ofN _, okN_ofN _, by omega, by omega⟩ ⟨b2, b3, okN_ofN _, okN_ofN _, by omega, by omega⟩ (fun w5 w6 M3 c1 c2 c3 c4 c5 => Stop.mk ?_))) | (refine And.intro ?ob ?_; case ob => ((try simp only [sxO, ne_eq, maxLen] at *); omega)) | fail) <;> (try simp (config := { maxSteps := 1000000 }) only [hb0, a2.one, a3.one, b2.one, b3.one, ↓hold_pre, awayP, runOps, regK, step1, newK, genR, appR, obl, buildR, Value.cells, closeK, keepH, outV, retK, ret1, retC, RetV, Option.getD, runD, stepD, afterK, undef, simprocAttr, sxB, ↓sxD, sxE, sxTab]))
  have c1 : Mem.le M2 M3 := c1
  rw [e3] at c2 c3 ⊢
  have c2 : IsL M3 u32V w5 (ofN 1) := c2
  have c3 : IsL M3 u32V w6 (ofN 2) := c3
  refine Stop.go ?_
  (replace hb0 := true_and True); refine Go1.mk ?_; repeat' ((first | (with_reducible refine Go1.go ?_) | ((with_reducible first | refine brv_mk ?_ ?_ | refine gsplitD ?_ ?_ | refine gsplitG ?_ ?_) <;> intro h <;> (try simp only [Bool.not_eq_true', Bool.not_eq_false'] at h) <;> replace hb0 := h) | ((first | (with_reducible refine isCall (f := 45) ?_; refine callA_nil (by kernel_rfl) ?_) | (with_reducible refine isCall0 (f := 45) ?_; refine callA0_nil (by kernel_rfl) ?_)); refine (ffmt_ok ⟨c2, c3, okN_ofN _, okN_ofN _, by omega, by omega⟩ (fun M4 d1 => Stop.mk ?_))) | (refine And.intro ?ob ?_; case ob => ((try simp only [sxO, ne_eq, maxLen] at *); omega)) | fail) <;> (try simp (config := { maxSteps := 1000000 }) only [hb0, c2.one, c3.one, bs_mk, bs_app, bs_ext, bs_size, bs_toList, bs_at, bs_cells, List.take_length, imp_ga, guard_pk, guard_pk2, ↓hold_pre, awayP, runOps, regK, step1, newK, genR, appR, obl, buildR, Value.cells, closeK, keepH, outV, retK, ret1, retC, RetV, Option.getD, runD, stepD, afterK, undef, simprocAttr, sxB, ↓sxD, sxE, sxTab]))
  rw [e4]
  refine Stop.go ?_
  (replace hb0 := true_and True); refine Go1.mk ?_; repeat' ((first | (with_reducible refine Go1.go ?_) | ((with_reducible first | refine brv_mk ?_ ?_ | refine gsplitD ?_ ?_ | refine gsplitG ?_ ?_) <;> intro h <;> (try simp only [Bool.not_eq_true', Bool.not_eq_false'] at h) <;> replace hb0 := h) | (refine And.intro ?ob ?_; case ob => ((try simp only [sxO, ne_eq, maxLen] at *); omega)) | fail) <;> (try simp (config := { maxSteps := 1000000 }) only [hb0, hs, bs_mk, bs_app, bs_ext, bs_size, bs_toList, bs_at, bs_cells, List.take_length, imp_ga, guard_pk, guard_pk2, ↓hold_pre, awayP, runOps, regK, step1, newK, genR, appR, obl, buildR, Value.cells, closeK, keepH, outV, retK, ret1, retC, RetV, Option.getD, runD, stepD, afterK, undef, simprocAttr, sxB, ↓sxD, sxE, sxTab]))
  exact hK _ (((a1.trans b1).trans c1).trans d1)
end
end Go.Proofs.YtamghpnjdohnjaaDoor.Sx
