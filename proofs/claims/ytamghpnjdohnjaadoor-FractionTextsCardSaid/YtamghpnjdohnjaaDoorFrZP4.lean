/- Part 39 of the texts of this claim: a symbolic executor and contracts of functions. -/
import Derived.Test.YtamghpnjdohnjaaDoorFrZP3
namespace Go.Proofs.YtamghpnjdohnjaaDoor.Sx
open Go Go.RowKit
set_option linter.unusedVariables false
set_option linter.unusedSimpArgs false
set_option maxRecDepth 100000
set_option maxHeartbeats 8000000
attribute [local congr] fin_congr finG_congr stepG_congr step1_congr runOps_congr brv_congr obl_congr condK_congr LoopK_congr seqK_congr CutK_congr vc_congr DrawK_congr regK_congr CallK_congr AskK_congr newK_congr retC_congr ret1_congr retK_congr outV_congr closeK_congr genR_congr appR_congr finD_congr finGD_congr stepGD_congr stepD_congr CallK0_congr runD_congr okR_congr CallS_congr vcX_congr
attribute [local congr] Stop_congr
theorem fst_len (l : List UInt8) : (fstP l).length ≤ l.length := by
  unfold fstP
  exact (List.takeWhile_sublist _).length_le
theorem rst_len (l : List UInt8) : (rstP l).length ≤ l.length := by
  unfold rstP
  exact (List.dropWhile_sublist _).length_le
theorem snd_len (l : List UInt8) : (sndP l).length ≤ l.length + 1 := by
  unfold sndP
  have := rst_len l
  split
  · simp
  · rw [List.length_drop]; omega
section
variable {M : Mem} {K : AV → Hp → Mem → Prop}
theorem strCut_ok (l : List UInt8) (hl : l.length < 1000000000) (hK : K (.ext (.tuple #[.string (bs (fstP l)), .string (bs ((rstP l).drop 1)), .bool (!(decide (rstP l = [])))])) [] M) : CallS Tryd.prog 85 [.ext (.string (bs l)), .ext (.string (bs [47]))] [] M [] K := by
  refine inlS (cs := []) Tryd.mixed Tryd.func85 rfl (by kernel_rfl) 0 rfl rfl ?_
  simp only [Tryd.f85]
  (replace hb0 := true_and True); refine Go1.mk ?_; repeat' ((first | (with_reducible refine Go1.go ?_) | ((with_reducible first | refine brv_mk ?_ ?_ | refine gsplitD ?_ ?_ | refine gsplitG ?_ ?_) <;> intro h <;> (try simp only [Bool.not_eq_true', Bool.not_eq_false'] at h) <;> replace hb0 := h) | ((first | (with_reducible refine isCall (f := 110) ?_; refine callA_nil (by kernel_rfl) ?_) | (with_reducible refine isCall0 (f := 110) ?_; refine callA0_nil (by kernel_rfl) ?_)); refine (sCut_ok l hl ?_)) | (refine And.intro ?ob ?_; case ob => ((try simp only [sxO, ne_eq, maxLen] at *); omega)) | fail) <;> (try simp (config := { maxSteps := 1000000 }) only [hb0, bs_mk, bs_app, bs_ext, bs_size, bs_toList, bs_at, bs_cells, List.take_length, imp_ga, guard_pk, guard_pk2, ↓hold_pre, awayP, runOps, regK, step1, newK, genR, appR, obl, buildR, Value.cells, closeK, keepH, outV, retK, ret1, retC, RetV, Option.getD, runD, stepD, afterK, undef, simprocAttr, sxB, ↓sxD, sxE, sxTab]))
  exact hK
def fpSt (M : Mem) (a b : List UInt8) : St := { env := [(5, .ext (.string (bs b))), (4, .ext (.string (bs a))), (2, .own 2 0)], hp := [(2, 25, [.ext (.slice none 0 0), .ext (.slice none 0 0)])], M := M, kb := 0, fx := [] }
theorem fparse_ok (l : List UInt8) (hl : l.length < 1000000) (hK : FracK M K (parF l)) : CallS Tryd.prog 47 [.ext (.string (bs l))] [] M [] K := by
  refine inlS (cs := [6]) Tryd.mixed Tryd.func47 rfl (by kernel_rfl) 0 rfl rfl ?_
  simp only [Tryd.f47]
  unfold parF at hK
  by_cases h26 : 2601 < l.length
  · have d1 : decide ((2601 : Int) < (l.length : Int)) = true := by rw [decide_eq_true_eq]; omega
    rw [if_pos h26] at hK
    (replace hb0 := true_and True); refine Go1.mk ?_; repeat' ((first | (with_reducible refine Go1.go ?_) | ((with_reducible first | refine brv_mk ?_ ?_ | refine gsplitD ?_ ?_ | refine gsplitG ?_ ?_) <;> intro h <;> (try simp only [Bool.not_eq_true', Bool.not_eq_false'] at h) <;> replace hb0 := h) | (refine And.intro ?ob ?_; case ob => ((try simp only [sxO, ne_eq, maxLen] at *); omega)) | fail) <;> (try simp (config := { maxSteps := 1000000 }) only [hb0, d1, bs_mk, bs_app, bs_ext, bs_size, bs_toList, bs_at, bs_cells, List.take_length, imp_ga, guard_pk, guard_pk2, ↓hold_pre, awayP, runOps, regK, step1, newK, genR, appR, obl, buildR, Value.cells, closeK, keepH, outV, retK, ret1, retC, RetV, Option.getD, runD, stepD, afterK, undef, simprocAttr, sxB, ↓sxD, sxE, sxTab]))
    exact hK.err _ (Mem.le.refl _)
  have d1 : decide ((2601 : Int) < (l.length : Int)) = false := by rw [decide_eq_false_iff_not]; omega
  rw [if_neg h26] at hK
  have hsl := snd_len l
  have hfl := fst_len l
  (replace hb0 := true_and True); refine Go1.mk ?_; repeat' ((first | (with_reducible refine Go1.go ?_) | ((with_reducible first | refine brv_mk ?_ ?_ | refine gsplitD ?_ ?_ | refine gsplitG ?_ ?_) <;> intro h <;> (try simp only [Bool.not_eq_true', Bool.not_eq_false'] at h) <;> replace hb0 := h) | ((first | (with_reducible refine isCall (f := 85) ?_; refine callA_nil (by kernel_rfl) ?_) | (with_reducible refine isCall0 (f := 85) ?_; refine callA0_nil (by kernel_rfl) ?_)); refine (strCut_ok l (by omega) (Stop.mk ?_))) | (refine And.intro ?ob ?_; case ob => ((try simp only [sxO, ne_eq, maxLen] at *); omega)) | fail) <;> (try simp (config := { maxSteps := 1000000 }) only [hb0, d1, bs_mk, bs_app, bs_ext, bs_size, bs_toList, bs_at, bs_cells, List.take_length, imp_ga, guard_pk, guard_pk2, ↓hold_pre, awayP, runOps, regK, step1, newK, genR, appR, obl, buildR, Value.cells, closeK, keepH, outV, retK, ret1, retC, RetV, Option.getD, runD, stepD, afterK, undef, simprocAttr, sxB, ↓sxD, sxE, sxTab]))
  refine Stop.go ?_
  (replace hb0 := true_and True); refine Go1.mk ?_; repeat' ((first | (with_reducible refine Go1.go ?_) | ((with_reducible first | refine brv_mk ?_ ?_ | refine gsplitD ?_ ?_ | refine gsplitG ?_ ?_) <;> intro h <;> (try simp only [Bool.not_eq_true', Bool.not_eq_false'] at h) <;> replace hb0 := h) | (refine And.intro ?ob ?_; case ob => ((try simp only [sxO, ne_eq, maxLen] at *); omega)) | fail) <;> (try simp (config := { maxSteps := 1000000 }) only [hb0, bs_mk, bs_app, bs_ext, bs_size, bs_toList, bs_at, bs_cells, List.take_length, imp_ga, guard_pk, guard_pk2, ↓hold_pre, awayP, runOps, regK, step1, newK, genR, appR, obl, buildR, Value.cells, closeK, keepH, outV, retK, ret1, retC, RetV, Option.getD, runD, stepD, afterK, undef, simprocAttr, sxB, ↓sxD, sxE, sxTab]))
  refine ⟨fun z => z = fpSt M (fstP l) (sndP l), ?_, ?_⟩
  · by_cases h0 : rstP l = []
    · have e1 : decide (rstP l = []) = true := decide_eq_true h0
      have e2 : sndP l = [49] := by unfold sndP; rw [if_pos h0]
      (replace hb0 := true_and True); refine Go1.mk ?_; repeat' ((first | (with_reducible refine Go1.go ?_) | ((with_reducible first | refine brv_mk ?_ ?_ | refine gsplitD ?_ ?_ | refine gsplitG ?_ ?_) <;> intro h <;> (try simp only [Bool.not_eq_true', Bool.not_eq_false'] at h) <;> replace hb0 := h) | (refine And.intro ?ob ?_; case ob => ((try simp only [sxO, ne_eq, maxLen] at *); omega)) | fail) <;> (try simp (config := { maxSteps := 1000000 }) only [hb0, e1, bs_mk, bs_app, bs_ext, bs_size, bs_toList, bs_at, bs_cells, List.take_length, imp_ga, guard_pk, guard_pk2, ↓hold_pre, awayP, runOps, regK, step1, newK, genR, appR, obl, buildR, Value.cells, closeK, keepH, outV, retK, ret1, retC, RetV, Option.getD, runD, stepD, afterK, undef, simprocAttr, sxB, ↓sxD, sxE, sxTab]))
      exact ⟨fpSt M (fstP l) (sndP l), le_sub ⟨by rw [e2]; rfl, rfl, rfl, trivial⟩ ⟨rfl, trivial⟩ rfl rfl rfl (keepLt0 _), rfl⟩
    · have e1 : decide (rstP l = []) = false := decide_eq_false h0
      have e2 : sndP l = (rstP l).drop 1 := by unfold sndP; rw [if_neg h0]
      (replace hb0 := true_and True); refine Go1.mk ?_; repeat' ((first | (with_reducible refine Go1.go ?_) | ((with_reducible first | refine brv_mk ?_ ?_ | refine gsplitD ?_ ?_ | refine gsplitG ?_ ?_) <;> intro h <;> (try simp only [Bool.not_eq_true', Bool.not_eq_false'] at h) <;> replace hb0 := h) | (refine And.intro ?ob ?_; case ob => ((try simp only [sxO, ne_eq, maxLen] at *); omega)) | fail) <;> (try simp (config := { maxSteps := 1000000 }) only [hb0, e1, bs_mk, bs_app, bs_ext, bs_size, bs_toList, bs_at, bs_cells, List.take_length, imp_ga, guard_pk, guard_pk2, ↓hold_pre, awayP, runOps, regK, step1, newK, genR, appR, obl, buildR, Value.cells, closeK, keepH, outV, retK, ret1, retC, RetV, Option.getD, runD, stepD, afterK, undef, simprocAttr, sxB, ↓sxD, sxE, sxTab]))
      exact ⟨fpSt M (fstP l) (sndP l), le_sub ⟨by rw [e2]; rfl, rfl, rfl, trivial⟩ ⟨rfl, trivial⟩ rfl rfl rfl (keepLt0 _), rfl⟩
  rintro z rfl
  generalize fstP l = a at *
  generalize sndP l = b at *
  obtain ⟨o1, s1, _⟩ := parR_fine a
  obtain ⟨o2, s2, _⟩ := parR_fine b
  unfold mkP at hK
  (replace hb0 := true_and True); refine Go1.mk ?_; repeat' ((first | (with_reducible refine Go1.go ?_) | ((with_reducible first | refine brv_mk ?_ ?_ | refine gsplitD ?_ ?_ | refine gsplitG ?_ ?_) <;> intro h <;> (try simp only [Bool.not_eq_true', Bool.not_eq_false'] at h) <;> replace hb0 := h) | ((first | (with_reducible refine isCall (f := 86) ?_; refine callA_nil (by kernel_rfl) ?_) | (with_reducible refine isCall0 (f := 86) ?_; refine callA0_nil (by kernel_rfl) ?_)); refine (nparse_ok a (by omega) (fun w1 M1 a1 a2 _ => Stop.mk ?_))) | (refine And.intro ?ob ?_; case ob => ((try simp only [sxO, ne_eq, maxLen] at *); omega)) | fail) <;> (try simp (config := { maxSteps := 1000000 }) only [hb0, fpSt, bs_mk, bs_app, bs_ext, bs_size, bs_toList, bs_at, bs_cells, List.take_length, imp_ga, guard_pk, guard_pk2, ↓hold_pre, awayP, runOps, regK, step1, newK, genR, appR, obl, buildR, Value.cells, closeK, keepH, outV, retK, ret1, retC, RetV, Option.getD, runD, stepD, afterK, undef, simprocAttr, sxB, ↓sxD, sxE, sxTab]))
  have a1 : Mem.le M M1 := a1
  refine Stop.go ?_
  (replace hb0 := true_and True); refine Go1.mk ?_; repeat' ((first | (with_reducible refine Go1.go ?_) | ((with_reducible first | refine brv_mk ?_ ?_ | refine gsplitD ?_ ?_ | refine gsplitG ?_ ?_) <;> intro h <;> (try simp only [Bool.not_eq_true', Bool.not_eq_false'] at h) <;> replace hb0 := h) | ((first | (with_reducible refine isCall (f := 86) ?_; refine callA_nil (by kernel_rfl) ?_) | (with_reducible refine isCall0 (f := 86) ?_; refine callA0_nil (by kernel_rfl) ?_)); refine (nparse_ok b (by omega) (fun w2 M2 b1 b2 _ => Stop.mk ?_))) | (refine And.intro ?ob ?_; case ob => ((try simp only [sxO, ne_eq, maxLen] at *); omega)) | fail) <;> (try simp (config := { maxSteps := 1000000 }) only [hb0, a2.one, bs_mk, bs_app, bs_ext, bs_size, bs_toList, bs_at, bs_cells, List.take_length, imp_ga, guard_pk, guard_pk2, ↓hold_pre, awayP, runOps, regK, step1, newK, genR, appR, obl, buildR, Value.cells, closeK, keepH, outV, retK, ret1, retC, RetV, Option.getD, runD, stepD, afterK, undef, simprocAttr, sxB, ↓sxD, sxE, sxTab]))
  have b1 : Mem.le M1 M2 := b1
  have a2 := a2.le b1
  have hM := a1.trans b1
  generalize parR a = e at *
  generalize parR b = f at *
  obtain ⟨e, x⟩ := e
  obtain ⟨f, y⟩ := f
  refine Stop.go ?_
  simp only at hK a2 b2 o1 o2 s1 s2
  by_cases c1 : e = 6
  · have d2 : decide (e = 6) = true := decide_eq_true c1
    rw [if_pos (.inl c1)] at hK
    (replace hb0 := true_and True); refine Go1.mk ?_; repeat' ((first | (with_reducible refine Go1.go ?_) | ((with_reducible first | refine brv_mk ?_ ?_ | refine gsplitD ?_ ?_ | refine gsplitG ?_ ?_) <;> intro h <;> (try simp only [Bool.not_eq_true', Bool.not_eq_false'] at h) <;> replace hb0 := h) | (refine And.intro ?ob ?_; case ob => ((try simp only [sxO, ne_eq, maxLen] at *); omega)) | fail) <;> (try simp (config := { maxSteps := 1000000 }) only [hb0, a2.one, b2.one, d2, bs_mk, bs_app, bs_ext, bs_size, bs_toList, bs_at, bs_cells, List.take_length, imp_ga, guard_pk, guard_pk2, ↓hold_pre, awayP, runOps, regK, step1, newK, genR, appR, obl, buildR, Value.cells, closeK, keepH, outV, retK, ret1, retC, RetV, Option.getD, runD, stepD, afterK, undef, simprocAttr, sxB, ↓sxD, sxE, sxTab]))
    exact hK.err _ hM
  have d2 : decide (e = 6) = false := decide_eq_false c1
  by_cases c2 : f = 6
  · have d3 : decide (f = 6) = true := decide_eq_true c2
    rw [if_pos (.inr (.inl c2))] at hK
    (replace hb0 := true_and True); refine Go1.mk ?_; repeat' ((first | (with_reducible refine Go1.go ?_) | ((with_reducible first | refine brv_mk ?_ ?_ | refine gsplitD ?_ ?_ | refine gsplitG ?_ ?_) <;> intro h <;> (try simp only [Bool.not_eq_true', Bool.not_eq_false'] at h) <;> replace hb0 := h) | (refine And.intro ?ob ?_; case ob => ((try simp only [sxO, ne_eq, maxLen] at *); omega)) | fail) <;> (try simp (config := { maxSteps := 1000000 }) only [hb0, a2.one, b2.one, d2, d3, bs_mk, bs_app, bs_ext, bs_size, bs_toList, bs_at, bs_cells, List.take_length, imp_ga, guard_pk, guard_pk2, ↓hold_pre, awayP, runOps, regK, step1, newK, genR, appR, obl, buildR, Value.cells, closeK, keepH, outV, retK, ret1, retC, RetV, Option.getD, runD, stepD, afterK, undef, simprocAttr, sxB, ↓sxD, sxE, sxTab]))
    exact hK.err _ hM
  have d3 : decide (f = 6) = false := decide_eq_false c2
  cases hc : b.contains 47 with
  | true =>
    rw [if_pos (.inr (.inr hc))] at hK
    (replace hb0 := true_and True); refine Go1.mk ?_; repeat' ((first | (with_reducible refine Go1.go ?_) | ((with_reducible first | refine brv_mk ?_ ?_ | refine gsplitD ?_ ?_ | refine gsplitG ?_ ?_) <;> intro h <;> (try simp only [Bool.not_eq_true', Bool.not_eq_false'] at h) <;> replace hb0 := h) | ((first | (with_reducible refine isCall (f := 87) ?_; refine callA_nil (by kernel_rfl) ?_) | (with_reducible refine isCall0 (f := 87) ?_; refine callA0_nil (by kernel_rfl) ?_)); refine (sHas_ok b ?_)) | (refine And.intro ?ob ?_; case ob => ((try simp only [sxO, ne_eq, maxLen] at *); omega)) | fail) <;> (try simp (config := { maxSteps := 1000000 }) only [hb0, a2.one, b2.one, d2, d3, hc, bs_mk, bs_app, bs_ext, bs_size, bs_toList, bs_at, bs_cells, List.take_length, imp_ga, guard_pk, guard_pk2, ↓hold_pre, awayP, runOps, regK, step1, newK, genR, appR, obl, buildR, Value.cells, closeK, keepH, outV, retK, ret1, retC, RetV, Option.getD, runD, stepD, afterK, undef, simprocAttr, sxB, ↓sxD, sxE, sxTab]))
    exact hK.err _ hM
  | false =>
  rw [if_neg (by rw [hc]; simp [c1, c2])] at hK
  by_cases c3 : e = 0
  case neg =>
    have d4 : decide (e = 0) = false := decide_eq_false c3
    rw [if_pos c3] at hK
    (replace hb0 := true_and True); refine Go1.mk ?_; repeat' ((first | (with_reducible refine Go1.go ?_) | ((with_reducible first | refine brv_mk ?_ ?_ | refine gsplitD ?_ ?_ | refine gsplitG ?_ ?_) <;> intro h <;> (try simp only [Bool.not_eq_true', Bool.not_eq_false'] at h) <;> replace hb0 := h) | ((first | (with_reducible refine isCall (f := 87) ?_; refine callA_nil (by kernel_rfl) ?_) | (with_reducible refine isCall0 (f := 87) ?_; refine callA0_nil (by kernel_rfl) ?_)); refine (sHas_ok b ?_)) | (refine And.intro ?ob ?_; case ob => ((try simp only [sxO, ne_eq, maxLen] at *); omega)) | fail) <;> (try simp (config := { maxSteps := 1000000 }) only [hb0, a2.one, b2.one, d2, d3, d4, hc, bs_mk, bs_app, bs_ext, bs_size, bs_toList, bs_at, bs_cells, List.take_length, imp_ga, guard_pk, guard_pk2, ↓hold_pre, awayP, runOps, regK, step1, newK, genR, appR, obl, buildR, Value.cells, closeK, keepH, outV, retK, ret1, retC, RetV, Option.getD, runD, stepD, afterK, undef, simprocAttr, sxB, ↓sxD, sxE, sxTab]))
    exact hK.err _ hM
  have d4 : decide (e = 0) = true := decide_eq_true c3
  rw [if_neg (fun h => h c3)] at hK
  by_cases c4 : f = 0
  case neg =>
    have d5 : decide (f = 0) = false := decide_eq_false c4
    rw [if_pos c4] at hK
    (replace hb0 := true_and True); refine Go1.mk ?_; repeat' ((first | (with_reducible refine Go1.go ?_) | ((with_reducible first | refine brv_mk ?_ ?_ | refine gsplitD ?_ ?_ | refine gsplitG ?_ ?_) <;> intro h <;> (try simp only [Bool.not_eq_true', Bool.not_eq_false'] at h) <;> replace hb0 := h) | ((first | (with_reducible refine isCall (f := 87) ?_; refine callA_nil (by kernel_rfl) ?_) | (with_reducible refine isCall0 (f := 87) ?_; refine callA0_nil (by kernel_rfl) ?_)); refine (sHas_ok b ?_)) | (refine And.intro ?ob ?_; case ob => ((try simp only [sxO, ne_eq, maxLen] at *); omega)) | fail) <;> (try simp (config := { maxSteps := 1000000 }) only [hb0, a2.one, b2.one, d2, d3, d4, d5, hc, bs_mk, bs_app, bs_ext, bs_size, bs_toList, bs_at, bs_cells, List.take_length, imp_ga, guard_pk, guard_pk2, ↓hold_pre, awayP, runOps, regK, step1, newK, genR, appR, obl, buildR, Value.cells, closeK, keepH, outV, retK, ret1, retC, RetV, Option.getD, runD, stepD, afterK, undef, simprocAttr, sxB, ↓sxD, sxE, sxTab]))
    exact hK.err _ hM
  have d5 : decide (f = 0) = true := decide_eq_true c4
  rw [if_neg (fun h => h c4)] at hK
  (replace hb0 := true_and True); refine Go1.mk ?_; repeat' ((first | (with_reducible refine Go1.go ?_) | ((with_reducible first | refine brv_mk ?_ ?_ | refine gsplitD ?_ ?_ | refine gsplitG ?_ ?_) <;> intro h <;> (try simp only [Bool.not_eq_true', Bool.not_eq_false'] at h) <;> replace hb0 := h) | ((first | (with_reducible refine isCall (f := 87) ?_; refine callA_nil (by kernel_rfl) ?_) | (with_reducible refine isCall0 (f := 87) ?_; refine callA0_nil (by kernel_rfl) ?_)); refine (sHas_ok b ?_)) | ((first | (with_reducible refine isCall (f := 10) ?_; refine callA_nil (by kernel_rfl) ?_) | (with_reducible refine isCall0 (f := 10) ?_; refine callA0_nil (by kernel_rfl) ?_)); refine (fmake_ok a2 b2 o1 o2 (by omega) (by omega) (fun w3 w4 M3 e1 e2 e3 e4 e5 => Stop.mk ?_))) | (refine And.intro ?ob ?_; case ob => ((try simp only [sxO, ne_eq, maxLen] at *); omega)) | fail) <;> (try simp (config := { maxSteps := 1000000 }) only [hb0, a2.one, b2.one, d2, d3, d4, d5, hc, bs_mk, bs_app, bs_ext, bs_size, bs_toList, bs_at, bs_cells, List.take_length, imp_ga, guard_pk, guard_pk2, ↓hold_pre, awayP, runOps, regK, step1, newK, genR, appR, obl, buildR, Value.cells, closeK, keepH, outV, retK, ret1, retC, RetV, Option.getD, runD, stepD, afterK, undef, simprocAttr, sxB, ↓sxD, sxE, sxTab]))
  have e1 : Mem.le M2 M3 := e1
  refine Stop.go ?_
  (replace hb0 := true_and True); refine Go1.mk ?_; repeat' ((first | (with_reducible refine Go1.go ?_) | ((with_reducible first | refine brv_mk ?_ ?_ | refine gsplitD ?_ ?_ | refine gsplitG ?_ ?_) <;> intro h <;> (try simp only [Bool.not_eq_true', Bool.not_eq_false'] at h) <;> replace hb0 := h) | (refine And.intro ?ob ?_; case ob => ((try simp only [sxO, ne_eq, maxLen] at *); omega)) | fail) <;> (try simp (config := { maxSteps := 1000000 }) only [hb0, e2.one, e3.one, bs_mk, bs_app, bs_ext, bs_size, bs_toList, bs_at, bs_cells, List.take_length, imp_ga, guard_pk, guard_pk2, ↓hold_pre, awayP, runOps, regK, step1, newK, genR, appR, obl, buildR, Value.cells, closeK, keepH, outV, retK, ret1, retC, RetV, Option.getD, runD, stepD, afterK, undef, simprocAttr, sxB, ↓sxD, sxE, sxTab]))
  exact hK _ _ _ (hM.trans e1) e2 e3 (e4.le hM) (e5.le hM)
def rpS2 (M : Mem) (l : List UInt8) (i : Nat) (Q : List (List UInt8)) (x : List UInt8) : St := { env := [(5, .ext (.int .i64 (i : Int))), (4, .slo 14 0 (Q.length + 1) 1), (2, .own 2 0), (0, .ext (.string (bs l)))], hp := [(14, 9, cE strB (Q ++ [x])), (2, 25, [.ext (.slice none 0 0), .ext (.slice none 0 0)])], M := M, kb := 0, fx := [] }
def rpS3 (M : Mem) (a b : List UInt8) : St := { env := [(4, .slo 14 0 2 1), (2, .own 2 0)], hp := [(14, 9, [.ext (.string (bs a)), .ext (.string (bs b))]), (2, 25, [.ext (.slice none 0 0), .ext (.slice none 0 0)])], M := M, kb := 0, fx := [] }
def rpS5 (M : Mem) (l : List UInt8) (i n : Nat) (cs : List AV) : St := { env := [(5, .ext (.int .i64 (i : Int))), (4, .slo 14 0 n 1), (2, .own 2 0), (0, .ext (.string (bs l)))], hp := [(14, 9, cs), (2, 25, [.ext (.slice none 0 0), .ext (.slice none 0 0)])], M := M, kb := 0, fx := [] }
structure PartI (l : List UInt8) (i : Nat) (Q : List (List UInt8)) (x : List UInt8) : Prop where
  eq : Q.flatMap (· ++ [47]) ++ x = l.take i
  no : ∀ q ∈ Q, ∀ b ∈ q, b ≠ 47
  nx : ∀ b ∈ x, b ≠ 47
  ln : Q.length ≤ i
theorem partI_slash {l : List UInt8} {i : Nat} {Q : List (List UInt8)} {x : List UInt8} (h : PartI l i Q x) (hi : i < l.length) (hb : l[i] = 47) : PartI l (i + 1) (Q ++ [x]) [] :=
  ⟨by rw [List.take_add_one, List.getElem?_eq_getElem hi, hb, ← h.eq]; simp, fun q hq b hb => by
    rcases List.mem_append.1 hq with h1 | h1
    · exact h.no q h1 b hb
    · rw [List.mem_singleton.1 h1] at hb; exact h.nx b hb, by simp, by have := h.ln; simp; omega⟩
theorem partI_other {l : List UInt8} {i : Nat} {Q : List (List UInt8)} {x : List UInt8} (h : PartI l i Q x) (hi : i < l.length) (hb : l[i] ≠ 47) : PartI l (i + 1) Q (x ++ [l[i]]) :=
  ⟨by rw [List.take_add_one, List.getElem?_eq_getElem hi, ← h.eq]; simp, h.no, fun b hm => by
    rcases List.mem_append.1 hm with h1 | h1
    · exact h.nx b h1
    · rw [List.mem_singleton.1 h1]; exact hb, by have := h.ln; omega⟩
theorem rfparse_ok (l : List UInt8) (hl : l.length < 1000000) (hK : FracK M K (parF l)) : CallS Tryd.prog 48 [.ext (.string (bs l))] [] M [] K := by
  refine inlS (cs := [14]) Tryd.mixed Tryd.func48 rfl (by kernel_rfl) 0 rfl rfl ?_
  simp only [Tryd.f48]
  unfold parF at hK
  by_cases h26 : 2601 < l.length
  · have d1 : decide ((2601 : Int) < (l.length : Int)) = true := by rw [decide_eq_true_eq]; omega
    rw [if_pos h26] at hK
    (replace hb0 := true_and True); refine Go1.mk ?_; repeat' ((first | (with_reducible refine Go1.go ?_) | ((with_reducible first | refine brv_mk ?_ ?_ | refine gsplitD ?_ ?_ | refine gsplitG ?_ ?_) <;> intro h <;> (try simp only [Bool.not_eq_true', Bool.not_eq_false'] at h) <;> replace hb0 := h) | (refine And.intro ?ob ?_; case ob => ((try simp only [sxO, ne_eq, maxLen] at *); omega)) | fail) <;> (try simp (config := { maxSteps := 1000000 }) only [hb0, d1, bs_mk, bs_app, bs_ext, bs_size, bs_toList, bs_at, bs_cells, List.take_length, imp_ga, guard_pk, guard_pk2, ↓hold_pre, awayP, runOps, regK, step1, newK, genR, appR, obl, buildR, Value.cells, closeK, keepH, outV, retK, ret1, retC, RetV, Option.getD, runD, stepD, afterK, undef, simprocAttr, sxB, ↓sxD, sxE, sxTab]))
    exact hK.err _ (Mem.le.refl _)
  have d1 : decide ((2601 : Int) < (l.length : Int)) = false := by rw [decide_eq_false_iff_not]; omega
  rw [if_neg h26] at hK
  (replace hb0 := true_and True); refine Go1.mk ?_; repeat' ((first | (with_reducible refine Go1.go ?_) | ((with_reducible first | refine brv_mk ?_ ?_ | refine gsplitD ?_ ?_ | refine gsplitG ?_ ?_) <;> intro h <;> (try simp only [Bool.not_eq_true', Bool.not_eq_false'] at h) <;> replace hb0 := h) | (refine And.intro ?ob ?_; case ob => ((try simp only [sxO, ne_eq, maxLen] at *); omega)) | fail) <;> (try simp (config := { maxSteps := 1000000 }) only [hb0, d1, cE_ment, hasK_nil, cE_kill, cE_len, u32_one, u32_app1, u32_set, Nat.mul_one, bs_mk, bs_app, bs_ext, bs_size, bs_toList, bs_at, bs_cells, List.take_length, imp_ga, guard_pk, guard_pk2, ↓hold_pre, awayP, runOps, regK, step1, newK, genR, appR, obl, buildR, Value.cells, closeK, keepH, outV, retK, ret1, retC, RetV, Option.getD, runD, stepD, afterK, undef, simprocAttr, sxB, ↓sxD, sxE, sxTab]))
  refine ⟨fun m z => ∃ i Q x, m = l.length - i ∧ i ≤ l.length ∧ PartI l i Q x ∧ z = rpS2 M l i Q x, ⟨l.length, rpS2 M l 0 [] [], le_sub ⟨rfl, rfl, rfl, rfl, trivial⟩ ⟨rfl, rfl, trivial⟩ rfl rfl rfl (keepLt0 _), ⟨0, [], [], by omega, by omega, ⟨rfl, by simp, by simp, by simp⟩, rfl⟩⟩, ?_⟩
  rintro m z ⟨i, Q, x, rfl, hi, hP, rfl⟩
  have hQl := hP.ln
  have hcl : (cE strB (Q ++ [x])).length = Q.length + 1 := by rw [cE_len]; simp
  have hone : allOne (cE strB (Q ++ [x])) = True := eq_true (allOne_cE strB (fun _ => rfl) _)
  by_cases hlt : i < l.length
  · have d2 : decide ((i : Int) < (l.length : Int)) = true := by rw [decide_eq_true_eq]; omega
    have a1 : (0 : Int) ≤ (i : Int) := by omega
    have a2 : (i : Int) < (l.length : Int) := by omega
    have g1 := getD_of hlt
    have wi : IntKind.i64.wrap ((i : Int) + 1) = ((i + 1 : Nat) : Int) := succ_i (by omega)
    by_cases hb : l[i] = 47
    · have hP2 := partI_slash hP hlt hb
      have d3 : decide ((l[i].toNat : Int) = 47) = true := by rw [hb]; decide
      have s1 : cE strB (Q ++ [x]) ++ [.ext (.string (bs []))] = cE strB ((Q ++ [x]) ++ [[]]) := cE_snoc strB (Q ++ [x]) []
      have hlm : Q.length + 1 + 1 = (Q ++ [x]).length + 1 := by simp
      (replace hb0 := true_and True); refine Go1.mk ?_; repeat' ((first | (with_reducible refine Go1.go ?_) | ((with_reducible first | refine brv_mk ?_ ?_ | refine gsplitD ?_ ?_ | refine gsplitG ?_ ?_) <;> intro h <;> (try simp only [Bool.not_eq_true', Bool.not_eq_false'] at h) <;> replace hb0 := h) | ((with_reducible refine isDraw [some 28, some 29, some 30, some 31, some 32, some 33, some 34, some 35, some 36, some 37, some 38, some 39, some 40, none] (by decide) ?_); refine draw_rule [(0, []), (1, []), (2, []), (3, []), (4, []), (5, []), (6, [5]), (7, [5]), (8, [5]), (9, [5]), (10, [5]), (11, []), (12, []), (13, [])] [[], [], [1], [1, 2], [0, 1, 2, 3], [0, 1, 2, 3, 4], [], [], [], [8], [6, 7, 8, 9], [0, 1, 2, 3, 4, 5, 6, 7, 8, 9, 10], [0, 1, 2, 3, 4, 5, 6, 7, 8, 9, 10, 11], [0, 1, 2, 3, 4, 5, 6, 7, 8, 9, 10, 11, 12]] [28, 29, 30, 31, 32, 33, 34, 35, 36, 37, 38] [] (by kernel_rfl) (by kernel_rfl) (by kernel_rfl) (by kernel_rfl) (by exact trivial) ?_) | (refine And.intro ?ob ?_; case ob => ((try simp only [sxO, ne_eq, maxLen] at *); omega)) | fail) <;> (try simp (config := { maxSteps := 1000000 }) only [hb0, rpS2, d2, d3, a1, a2, g1, wi, s1, hcl, hone, maxLen, cE_ment, hasK_nil, cE_kill, cE_len, u32_one, u32_app1, u32_set, Nat.mul_one, bs_mk, bs_app, bs_ext, bs_size, bs_toList, bs_at, bs_cells, List.take_length, imp_ga, guard_pk, guard_pk2, ↓hold_pre, awayP, runOps, regK, step1, newK, genR, appR, obl, buildR, Value.cells, closeK, keepH, outV, retK, ret1, retC, RetV, Option.getD, runD, stepD, afterK, undef, simprocAttr, sxB, ↓sxD, sxE, sxTab]))
      exact ⟨l.length - (i + 1), rpS2 M l (i + 1) (Q ++ [x]) [], by omega, le_sub ⟨rfl, by rw [← hlm]; rfl, rfl, rfl, trivial⟩ ⟨rfl, rfl, trivial⟩ rfl rfl rfl (keepLt0 _), i + 1, _, _, rfl, by omega, hP2, rfl⟩
    · have hP2 := partI_other hP hlt hb
      have d3 : decide ((l[i].toNat : Int) = 47) = false := by
        rw [decide_eq_false_iff_not]
        intro e
        exact hb (UInt8.toNat_inj.1 (show l[i].toNat = (47 : UInt8).toNat by rw [show (47 : UInt8).toNat = 47 from rfl]; omega))
      have hxl : x.length ≤ l.length := by
        have := congrArg List.length hP.eq
        rw [List.length_append, List.length_take] at this
        omega
      have w1 : IntKind.i64.wrap (((Q.length + 1 : Nat) : Int) - 1) = (Q.length : Int) := by rw [wrap_id (by omega) (by omega)]; omega
      have b1 : (0 : Int) ≤ (Q.length : Int) := by omega
      have b2 : (Q.length : Int) < ((Q.length + 1 : Nat) : Int) := by omega
      have b3 : Q.length < Q.length + 1 := by omega
      have a3 : (i : Int) ≤ ((i + 1 : Nat) : Int) := by omega
      have a4 : ((i + 1 : Nat) : Int) ≤ (l.length : Int) := by omega
      have hat : (cE strB (Q ++ [x]))[Q.length]? = some (.ext (.string (bs x))) := by
        have := cE_at strB (l := Q ++ [x]) (i := Q.length) (by simp)
        rw [this]; simp [strB]
      have t1 : (l.take (i + 1)).drop i = [l[i]] := by
        rw [List.take_add_one, List.getElem?_eq_getElem hlt, List.drop_append]
        simp [List.length_take, Nat.min_eq_left (Nat.le_of_lt hlt)]
      have s1 : (cE strB (Q ++ [x])).set Q.length (.ext (.string (bs (x ++ [l[i]])))) = cE strB (Q ++ [x ++ [l[i]]]) := by
        have := cE_set strB (Q ++ [x]) Q.length (x ++ [l[i]])
        rw [show (Q ++ [x]).set Q.length (x ++ [l[i]]) = Q ++ [x ++ [l[i]]] by simp] at this
        exact this
      have sz : ((x.length + 1 : Nat) : Int) ≤ 9223372036854775807 := by omega
      (replace hb0 := true_and True); refine Go1.mk ?_; repeat' ((first | (with_reducible refine Go1.go ?_) | ((with_reducible first | refine brv_mk ?_ ?_ | refine gsplitD ?_ ?_ | refine gsplitG ?_ ?_) <;> intro h <;> (try simp only [Bool.not_eq_true', Bool.not_eq_false'] at h) <;> replace hb0 := h) | ((with_reducible refine isDraw [some 28, some 29, some 30, some 31, some 32, some 33, some 34, some 35, some 36, some 37, some 38, some 39, some 40, none] (by decide) ?_); refine draw_rule [(0, []), (1, []), (2, []), (3, []), (4, []), (5, []), (6, [5]), (7, [5]), (8, [5]), (9, [5]), (10, [5]), (11, []), (12, []), (13, [])] [[], [], [1], [1, 2], [0, 1, 2, 3], [0, 1, 2, 3, 4], [], [], [], [8], [6, 7, 8, 9], [0, 1, 2, 3, 4, 5, 6, 7, 8, 9, 10], [0, 1, 2, 3, 4, 5, 6, 7, 8, 9, 10, 11], [0, 1, 2, 3, 4, 5, 6, 7, 8, 9, 10, 11, 12]] [28, 29, 30, 31, 32, 33, 34, 35, 36, 37, 38] [] (by kernel_rfl) (by kernel_rfl) (by kernel_rfl) (by kernel_rfl) (by exact trivial) ?_) | (refine And.intro ?ob ?_; case ob => ((try simp only [sxO, ne_eq, maxLen] at *); omega)) | fail) <;> (try simp (config := { maxSteps := 1000000 }) only [hb0, rpS2, d2, d3, a1, a2, a3, a4, b1, b2, b3, g1, wi, w1, hat, t1, s1, hcl, hone, sz, cE_ment, hasK_nil, cE_kill, cE_len, u32_one, u32_app1, u32_set, Nat.mul_one, bs_mk, bs_app, bs_ext, bs_size, bs_toList, bs_at, bs_cells, List.take_length, imp_ga, guard_pk, guard_pk2, ↓hold_pre, awayP, runOps, regK, step1, newK, genR, appR, obl, buildR, Value.cells, closeK, keepH, outV, retK, ret1, retC, RetV, Option.getD, runD, stepD, afterK, undef, simprocAttr, sxB, ↓sxD, sxE, sxTab]))
      exact ⟨l.length - (i + 1), rpS2 M l (i + 1) Q (x ++ [l[i]]), by omega, le_sub ⟨rfl, rfl, rfl, rfl, trivial⟩ ⟨rfl, rfl, trivial⟩ rfl rfl rfl (keepLt0 _), i + 1, _, _, rfl, by omega, hP2, rfl⟩
  obtain rfl : i = l.length := by omega
  have d2 : decide ((l.length : Int) < (l.length : Int)) = false := by simp
  have hE := hP.eq
  rw [List.take_length] at hE
  obtain ⟨n, hn⟩ : ∃ n, n = Q.length + 1 := ⟨_, rfl⟩
  obtain ⟨cs, hcs⟩ : ∃ cs, cs = cE strB (Q ++ [x]) := ⟨_, rfl⟩
  have hst : rpS2 M l l.length Q x = rpS5 M l l.length n cs := by rw [hn, hcs]; rfl
  rw [hst]
  have hcase : (2 < n ∧ (sndP l).contains 47 = true) ∨ ∃ a b, fstP l = a ∧ sndP l = b ∧ b.contains 47 = false ∧ ((n = 1 ∧ cs = [.ext (.string (bs a))] ∧ b = [49]) ∨ (n = 2 ∧ cs = [.ext (.string (bs a)), .ext (.string (bs b))])) := by
    rcases Q with _ | ⟨q1, _ | ⟨q2, Q⟩⟩
    · have hE : x = l := by simpa using hE
      obtain ⟨f1, f2⟩ := fst_all (a := l) (by rw [← hE]; exact hP.nx)
      exact .inr ⟨l, [49], f1, by unfold sndP; rw [if_pos f2], by decide, .inl ⟨hn, by rw [hcs, hE]; rfl, rfl⟩⟩
    · have hE : l = q1 ++ 47 :: x := by rw [← hE]; simp
      obtain ⟨f1, f2⟩ := fst_app (a := q1) (t := x) (hP.no q1 (by simp))
      rw [← hE] at f1 f2
      exact .inr ⟨q1, x, f1, by unfold sndP; rw [f2, if_neg (by simp)]; rfl, by simpa using fun h => hP.nx 47 h rfl, .inr ⟨hn, by rw [hcs]; rfl⟩⟩
    · have hE : l = q1 ++ 47 :: (q2 ++ 47 :: (Q.flatMap (· ++ [47]) ++ x)) := by rw [← hE]; simp
      obtain ⟨f1, f2⟩ := fst_app (a := q1) (t := q2 ++ 47 :: (Q.flatMap (· ++ [47]) ++ x)) (hP.no q1 (by simp))
      rw [← hE] at f1 f2
      refine .inl ⟨by rw [hn]; simp, ?_⟩
      unfold sndP
      rw [f2, if_neg (by simp)]
      simp
  clear hst hn hcs hone hcl hE hP hQl
  have hsl := snd_len l
  have hfl := fst_len l
  rcases hcase with ⟨h2, hc⟩ | ⟨a, b, hfa, hsb, hc, hcase⟩
  · have d3 : decide ((2 : Int) < (n : Int)) = true := by rw [decide_eq_true_eq]; omega
    unfold mkP at hK
    rw [if_pos (.inr (.inr hc))] at hK
    (replace hb0 := true_and True); refine Go1.mk ?_; repeat' ((first | (with_reducible refine Go1.go ?_) | ((with_reducible first | refine brv_mk ?_ ?_ | refine gsplitD ?_ ?_ | refine gsplitG ?_ ?_) <;> intro h <;> (try simp only [Bool.not_eq_true', Bool.not_eq_false'] at h) <;> replace hb0 := h) | (refine And.intro ?ob ?_; case ob => ((try simp only [sxO, ne_eq, maxLen] at *); omega)) | fail) <;> (try simp (config := { maxSteps := 1000000 }) only [hb0, rpS5, d2, d3, cE_ment, hasK_nil, cE_kill, cE_len, u32_one, u32_app1, u32_set, Nat.mul_one, bs_mk, bs_app, bs_ext, bs_size, bs_toList, bs_at, bs_cells, List.take_length, imp_ga, guard_pk, guard_pk2, ↓hold_pre, awayP, runOps, regK, step1, newK, genR, appR, obl, buildR, Value.cells, closeK, keepH, outV, retK, ret1, retC, RetV, Option.getD, runD, stepD, afterK, undef, simprocAttr, sxB, ↓sxD, sxE, sxTab]))
    exact hK.err _ (Mem.le.refl _)
  rw [hfa, hsb, hc] at hK
  rw [hfa] at hfl
  rw [hsb] at hsl
  have d3 : decide ((2 : Int) < (n : Int)) = false := by
    rw [decide_eq_false_iff_not]
    rcases hcase with h | h <;> omega
  (replace hb0 := true_and True); refine Go1.mk ?_; repeat' ((first | (with_reducible refine Go1.go ?_) | ((with_reducible first | refine brv_mk ?_ ?_ | refine gsplitD ?_ ?_ | refine gsplitG ?_ ?_) <;> intro h <;> (try simp only [Bool.not_eq_true', Bool.not_eq_false'] at h) <;> replace hb0 := h) | (refine And.intro ?ob ?_; case ob => ((try simp only [sxO, ne_eq, maxLen] at *); omega)) | fail) <;> (try simp (config := { maxSteps := 1000000 }) only [hb0, rpS5, d2, d3, cE_ment, hasK_nil, cE_kill, cE_len, u32_one, u32_app1, u32_set, Nat.mul_one, bs_mk, bs_app, bs_ext, bs_size, bs_toList, bs_at, bs_cells, List.take_length, imp_ga, guard_pk, guard_pk2, ↓hold_pre, awayP, runOps, regK, step1, newK, genR, appR, obl, buildR, Value.cells, closeK, keepH, outV, retK, ret1, retC, RetV, Option.getD, runD, stepD, afterK, undef, simprocAttr, sxB, ↓sxD, sxE, sxTab]))
  refine ⟨fun z => z = rpS3 M a b, ?_, ?_⟩
  · rcases hcase with ⟨rfl, rfl, rfl⟩ | ⟨rfl, rfl⟩
    · have d4 : decide (((1 : Nat) : Int) = 1) = true := by decide
      (replace hb0 := true_and True); refine Go1.mk ?_; repeat' ((first | (with_reducible refine Go1.go ?_) | ((with_reducible first | refine brv_mk ?_ ?_ | refine gsplitD ?_ ?_ | refine gsplitG ?_ ?_) <;> intro h <;> (try simp only [Bool.not_eq_true', Bool.not_eq_false'] at h) <;> replace hb0 := h) | (refine And.intro ?ob ?_; case ob => ((try simp only [sxO, ne_eq, maxLen] at *); omega)) | fail) <;> (try simp (config := { maxSteps := 1000000 }) only [hb0, d4, maxLen, bs_mk, bs_app, bs_ext, bs_size, bs_toList, bs_at, bs_cells, List.take_length, imp_ga, guard_pk, guard_pk2, ↓hold_pre, awayP, runOps, regK, step1, newK, genR, appR, obl, buildR, Value.cells, closeK, keepH, outV, retK, ret1, retC, RetV, Option.getD, runD, stepD, afterK, undef, simprocAttr, sxB, ↓sxD, sxE, sxTab]))
      exact ⟨rpS3 M a [49], le_sub ⟨rfl, rfl, trivial⟩ ⟨rfl, rfl, trivial⟩ rfl rfl rfl (keepLt0 _), rfl⟩
    · have d4 : decide (((2 : Nat) : Int) = 1) = false := by decide
      (replace hb0 := true_and True); refine Go1.mk ?_; repeat' ((first | (with_reducible refine Go1.go ?_) | ((with_reducible first | refine brv_mk ?_ ?_ | refine gsplitD ?_ ?_ | refine gsplitG ?_ ?_) <;> intro h <;> (try simp only [Bool.not_eq_true', Bool.not_eq_false'] at h) <;> replace hb0 := h) | (refine And.intro ?ob ?_; case ob => ((try simp only [sxO, ne_eq, maxLen] at *); omega)) | fail) <;> (try simp (config := { maxSteps := 1000000 }) only [hb0, d4, maxLen, bs_mk, bs_app, bs_ext, bs_size, bs_toList, bs_at, bs_cells, List.take_length, imp_ga, guard_pk, guard_pk2, ↓hold_pre, awayP, runOps, regK, step1, newK, genR, appR, obl, buildR, Value.cells, closeK, keepH, outV, retK, ret1, retC, RetV, Option.getD, runD, stepD, afterK, undef, simprocAttr, sxB, ↓sxD, sxE, sxTab]))
      exact ⟨rpS3 M a b, le_sub ⟨rfl, rfl, trivial⟩ ⟨rfl, rfl, trivial⟩ rfl rfl rfl (keepLt0 _), rfl⟩
  rintro z rfl
  clear hcase d2 d3
  obtain ⟨o1, s1, k1⟩ := parR_fine a
  obtain ⟨o2, s2, k2⟩ := parR_fine b
  have c1 := parR_canon (l := a)
  have c2 := parR_canon (l := b)
  unfold mkP at hK
  (replace hb0 := true_and True); refine Go1.mk ?_; repeat' ((first | (with_reducible refine Go1.go ?_) | ((with_reducible first | refine brv_mk ?_ ?_ | refine gsplitD ?_ ?_ | refine gsplitG ?_ ?_) <;> intro h <;> (try simp only [Bool.not_eq_true', Bool.not_eq_false'] at h) <;> replace hb0 := h) | ((first | (with_reducible refine isCall (f := 88) ?_; refine callA_nil (by kernel_rfl) ?_) | (with_reducible refine isCall0 (f := 88) ?_; refine callA0_nil (by kernel_rfl) ?_)); refine (rparse_ok a (by omega) (fun w1 M1 a1 a2 _ => Stop.mk ?_))) | (refine And.intro ?ob ?_; case ob => ((try simp only [sxO, ne_eq, maxLen] at *); omega)) | fail) <;> (try simp (config := { maxSteps := 1000000 }) only [hb0, rpS3, bs_mk, bs_app, bs_ext, bs_size, bs_toList, bs_at, bs_cells, List.take_length, imp_ga, guard_pk, guard_pk2, ↓hold_pre, awayP, runOps, regK, step1, newK, genR, appR, obl, buildR, Value.cells, closeK, keepH, outV, retK, ret1, retC, RetV, Option.getD, runD, stepD, afterK, undef, simprocAttr, sxB, ↓sxD, sxE, sxTab]))
  have a1 : Mem.le M M1 := a1
  refine Stop.go ?_
  (replace hb0 := true_and True); refine Go1.mk ?_; repeat' ((first | (with_reducible refine Go1.go ?_) | ((with_reducible first | refine brv_mk ?_ ?_ | refine gsplitD ?_ ?_ | refine gsplitG ?_ ?_) <;> intro h <;> (try simp only [Bool.not_eq_true', Bool.not_eq_false'] at h) <;> replace hb0 := h) | ((first | (with_reducible refine isCall (f := 88) ?_; refine callA_nil (by kernel_rfl) ?_) | (with_reducible refine isCall0 (f := 88) ?_; refine callA0_nil (by kernel_rfl) ?_)); refine (rparse_ok b (by omega) (fun w2 M2 b1 b2 _ => Stop.mk ?_))) | (refine And.intro ?ob ?_; case ob => ((try simp only [sxO, ne_eq, maxLen] at *); omega)) | fail) <;> (try simp (config := { maxSteps := 1000000 }) only [hb0, a2.one, bs_mk, bs_app, bs_ext, bs_size, bs_toList, bs_at, bs_cells, List.take_length, imp_ga, guard_pk, guard_pk2, ↓hold_pre, awayP, runOps, regK, step1, newK, genR, appR, obl, buildR, Value.cells, closeK, keepH, outV, retK, ret1, retC, RetV, Option.getD, runD, stepD, afterK, undef, simprocAttr, sxB, ↓sxD, sxE, sxTab]))
  have b1 : Mem.le M1 M2 := b1
  have a2 := a2.le b1
  have hM := a1.trans b1
  generalize parR a = e at *
  generalize parR b = f at *
  obtain ⟨e, x⟩ := e
  obtain ⟨f, y⟩ := f
  refine Stop.go ?_
  simp only at hK a2 b2 o1 o2 s1 s2 k1 k2 c1 c2
  by_cases g1 : e = 6
  · have d2 : decide (e = 6) = true := decide_eq_true g1
    rw [if_pos (.inl g1)] at hK
    (replace hb0 := true_and True); refine Go1.mk ?_; repeat' ((first | (with_reducible refine Go1.go ?_) | ((with_reducible first | refine brv_mk ?_ ?_ | refine gsplitD ?_ ?_ | refine gsplitG ?_ ?_) <;> intro h <;> (try simp only [Bool.not_eq_true', Bool.not_eq_false'] at h) <;> replace hb0 := h) | (refine And.intro ?ob ?_; case ob => ((try simp only [sxO, ne_eq, maxLen] at *); omega)) | fail) <;> (try simp (config := { maxSteps := 1000000 }) only [hb0, a2.one, b2.one, d2, bs_mk, bs_app, bs_ext, bs_size, bs_toList, bs_at, bs_cells, List.take_length, imp_ga, guard_pk, guard_pk2, ↓hold_pre, awayP, runOps, regK, step1, newK, genR, appR, obl, buildR, Value.cells, closeK, keepH, outV, retK, ret1, retC, RetV, Option.getD, runD, stepD, afterK, undef, simprocAttr, sxB, ↓sxD, sxE, sxTab]))
    exact hK.err _ hM
  have d2 : decide (e = 6) = false := decide_eq_false g1
  by_cases g2 : f = 6
  · have d3 : decide (f = 6) = true := decide_eq_true g2
    rw [if_pos (.inr (.inl g2))] at hK
    (replace hb0 := true_and True); refine Go1.mk ?_; repeat' ((first | (with_reducible refine Go1.go ?_) | ((with_reducible first | refine brv_mk ?_ ?_ | refine gsplitD ?_ ?_ | refine gsplitG ?_ ?_) <;> intro h <;> (try simp only [Bool.not_eq_true', Bool.not_eq_false'] at h) <;> replace hb0 := h) | (refine And.intro ?ob ?_; case ob => ((try simp only [sxO, ne_eq, maxLen] at *); omega)) | fail) <;> (try simp (config := { maxSteps := 1000000 }) only [hb0, a2.one, b2.one, d2, d3, bs_mk, bs_app, bs_ext, bs_size, bs_toList, bs_at, bs_cells, List.take_length, imp_ga, guard_pk, guard_pk2, ↓hold_pre, awayP, runOps, regK, step1, newK, genR, appR, obl, buildR, Value.cells, closeK, keepH, outV, retK, ret1, retC, RetV, Option.getD, runD, stepD, afterK, undef, simprocAttr, sxB, ↓sxD, sxE, sxTab]))
    exact hK.err _ hM
  have d3 : decide (f = 6) = false := decide_eq_false g2
  rw [if_neg (by simp [g1, g2])] at hK
  by_cases g3 : e = 0
  case neg =>
    have d4 : decide (e = 0) = false := decide_eq_false g3
    have : e = 2 := by clear c1 c2; omega
    rw [if_pos g3, this] at hK
    (replace hb0 := true_and True); refine Go1.mk ?_; repeat' ((first | (with_reducible refine Go1.go ?_) | ((with_reducible first | refine brv_mk ?_ ?_ | refine gsplitD ?_ ?_ | refine gsplitG ?_ ?_) <;> intro h <;> (try simp only [Bool.not_eq_true', Bool.not_eq_false'] at h) <;> replace hb0 := h) | (refine And.intro ?ob ?_; case ob => ((try simp only [sxO, ne_eq, maxLen] at *); omega)) | fail) <;> (try simp (config := { maxSteps := 1000000 }) only [hb0, a2.one, b2.one, d2, d3, d4, bs_mk, bs_app, bs_ext, bs_size, bs_toList, bs_at, bs_cells, List.take_length, imp_ga, guard_pk, guard_pk2, ↓hold_pre, awayP, runOps, regK, step1, newK, genR, appR, obl, buildR, Value.cells, closeK, keepH, outV, retK, ret1, retC, RetV, Option.getD, runD, stepD, afterK, undef, simprocAttr, sxB, ↓sxD, sxE, sxTab]))
    exact hK.err _ hM
  have d4 : decide (e = 0) = true := decide_eq_true g3
  rw [if_neg (fun h => h g3)] at hK
  by_cases g4 : f = 0
  case neg =>
    have d5 : decide (f = 0) = false := decide_eq_false g4
    have : f = 2 := by clear c1 c2; omega
    rw [if_pos g4, this] at hK
    (replace hb0 := true_and True); refine Go1.mk ?_; repeat' ((first | (with_reducible refine Go1.go ?_) | ((with_reducible first | refine brv_mk ?_ ?_ | refine gsplitD ?_ ?_ | refine gsplitG ?_ ?_) <;> intro h <;> (try simp only [Bool.not_eq_true', Bool.not_eq_false'] at h) <;> replace hb0 := h) | (refine And.intro ?ob ?_; case ob => ((try simp only [sxO, ne_eq, maxLen] at *); omega)) | fail) <;> (try simp (config := { maxSteps := 1000000 }) only [hb0, a2.one, b2.one, d2, d3, d4, d5, bs_mk, bs_app, bs_ext, bs_size, bs_toList, bs_at, bs_cells, List.take_length, imp_ga, guard_pk, guard_pk2, ↓hold_pre, awayP, runOps, regK, step1, newK, genR, appR, obl, buildR, Value.cells, closeK, keepH, outV, retK, ret1, retC, RetV, Option.getD, runD, stepD, afterK, undef, simprocAttr, sxB, ↓sxD, sxE, sxTab]))
    exact hK.err _ hM
  have d5 : decide (f = 0) = true := decide_eq_true g4
  rw [if_neg (fun h => h g4)] at hK
  obtain ⟨u, rfl, hu⟩ := c1 g3
  obtain ⟨v, rfl, hv⟩ := c2 g4
  unfold makF at hK
  rw [chkN_ofN hu, chkN_ofN hv, Bool.and_self, if_pos rfl, valN_ofN, valN_ofN] at hK
  by_cases g5 : v = 0
  · have d6 : decide (((ofN v).length : Int) = 0) = true := by rw [g5, ofN_zero]; rfl
    rw [if_pos g5] at hK
    (replace hb0 := true_and True); refine Go1.mk ?_; repeat' ((first | (with_reducible refine Go1.go ?_) | ((with_reducible first | refine brv_mk ?_ ?_ | refine gsplitD ?_ ?_ | refine gsplitG ?_ ?_) <;> intro h <;> (try simp only [Bool.not_eq_true', Bool.not_eq_false'] at h) <;> replace hb0 := h) | (refine And.intro ?ob ?_; case ob => ((try simp only [sxO, ne_eq, maxLen] at *); omega)) | fail) <;> (try simp (config := { maxSteps := 1000000 }) only [hb0, a2.one, b2.one, b2.len, b2.sl, d2, d3, d4, d5, d6, bs_mk, bs_app, bs_ext, bs_size, bs_toList, bs_at, bs_cells, List.take_length, imp_ga, guard_pk, guard_pk2, ↓hold_pre, awayP, runOps, regK, step1, newK, genR, appR, obl, buildR, Value.cells, closeK, keepH, outV, retK, ret1, retC, RetV, Option.getD, runD, stepD, afterK, undef, simprocAttr, sxB, ↓sxD, sxE, sxTab]))
    exact hK.err _ hM
  have d6 : decide (((ofN v).length : Int) = 0) = false := by
    rw [decide_eq_false_iff_not]
    intro h
    exact g5 (ofN_nil.1 (List.length_eq_zero_iff.1 (by omega)))
  rw [if_neg g5, exF_is hu hv] at hK
  (replace hb0 := true_and True); refine Go1.mk ?_; repeat' ((first | (with_reducible refine Go1.go ?_) | ((with_reducible first | refine brv_mk ?_ ?_ | refine gsplitD ?_ ?_ | refine gsplitG ?_ ?_) <;> intro h <;> (try simp only [Bool.not_eq_true', Bool.not_eq_false'] at h) <;> replace hb0 := h) | ((first | (with_reducible refine isCall (f := 53) ?_; refine callA_nil (by kernel_rfl) ?_) | (with_reducible refine isCall0 (f := 53) ?_; refine callA0_nil (by kernel_rfl) ?_)); refine (rlowest_ok w1 w2 u v a2 b2 (by omega) (by omega) (by omega) (fun w3 w4 M3 e1 e2 e3 e4 e5 => Stop.mk ?_))) | (refine And.intro ?ob ?_; case ob => ((try simp only [sxO, ne_eq, maxLen] at *); omega)) | fail) <;> (try simp (config := { maxSteps := 1000000 }) only [hb0, a2.one, b2.one, b2.len, b2.sl, d2, d3, d4, d5, d6, bs_mk, bs_app, bs_ext, bs_size, bs_toList, bs_at, bs_cells, List.take_length, imp_ga, guard_pk, guard_pk2, ↓hold_pre, awayP, runOps, regK, step1, newK, genR, appR, obl, buildR, Value.cells, closeK, keepH, outV, retK, ret1, retC, RetV, Option.getD, runD, stepD, afterK, undef, simprocAttr, sxB, ↓sxD, sxE, sxTab]))
  have e1 : Mem.le M2 M3 := e1
  refine Stop.go ?_
  (replace hb0 := true_and True); refine Go1.mk ?_; repeat' ((first | (with_reducible refine Go1.go ?_) | ((with_reducible first | refine brv_mk ?_ ?_ | refine gsplitD ?_ ?_ | refine gsplitG ?_ ?_) <;> intro h <;> (try simp only [Bool.not_eq_true', Bool.not_eq_false'] at h) <;> replace hb0 := h) | (refine And.intro ?ob ?_; case ob => ((try simp only [sxO, ne_eq, maxLen] at *); omega)) | fail) <;> (try simp (config := { maxSteps := 1000000 }) only [hb0, e2.one, e3.one, bs_mk, bs_app, bs_ext, bs_size, bs_toList, bs_at, bs_cells, List.take_length, imp_ga, guard_pk, guard_pk2, ↓hold_pre, awayP, runOps, regK, step1, newK, genR, appR, obl, buildR, Value.cells, closeK, keepH, outV, retK, ret1, retC, RetV, Option.getD, runD, stepD, afterK, undef, simprocAttr, sxB, ↓sxD, sxE, sxTab]))
  exact hK _ _ _ (hM.trans e1) e2 e3 (e4.le hM) (e5.le hM)
end
end Go.Proofs.YtamghpnjdohnjaaDoor.Sx
namespace Go.Proofs.YtamghpnjdohnjaaDoor.Sx
open Go Go.RowKit
set_option linter.unusedVariables false
set_option linter.unusedSimpArgs false
set_option maxRecDepth 100000
set_option maxHeartbeats 8000000
attribute [local congr] fin_congr finG_congr stepG_congr step1_congr runOps_congr brv_congr obl_congr condK_congr LoopK_congr seqK_congr CutK_congr vc_congr DrawK_congr regK_congr CallK_congr AskK_congr newK_congr retC_congr ret1_congr retK_congr outV_congr closeK_congr genR_congr appR_congr finD_congr finGD_congr stepGD_congr stepD_congr CallK0_congr runD_congr okR_congr CallS_congr vcX_congr
attribute [local congr] Stop_congr
section
variable {M : Mem} {K : AV → Hp → Mem → Prop} {u1 u2 v1 v2 : Value} {l1 l2 k1 k2 : List Nat}
end
end Go.Proofs.YtamghpnjdohnjaaDoor.Sx
namespace Go.Proofs.YtamghpnjdohnjaaDoor.Sx
open Go Go.RowKit
set_option linter.unusedVariables false
set_option linter.unusedSimpArgs false
set_option maxRecDepth 100000
set_option maxHeartbeats 8000000
attribute [local congr] fin_congr finG_congr stepG_congr step1_congr runOps_congr brv_congr obl_congr condK_congr LoopK_congr seqK_congr CutK_congr vc_congr DrawK_congr regK_congr CallK_congr AskK_congr newK_congr retC_congr ret1_congr retK_congr outV_congr closeK_congr genR_congr appR_congr finD_congr finGD_congr stepGD_congr stepD_congr CallK0_congr runD_congr okR_congr CallS_congr vcX_congr
attribute [local congr] Stop_congr
theorem exF_len (n d : Nat) : (ofN (exF n d).2.1).length ≤ 128 ∧ (ofN (exF n d).2.2).length ≤ 128 := by
  unfold exF
  split
  · assumption
  · simp only [ofN_zero]; simp
theorem makF_len (a b : List Nat) : (ofN (makF a b).2.1).length ≤ 128 ∧ (ofN (makF a b).2.2).length ≤ 128 := by
  unfold makF
  split
  · split
    · simp only [ofN_zero]; simp
    · exact exF_len _ _
  · simp only [ofN_zero]; simp
section
variable {M : Mem} {K : AV → Hp → Mem → Prop}
end
end Go.Proofs.YtamghpnjdohnjaaDoor.Sx
namespace Go.Proofs.YtamghpnjdohnjaaDoor.Sx
open Go Go.RowKit
set_option linter.unusedVariables false
set_option linter.unusedSimpArgs false
set_option maxRecDepth 100000
set_option maxHeartbeats 8000000
attribute [local congr] fin_congr finG_congr stepG_congr step1_congr runOps_congr brv_congr obl_congr condK_congr LoopK_congr seqK_congr CutK_congr vc_congr DrawK_congr regK_congr CallK_congr AskK_congr newK_congr retC_congr ret1_congr retK_congr outV_congr closeK_congr genR_congr appR_congr finD_congr finGD_congr stepGD_congr stepD_congr CallK0_congr runD_congr okR_congr CallS_congr vcX_congr
attribute [local congr] Stop_congr
theorem floF_len (a b : List Nat) (ha : okN a) (hb : okN b) : (ofN (floF a b).2).length ≤ 128 := by
  unfold floF
  cases hc : chkF a b with
  | false => simp only [Bool.false_eq_true, if_false, ofN_zero]; simp
  | true =>
    obtain ⟨e1, _, b1, _, _, _⟩ := chkF_ok ha hb hc
    rw [if_pos rfl]
    refine Nat.le_trans (len_mono (Nat.div_le_self _ _)) ?_
    rw [← e1]; exact b1
theorem fmtF_len (a b : List Nat) (ha : okN a) (hb : okN b) : (fmtF a b).2.length ≤ 10001 := by
  unfold fmtF
  cases hc : chkF a b with
  | false => simp
  | true =>
    obtain ⟨e1, e2, b1, b2, _, _⟩ := chkF_ok ha hb hc
    have h1 := decB_128 (n := valN a) (by rw [← e1]; exact b1)
    have h2 := decB_128 (n := valN b) (by rw [← e2]; exact b2)
    rw [if_pos rfl]
    split
    · simp only; omega
    · simp only [List.length_append, List.length_cons]; omega
theorem parF_len (l : List UInt8) : (ofN (parF l).2.1).length ≤ 128 ∧ (ofN (parF l).2.2).length ≤ 128 := by
  unfold parF mkP
  have z : (ofN 0).length ≤ 128 ∧ (ofN 0).length ≤ 128 := by simp only [ofN_zero]; simp
  split
  · exact z
  · split
    · exact z
    · split
      · exact z
      · split
        · exact z
        · exact makF_len _ _
section
variable {M : Mem} {K : AV → Hp → Mem → Prop}
def ftSt (M : Mem) (s t : List UInt8) : St := { env := [(16, .ext (.string (bs t))), (3, .ext (.string (bs s)))], hp := [], M := M, kb := 0, fx := [] }
def fuSt (M : Mem) (L : List (List UInt8)) (i : Nat) : St := { env := [(100, .ext (.int .i64 (i : Int))), (99, .ext (.int .i64 5)), (98, .slo 98 0 5 1)], hp := [(98, 9, cE strB L)], M := M, kb := 0, fx := [] }
theorem ftexts_ok (u v : Value) (i1 i2 : List Int) (g z : Int) (s : List UInt8) (hu : IsL M (intVk .u32) u i1) (hv : IsL M (intVk .u32) v i2) (o1 : ∀ x ∈ i1, (Lit.int .u32 x).wf = true) (o2 : ∀ x ∈ i2, (Lit.int .u32 x).wf = true)
    (hK : ∀ M', Mem.le M M' → K (.ext (.bool true)) [] M') : CallS Tryd.prog 8 [.ext u, .ext v, .ext (.int .i64 g), .ext (.string (bs s)), .ext (.int .i64 z)] [] M [] K := by
  obtain ⟨hu, o1⟩ := nats_of hu o1
  obtain ⟨hv, o2⟩ := nats_of hv o2
  generalize i1.map Int.toNat = i1 at *
  generalize i2.map Int.toNat = i2 at *
  refine inlS (cs := [16]) Tryd.mixed Tryd.func8 rfl (by kernel_rfl) 0 rfl rfl ?_
  simp only [Tryd.f8]
  (replace hb0 := true_and True); refine Go1.mk ?_; repeat' ((first | (with_reducible refine Go1.go ?_) | ((with_reducible first | refine brv_mk ?_ ?_ | refine gsplitD ?_ ?_ | refine gsplitG ?_ ?_) <;> intro h <;> (try simp only [Bool.not_eq_true', Bool.not_eq_false'] at h) <;> replace hb0 := h) | ((first | (with_reducible refine isCall (f := 19) ?_; refine callA_nil (by kernel_rfl) ?_) | (with_reducible refine isCall0 (f := 19) ?_; refine callA0_nil (by kernel_rfl) ?_)); refine (frac_ok u v i1 i2 z hu hv o1 o2 (fun a1 a2 M1 la ld m1 ha b1 b2 _ => Stop.mk ?_))) | (refine And.intro ?ob ?_; case ob => ((try simp only [sxO, ne_eq, maxLen] at *); omega)) | fail) <;> (try simp (config := { maxSteps := 1000000 }) only [hb0, hu.one, hv.one, bs_mk, bs_app, bs_ext, bs_size, bs_toList, bs_at, bs_cells, List.take_length, imp_ga, guard_pk, guard_pk2, ↓hold_pre, awayP, runOps, regK, step1, newK, genR, appR, obl, buildR, Value.cells, closeK, keepH, outV, retK, ret1, retC, RetV, Option.getD, runD, stepD, afterK, undef, simprocAttr, sxB, ↓sxD, sxE, sxTab]))
  have m1 : Mem.le M M1 := m1
  have hu := hu.le m1
  have hv := hv.le m1
  have hm := m1
  refine Stop.go ?_
  have ql := floF_len la ld ha.on ha.od
  have tl := fmtF_len la ld ha.on ha.od
  have k1 : decide ((floF la ld).1 = (floF la ld).1) = true := by simp
  have k2 : decide ((rouF la ld g).1 = (rouF la ld g).1) = true := by simp
  have k3 : ((rouF la ld g).2 == (rouF la ld g).2) = true := by simp
  have k4 : decide ((fmtF la ld).1 = (fmtF la ld).1) = true := by simp
  have k5 : ((fmtF la ld).2 == (fmtF la ld).2) = true := by simp
  (replace hb0 := true_and True); refine Go1.mk ?_; repeat' ((first | (with_reducible refine Go1.go ?_) | ((with_reducible first | refine brv_mk ?_ ?_ | refine gsplitD ?_ ?_ | refine gsplitG ?_ ?_) <;> intro h <;> (try simp only [Bool.not_eq_true', Bool.not_eq_false'] at h) <;> replace hb0 := h) | ((first | (with_reducible refine isCall (f := 40) ?_; refine callA_nil (by kernel_rfl) ?_) | (with_reducible refine isCall0 (f := 40) ?_; refine callA0_nil (by kernel_rfl) ?_)); refine (ffloor_ok ha (fun wp M2 m2 hp => Stop.mk ?_))) | (refine And.intro ?ob ?_; case ob => ((try simp only [sxO, ne_eq, maxLen] at *); omega)) | fail) <;> (try simp (config := { maxSteps := 1000000 }) only [hb0, ha.n.one, ha.d.one, bs_mk, bs_app, bs_ext, bs_size, bs_toList, bs_at, bs_cells, List.take_length, imp_ga, guard_pk, guard_pk2, ↓hold_pre, awayP, runOps, regK, step1, newK, genR, appR, obl, buildR, Value.cells, closeK, keepH, outV, retK, ret1, retC, RetV, Option.getD, runD, stepD, afterK, undef, simprocAttr, sxB, ↓sxD, sxE, sxTab]))
  have m2 : Mem.le M1 M2 := m2
  have ha := ha.le m2
  have hm := hm.trans m2
  refine Stop.go ?_
  (replace hb0 := true_and True); refine Go1.mk ?_; repeat' ((first | (with_reducible refine Go1.go ?_) | ((with_reducible first | refine brv_mk ?_ ?_ | refine gsplitD ?_ ?_ | refine gsplitG ?_ ?_) <;> intro h <;> (try simp only [Bool.not_eq_true', Bool.not_eq_false'] at h) <;> replace hb0 := h) | ((first | (with_reducible refine isCall (f := 41) ?_; refine callA_nil (by kernel_rfl) ?_) | (with_reducible refine isCall0 (f := 41) ?_; refine callA0_nil (by kernel_rfl) ?_)); refine (rffloor_ok ha (fun wq M3 m3 hq => Stop.mk ?_))) | (refine And.intro ?ob ?_; case ob => ((try simp only [sxO, ne_eq, maxLen] at *); omega)) | fail) <;> (try simp (config := { maxSteps := 1000000 }) only [hb0, hp.one, ha.n.one, ha.d.one, bs_mk, bs_app, bs_ext, bs_size, bs_toList, bs_at, bs_cells, List.take_length, imp_ga, guard_pk, guard_pk2, ↓hold_pre, awayP, runOps, regK, step1, newK, genR, appR, obl, buildR, Value.cells, closeK, keepH, outV, retK, ret1, retC, RetV, Option.getD, runD, stepD, afterK, undef, simprocAttr, sxB, ↓sxD, sxE, sxTab]))
  have m3 : Mem.le M2 M3 := m3
  have hp := hp.le m3
  have ha := ha.le m3
  have hm := hm.trans m3
  refine Stop.go ?_
  (replace hb0 := true_and True); refine Go1.mk ?_; repeat' ((first | (with_reducible refine Go1.go ?_) | ((with_reducible first | refine brv_mk ?_ ?_ | refine gsplitD ?_ ?_ | refine gsplitG ?_ ?_) <;> intro h <;> (try simp only [Bool.not_eq_true', Bool.not_eq_false'] at h) <;> replace hb0 := h) | ((first | (with_reducible refine isCall (f := 42) ?_; refine callA_nil (by kernel_rfl) ?_) | (with_reducible refine isCall0 (f := 42) ?_; refine callA0_nil (by kernel_rfl) ?_)); refine (sameNat_ok wp wq _ hp hq (by omega) ?_)) | ((first | (with_reducible refine isCall (f := 43) ?_; refine callA_nil (by kernel_rfl) ?_) | (with_reducible refine isCall0 (f := 43) ?_; refine callA0_nil (by kernel_rfl) ?_)); refine (fround_ok g ha (fun M4 m4 => Stop.mk ?_))) | (refine And.intro ?ob ?_; case ob => ((try simp only [sxO, ne_eq, maxLen] at *); omega)) | fail) <;> (try simp (config := { maxSteps := 1000000 }) only [hb0, hp.one, hq.one, ha.n.one, ha.d.one, k1, bs_mk, bs_app, bs_ext, bs_size, bs_toList, bs_at, bs_cells, List.take_length, imp_ga, guard_pk, guard_pk2, ↓hold_pre, awayP, runOps, regK, step1, newK, genR, appR, obl, buildR, Value.cells, closeK, keepH, outV, retK, ret1, retC, RetV, Option.getD, runD, stepD, afterK, undef, simprocAttr, sxB, ↓sxD, sxE, sxTab]))
  have m4 : Mem.le M3 M4 := m4
  have hp := hp.le m4
  have hq := hq.le m4
  have ha := ha.le m4
  have hm := hm.trans m4
  refine Stop.go ?_
  (replace hb0 := true_and True); refine Go1.mk ?_; repeat' ((first | (with_reducible refine Go1.go ?_) | ((with_reducible first | refine brv_mk ?_ ?_ | refine gsplitD ?_ ?_ | refine gsplitG ?_ ?_) <;> intro h <;> (try simp only [Bool.not_eq_true', Bool.not_eq_false'] at h) <;> replace hb0 := h) | ((first | (with_reducible refine isCall (f := 44) ?_; refine callA_nil (by kernel_rfl) ?_) | (with_reducible refine isCall0 (f := 44) ?_; refine callA0_nil (by kernel_rfl) ?_)); refine (rfround_ok g ha (fun M5 m5 => Stop.mk ?_))) | (refine And.intro ?ob ?_; case ob => ((try simp only [sxO, ne_eq, maxLen] at *); omega)) | fail) <;> (try simp (config := { maxSteps := 1000000 }) only [hb0, ha.n.one, ha.d.one, bs_mk, bs_app, bs_ext, bs_size, bs_toList, bs_at, bs_cells, List.take_length, imp_ga, guard_pk, guard_pk2, ↓hold_pre, awayP, runOps, regK, step1, newK, genR, appR, obl, buildR, Value.cells, closeK, keepH, outV, retK, ret1, retC, RetV, Option.getD, runD, stepD, afterK, undef, simprocAttr, sxB, ↓sxD, sxE, sxTab]))
  have m5 : Mem.le M4 M5 := m5
  have ha := ha.le m5
  have hm := hm.trans m5
  refine Stop.go ?_
  (replace hb0 := true_and True); refine Go1.mk ?_; repeat' ((first | (with_reducible refine Go1.go ?_) | ((with_reducible first | refine brv_mk ?_ ?_ | refine gsplitD ?_ ?_ | refine gsplitG ?_ ?_) <;> intro h <;> (try simp only [Bool.not_eq_true', Bool.not_eq_false'] at h) <;> replace hb0 := h) | ((first | (with_reducible refine isCall (f := 45) ?_; refine callA_nil (by kernel_rfl) ?_) | (with_reducible refine isCall0 (f := 45) ?_; refine callA0_nil (by kernel_rfl) ?_)); refine (ffmt_ok ha (fun M6 m6 => Stop.mk ?_))) | (refine And.intro ?ob ?_; case ob => ((try simp only [sxO, ne_eq, maxLen] at *); omega)) | fail) <;> (try simp (config := { maxSteps := 1000000 }) only [hb0, ha.n.one, ha.d.one, k2, k3, bs_mk, bs_app, bs_ext, bs_size, bs_toList, bs_at, bs_cells, List.take_length, imp_ga, guard_pk, guard_pk2, ↓hold_pre, awayP, runOps, regK, step1, newK, genR, appR, obl, buildR, Value.cells, closeK, keepH, outV, retK, ret1, retC, RetV, Option.getD, runD, stepD, afterK, undef, simprocAttr, sxB, ↓sxD, sxE, sxTab]))
  have m6 : Mem.le M5 M6 := m6
  have ha := ha.le m6
  have hm := hm.trans m6
  refine Stop.go ?_
  (replace hb0 := true_and True); refine Go1.mk ?_; repeat' ((first | (with_reducible refine Go1.go ?_) | ((with_reducible first | refine brv_mk ?_ ?_ | refine gsplitD ?_ ?_ | refine gsplitG ?_ ?_) <;> intro h <;> (try simp only [Bool.not_eq_true', Bool.not_eq_false'] at h) <;> replace hb0 := h) | ((first | (with_reducible refine isCall (f := 46) ?_; refine callA_nil (by kernel_rfl) ?_) | (with_reducible refine isCall0 (f := 46) ?_; refine callA0_nil (by kernel_rfl) ?_)); refine (rffmt_ok ha (fun M7 m7 => Stop.mk ?_))) | (refine And.intro ?ob ?_; case ob => ((try simp only [sxO, ne_eq, maxLen] at *); omega)) | fail) <;> (try simp (config := { maxSteps := 1000000 }) only [hb0, ha.n.one, ha.d.one, bs_mk, bs_app, bs_ext, bs_size, bs_toList, bs_at, bs_cells, List.take_length, imp_ga, guard_pk, guard_pk2, ↓hold_pre, awayP, runOps, regK, step1, newK, genR, appR, obl, buildR, Value.cells, closeK, keepH, outV, retK, ret1, retC, RetV, Option.getD, runD, stepD, afterK, undef, simprocAttr, sxB, ↓sxD, sxE, sxTab]))
  have m7 : Mem.le M6 M7 := m7
  have ha := ha.le m7
  have hm := hm.trans m7
  refine Stop.go ?_
  (replace hb0 := true_and True); refine Go1.mk ?_; repeat' ((first | (with_reducible refine Go1.go ?_) | ((with_reducible first | refine brv_mk ?_ ?_ | refine gsplitD ?_ ?_ | refine gsplitG ?_ ?_) <;> intro h <;> (try simp only [Bool.not_eq_true', Bool.not_eq_false'] at h) <;> replace hb0 := h) | (refine And.intro ?ob ?_; case ob => ((try simp only [sxO, ne_eq, maxLen] at *); omega)) | fail) <;> (try simp (config := { maxSteps := 1000000 }) only [hb0, ha.n.one, ha.d.one, k4, k5, bs_mk, bs_app, bs_ext, bs_size, bs_toList, bs_at, bs_cells, List.take_length, imp_ga, guard_pk, guard_pk2, ↓hold_pre, awayP, runOps, regK, step1, newK, genR, appR, obl, buildR, Value.cells, closeK, keepH, outV, retK, ret1, retC, RetV, Option.getD, runD, stepD, afterK, undef, simprocAttr, sxB, ↓sxD, sxE, sxTab]))
  clear hu hv ha hp hq k1 k2 k3 k4 k5 ql
  generalize fmtF la ld = ft at *
  obtain ⟨fe, ft⟩ := ft
  refine ⟨fun z => ∃ s, s.length ≤ 2700 ∧ z = ftSt M7 s ft, ?_, ?_⟩
  · by_cases h14 : 2700 < s.length
    · have d1 : decide ((2700 : Int) < (s.length : Int)) = true := by rw [decide_eq_true_eq]; omega
      have d2 : (2700 : Int) ≤ (s.length : Int) := by omega
      have n14 : (2700 : Int).toNat = 2700 := rfl
      (replace hb0 := true_and True); refine Go1.mk ?_; repeat' ((first | (with_reducible refine Go1.go ?_) | ((with_reducible first | refine brv_mk ?_ ?_ | refine gsplitD ?_ ?_ | refine gsplitG ?_ ?_) <;> intro h <;> (try simp only [Bool.not_eq_true', Bool.not_eq_false'] at h) <;> replace hb0 := h) | (refine And.intro ?ob ?_; case ob => ((try simp only [sxO, ne_eq, maxLen] at *); omega)) | fail) <;> (try simp (config := { maxSteps := 1000000 }) only [hb0, d1, d2, n14, List.drop_zero, bs_mk, bs_app, bs_ext, bs_size, bs_toList, bs_at, bs_cells, List.take_length, imp_ga, guard_pk, guard_pk2, ↓hold_pre, awayP, runOps, regK, step1, newK, genR, appR, obl, buildR, Value.cells, closeK, keepH, outV, retK, ret1, retC, RetV, Option.getD, runD, stepD, afterK, undef, simprocAttr, sxB, ↓sxD, sxE, sxTab]))
      exact ⟨ftSt M7 (s.take 2700) ft, le_sub ⟨rfl, rfl, trivial⟩ trivial rfl rfl rfl (keepLt0 _), _, by rw [List.length_take]; omega, rfl⟩
    · have d1 : decide ((2700 : Int) < (s.length : Int)) = false := by rw [decide_eq_false_iff_not]; omega
      (replace hb0 := true_and True); refine Go1.mk ?_; repeat' ((first | (with_reducible refine Go1.go ?_) | ((with_reducible first | refine brv_mk ?_ ?_ | refine gsplitD ?_ ?_ | refine gsplitG ?_ ?_) <;> intro h <;> (try simp only [Bool.not_eq_true', Bool.not_eq_false'] at h) <;> replace hb0 := h) | (refine And.intro ?ob ?_; case ob => ((try simp only [sxO, ne_eq, maxLen] at *); omega)) | fail) <;> (try simp (config := { maxSteps := 1000000 }) only [hb0, d1, bs_mk, bs_app, bs_ext, bs_size, bs_toList, bs_at, bs_cells, List.take_length, imp_ga, guard_pk, guard_pk2, ↓hold_pre, awayP, runOps, regK, step1, newK, genR, appR, obl, buildR, Value.cells, closeK, keepH, outV, retK, ret1, retC, RetV, Option.getD, runD, stepD, afterK, undef, simprocAttr, sxB, ↓sxD, sxE, sxTab]))
      exact ⟨ftSt M7 s ft, le_sub ⟨rfl, rfl, trivial⟩ trivial rfl rfl rfl (keepLt0 _), _, by omega, rfl⟩
  rintro z ⟨s, hs, rfl⟩
  have hfl : ft.length ≤ 10001 := tl
  (replace hb0 := true_and True); refine Go1.mk ?_; repeat' ((first | (with_reducible refine Go1.go ?_) | ((with_reducible first | refine brv_mk ?_ ?_ | refine gsplitD ?_ ?_ | refine gsplitG ?_ ?_) <;> intro h <;> (try simp only [Bool.not_eq_true', Bool.not_eq_false'] at h) <;> replace hb0 := h) | (refine And.intro ?ob ?_; case ob => ((try simp only [sxO, ne_eq, maxLen] at *); omega)) | fail) <;> (try simp (config := { maxSteps := 1000000 }) only [hb0, ftSt, List.length_append, bs_mk, bs_app, bs_ext, bs_size, bs_toList, bs_at, bs_cells, List.take_length, imp_ga, guard_pk, guard_pk2, ↓hold_pre, awayP, runOps, regK, step1, newK, genR, appR, obl, buildR, Value.cells, closeK, keepH, outV, retK, ret1, retC, RetV, Option.getD, runD, stepD, afterK, undef, simprocAttr, sxB, ↓sxD, sxE, sxTab]))
  have hLl : ∀ t ∈ [s, ft, ft ++ [47, 50], 48 :: ft, ft ++ [47, 48]], t.length < 1000000 := fun t ht => by
    simp only [List.mem_cons, List.not_mem_nil, or_false] at ht
    rcases ht with rfl | rfl | rfl | rfl | rfl <;> (try simp only [List.length_append, List.length_cons, List.length_nil]) <;> omega
  obtain ⟨L, hL, hL5⟩ : ∃ L, L = [s, ft, ft ++ [47, 50], 48 :: ft, ft ++ [47, 48]] ∧ L.length = 5 := ⟨_, rfl, rfl⟩
  rw [← hL] at hLl
  refine ⟨fun d z => ∃ M' i, i ≤ 5 ∧ d = 5 - i ∧ Mem.le M M' ∧ z = fuSt M' L i, ⟨5, fuSt M7 L 0, le_sub ⟨rfl, rfl, rfl, trivial⟩ ⟨by rw [hL]; rfl, trivial⟩ rfl rfl rfl (keepLt0 _), ⟨M7, 0, by omega, by omega, hm, rfl⟩⟩, ?_⟩
  clear hL
  rintro d z ⟨N3, i, hi, rfl, hM3, rfl⟩
  by_cases hlt : i < 5
  case neg =>
    obtain rfl : i = 5 := by omega
    have d1 : decide (((5 : Nat) : Int) < 5) = false := by decide
    (replace hb0 := true_and True); refine Go1.mk ?_; repeat' ((first | (with_reducible refine Go1.go ?_) | ((with_reducible first | refine brv_mk ?_ ?_ | refine gsplitD ?_ ?_ | refine gsplitG ?_ ?_) <;> intro h <;> (try simp only [Bool.not_eq_true', Bool.not_eq_false'] at h) <;> replace hb0 := h) | ((first | (with_reducible refine isCall (f := 18) ?_; refine callA_nil (by kernel_rfl) ?_) | (with_reducible refine isCall0 (f := 18) ?_; refine callA0_nil (by kernel_rfl) ?_)); refine (awake02_ok (fun M4 h4 => Stop.mk ?_))) | (refine And.intro ?ob ?_; case ob => ((try simp only [sxO, ne_eq, maxLen] at *); omega)) | fail) <;> (try simp (config := { maxSteps := 1000000 }) only [hb0, fuSt, d1, bs_mk, bs_app, bs_ext, bs_size, bs_toList, bs_at, bs_cells, List.take_length, imp_ga, guard_pk, guard_pk2, ↓hold_pre, awayP, runOps, regK, step1, newK, genR, appR, obl, buildR, Value.cells, closeK, keepH, outV, retK, ret1, retC, RetV, Option.getD, runD, stepD, afterK, undef, simprocAttr, sxB, ↓sxD, sxE, sxTab]))
    have h4 : Mem.le N3 M4 := h4
    refine Stop.go ?_
    (replace hb0 := true_and True); refine Go1.mk ?_; repeat' ((first | (with_reducible refine Go1.go ?_) | ((with_reducible first | refine brv_mk ?_ ?_ | refine gsplitD ?_ ?_ | refine gsplitG ?_ ?_) <;> intro h <;> (try simp only [Bool.not_eq_true', Bool.not_eq_false'] at h) <;> replace hb0 := h) | (refine And.intro ?ob ?_; case ob => ((try simp only [sxO, ne_eq, maxLen] at *); omega)) | fail) <;> (try simp (config := { maxSteps := 1000000 }) only [hb0, bs_mk, bs_app, bs_ext, bs_size, bs_toList, bs_at, bs_cells, List.take_length, imp_ga, guard_pk, guard_pk2, ↓hold_pre, awayP, runOps, regK, step1, newK, genR, appR, obl, buildR, Value.cells, closeK, keepH, outV, retK, ret1, retC, RetV, Option.getD, runD, stepD, afterK, undef, simprocAttr, sxB, ↓sxD, sxE, sxTab]))
    exact hK _ (hM3.trans h4)
  have d1 : decide ((i : Int) < 5) = true := by rw [decide_eq_true_eq]; omega
  have a1 : (0 : Int) ≤ (i : Int) := by omega
  have a2 : (i : Int) < ((5 : Nat) : Int) := by omega
  have a3 : (i : Int) < 5 := by omega
  have hil : i < L.length := by omega
  have hat := cE_at strB hil
  have htl := hLl _ (List.getElem_mem hil)
  have wi2 : IntKind.i64.wrap ((i : Int) + 1) = ((i + 1 : Nat) : Int) := succ_i (by omega)
  generalize L[i] = t at *
  (replace hb0 := true_and True); refine Go1.mk ?_; repeat' ((first | (with_reducible refine Go1.go ?_) | ((with_reducible first | refine brv_mk ?_ ?_ | refine gsplitD ?_ ?_ | refine gsplitG ?_ ?_) <;> intro h <;> (try simp only [Bool.not_eq_true', Bool.not_eq_false'] at h) <;> replace hb0 := h) | ((first | (with_reducible refine isCall (f := 47) ?_; refine callA_nil (by kernel_rfl) ?_) | (with_reducible refine isCall0 (f := 47) ?_; refine callA0_nil (by kernel_rfl) ?_)); refine (fparse_ok t htl (fun x1 x2 M4 h4 g4 g5 _ _ => Stop.mk ?_))) | (refine And.intro ?ob ?_; case ob => ((try simp only [sxO, ne_eq, maxLen] at *); omega)) | fail) <;> (try simp (config := { maxSteps := 1000000 }) only [hb0, fuSt, d1, a1, a2, a3, hat, strB, cE_ment, hasK_nil, cE_kill, cE_len, u32_one, u32_app1, u32_set, Nat.mul_one, bs_mk, bs_app, bs_ext, bs_size, bs_toList, bs_at, bs_cells, List.take_length, imp_ga, guard_pk, guard_pk2, ↓hold_pre, awayP, runOps, regK, step1, newK, genR, appR, obl, buildR, Value.cells, closeK, keepH, outV, retK, ret1, retC, RetV, Option.getD, runD, stepD, afterK, undef, simprocAttr, sxB, ↓sxD, sxE, sxTab]))
  have h4 : Mem.le N3 M4 := h4
  refine Stop.go ?_
  (replace hb0 := true_and True); refine Go1.mk ?_; repeat' ((first | (with_reducible refine Go1.go ?_) | ((with_reducible first | refine brv_mk ?_ ?_ | refine gsplitD ?_ ?_ | refine gsplitG ?_ ?_) <;> intro h <;> (try simp only [Bool.not_eq_true', Bool.not_eq_false'] at h) <;> replace hb0 := h) | ((first | (with_reducible refine isCall (f := 48) ?_; refine callA_nil (by kernel_rfl) ?_) | (with_reducible refine isCall0 (f := 48) ?_; refine callA0_nil (by kernel_rfl) ?_)); refine (rfparse_ok t htl (fun x3 x4 M5 h5 g6 g7 _ _ => Stop.mk ?_))) | (refine And.intro ?ob ?_; case ob => ((try simp only [sxO, ne_eq, maxLen] at *); omega)) | fail) <;> (try simp (config := { maxSteps := 1000000 }) only [hb0, g4.one, g5.one, cE_ment, hasK_nil, cE_kill, cE_len, u32_one, u32_app1, u32_set, Nat.mul_one, bs_mk, bs_app, bs_ext, bs_size, bs_toList, bs_at, bs_cells, List.take_length, imp_ga, guard_pk, guard_pk2, ↓hold_pre, awayP, runOps, regK, step1, newK, genR, appR, obl, buildR, Value.cells, closeK, keepH, outV, retK, ret1, retC, RetV, Option.getD, runD, stepD, afterK, undef, simprocAttr, sxB, ↓sxD, sxE, sxTab]))
  have h5 : Mem.le M4 M5 := h5
  have g4' := g4.le h5
  have g5' := g5.le h5
  obtain ⟨p1, p2⟩ := parF_len t
  refine Stop.go ?_
  (replace hb0 := true_and True); refine Go1.mk ?_; repeat' ((first | (with_reducible refine Go1.go ?_) | ((with_reducible first | refine brv_mk ?_ ?_ | refine gsplitD ?_ ?_ | refine gsplitG ?_ ?_) <;> intro h <;> (try simp only [Bool.not_eq_true', Bool.not_eq_false'] at h) <;> replace hb0 := h) | ((first | (with_reducible refine isCall (f := 15) ?_; refine callA_nil (by kernel_rfl) ?_) | (with_reducible refine isCall0 (f := 15) ?_; refine callA0_nil (by kernel_rfl) ?_)); refine (same02_ok _ g4' g5' g6 g7 (by omega) (by omega) ?_)) | (refine And.intro ?ob ?_; case ob => ((try simp only [sxO, ne_eq, maxLen] at *); omega)) | fail) <;> (try simp (config := { maxSteps := 1000000 }) only [hb0, g4'.one, g5'.one, g6.one, g7.one, wi2, cE_ment, hasK_nil, cE_kill, cE_len, u32_one, u32_app1, u32_set, Nat.mul_one, bs_mk, bs_app, bs_ext, bs_size, bs_toList, bs_at, bs_cells, List.take_length, imp_ga, guard_pk, guard_pk2, ↓hold_pre, awayP, runOps, regK, step1, newK, genR, appR, obl, buildR, Value.cells, closeK, keepH, outV, retK, ret1, retC, RetV, Option.getD, runD, stepD, afterK, undef, simprocAttr, sxB, ↓sxD, sxE, sxTab]))
  exact ⟨5 - (i + 1), fuSt M5 L (i + 1), by omega, le_sub ⟨rfl, rfl, rfl, trivial⟩ ⟨rfl, trivial⟩ rfl rfl rfl (keepLt0 _), M5, i + 1, by omega, rfl, (hM3.trans h4).trans h5, rfl⟩
end
end Go.Proofs.YtamghpnjdohnjaaDoor.Sx
