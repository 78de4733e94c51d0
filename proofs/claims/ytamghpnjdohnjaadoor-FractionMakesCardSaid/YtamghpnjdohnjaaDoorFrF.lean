import Derived.Test.YtamghpnjdohnjaaDoorFrD
import Derived.Test.YtamghpnjdohnjaaDoorFrE
/- Fractions: the law of what is made of numbers, and which fractions are well-formed. -/
namespace Go.Proofs.YtamghpnjdohnjaaDoor.Sx
open Go Go.RowKit
set_option linter.unusedVariables false
set_option linter.unusedSimpArgs false
set_option maxRecDepth 100000
set_option maxHeartbeats 8000000
attribute [local congr] fin_congr finG_congr stepG_congr step1_congr runOps_congr brv_congr obl_congr condK_congr LoopK_congr seqK_congr CutK_congr vc_congr DrawK_congr regK_congr CallK_congr AskK_congr newK_congr retC_congr ret1_congr retK_congr outV_congr closeK_congr genR_congr appR_congr finD_congr finGD_congr stepGD_congr stepD_congr CallK0_congr runD_congr okR_congr CallS_congr vcX_congr
attribute [local congr] Stop_congr
theorem exF_len (n d : Nat) : (ofN (exF n d).2.1).length ≤ 128 ∧ (ofN (exF n d).2.2).length ≤ 128 := by
  unfold exF
  split
  · assumption
  · simp only [ofN_zero]; simp
theorem makF_len (a b : List Nat) : (ofN (makF a b).2.1).length ≤ 128 ∧ (ofN (makF a b).2.2).length ≤ 128 := by
  unfold makF
  split
  · split
    · simp only [ofN_zero]; simp
    · exact exF_len _ _
  · simp only [ofN_zero]; simp
theorem ofF_len (a b : Int) : (ofN (ofF a b).2.1).length ≤ 128 ∧ (ofN (ofF a b).2.2).length ≤ 128 := by
  unfold ofF
  split
  · simp only [ofN_zero]; simp
  · exact makF_len _ _
section
variable {M : Mem} {K : AV → Hp → Mem → Prop}
theorem makes_ok (u v : Value) (i1 i2 : List Int) (p q : Int) (hu : IsL M (intVk .u32) u i1) (hv : IsL M (intVk .u32) v i2) (o1 : ∀ x ∈ i1, (Lit.int .u32 x).wf = true) (o2 : ∀ x ∈ i2, (Lit.int .u32 x).wf = true) (hp : (Lit.int .i64 p).wf = true) (hq : (Lit.int .i64 q).wf = true)
    (hK : ∀ M', Mem.le M M' → K (.ext (.bool true)) [] M') : CallS Tryd.prog 3 [.ext u, .ext v, .ext (.int .i64 p), .ext (.int .i64 q)] [] M [] K := by
  obtain ⟨hu, o1⟩ := nats_of hu o1
  obtain ⟨hv, o2⟩ := nats_of hv o2
  obtain ⟨p1, p2⟩ := i64_wf hp
  obtain ⟨q1, q2⟩ := i64_wf hq
  generalize i1.map Int.toNat = i1 at *
  generalize i2.map Int.toNat = i2 at *
  refine inlS (cs := []) Tryd.mixed Tryd.func3 rfl (by kernel_rfl) 0 rfl rfl ?_
  simp only [Tryd.f3]
  have o1 := okN_take o1 8
  have o2 := okN_take o2 8
  have b1 : (i1.take 8).length ≤ 8 := by rw [List.length_take]; omega
  have b2 : (i2.take 8).length ≤ 8 := by rw [List.length_take]; omega
  have e1 : (chkF (i1.take 8) (i2.take 8) == chkF (i1.take 8) (i2.take 8)) = true := by simp
  obtain ⟨z1, z2⟩ := makF_len (i1.take 8) (i2.take 8)
  obtain ⟨z3, z4⟩ := ofF_len p q
  (replace hb0 := true_and True); refine Go1.mk ?_; repeat' ((first | (with_reducible refine Go1.go ?_) | ((with_reducible first | refine brv_mk ?_ ?_ | refine gsplitD ?_ ?_ | refine gsplitG ?_ ?_) <;> intro h <;> (try simp only [Bool.not_eq_true', Bool.not_eq_false'] at h) <;> replace hb0 := h) | ((first | (with_reducible refine isCall (f := 11) ?_; refine callA_nil (by kernel_rfl) ?_) | (with_reducible refine isCall0 (f := 11) ?_; refine callA0_nil (by kernel_rfl) ?_)); refine (cut8_ok u i1 hu (fun wa ha => Stop.mk ?_))) | (refine And.intro ?ob ?_; case ob => ((try simp only [sxO, ne_eq, maxLen] at *); omega)) | fail) <;> (try simp (config := { maxSteps := 1000000 }) only [hb0, hu.one, hv.one, ↓hold_pre, awayP, runOps, regK, step1, newK, genR, appR, obl, buildR, Value.cells, closeK, keepH, outV, retK, ret1, retC, RetV, Option.getD, runD, stepD, afterK, undef, simprocAttr, sxB, ↓sxD, sxE, sxTab]))
  refine Stop.go ?_
  (replace hb0 := true_and True); refine Go1.mk ?_; repeat' ((first | (with_reducible refine Go1.go ?_) | ((with_reducible first | refine brv_mk ?_ ?_ | refine gsplitD ?_ ?_ | refine gsplitG ?_ ?_) <;> intro h <;> (try simp only [Bool.not_eq_true', Bool.not_eq_false'] at h) <;> replace hb0 := h) | ((first | (with_reducible refine isCall (f := 11) ?_; refine callA_nil (by kernel_rfl) ?_) | (with_reducible refine isCall0 (f := 11) ?_; refine callA0_nil (by kernel_rfl) ?_)); refine (cut8_ok v i2 hv (fun wb hb => Stop.mk ?_))) | (refine And.intro ?ob ?_; case ob => ((try simp only [sxO, ne_eq, maxLen] at *); omega)) | fail) <;> (try simp (config := { maxSteps := 1000000 }) only [hb0, hu.one, hv.one, ha.one, ↓hold_pre, awayP, runOps, regK, step1, newK, genR, appR, obl, buildR, Value.cells, closeK, keepH, outV, retK, ret1, retC, RetV, Option.getD, runD, stepD, afterK, undef, simprocAttr, sxB, ↓sxD, sxE, sxTab]))
  refine Stop.go ?_
  (replace hb0 := true_and True); refine Go1.mk ?_; repeat' ((first | (with_reducible refine Go1.go ?_) | ((with_reducible first | refine brv_mk ?_ ?_ | refine gsplitD ?_ ?_ | refine gsplitG ?_ ?_) <;> intro h <;> (try simp only [Bool.not_eq_true', Bool.not_eq_false'] at h) <;> replace hb0 := h) | ((first | (with_reducible refine isCall (f := 10) ?_; refine callA_nil (by kernel_rfl) ?_) | (with_reducible refine isCall0 (f := 10) ?_; refine callA0_nil (by kernel_rfl) ?_)); refine (fmake_ok ha hb o1 o2 (by omega) (by omega) (fun w1 w2 M1 m1 h1 h2 f1 f2 => Stop.mk ?_))) | (refine And.intro ?ob ?_; case ob => ((try simp only [sxO, ne_eq, maxLen] at *); omega)) | fail) <;> (try simp (config := { maxSteps := 1000000 }) only [hb0, hu.one, hv.one, ha.one, hb.one, ↓hold_pre, awayP, runOps, regK, step1, newK, genR, appR, obl, buildR, Value.cells, closeK, keepH, outV, retK, ret1, retC, RetV, Option.getD, runD, stepD, afterK, undef, simprocAttr, sxB, ↓sxD, sxE, sxTab]))
  have m1 : Mem.le M M1 := m1
  have hu := hu.le m1
  have hv := hv.le m1
  have ha := ha.le m1
  have hb := hb.le m1
  have hm := m1
  refine Stop.go ?_
  (replace hb0 := true_and True); refine Go1.mk ?_; repeat' ((first | (with_reducible refine Go1.go ?_) | ((with_reducible first | refine brv_mk ?_ ?_ | refine gsplitD ?_ ?_ | refine gsplitG ?_ ?_) <;> intro h <;> (try simp only [Bool.not_eq_true', Bool.not_eq_false'] at h) <;> replace hb0 := h) | ((first | (with_reducible refine isCall (f := 11) ?_; refine callA_nil (by kernel_rfl) ?_) | (with_reducible refine isCall0 (f := 11) ?_; refine callA0_nil (by kernel_rfl) ?_)); refine (cut8_ok u i1 hu (fun wc hc => Stop.mk ?_))) | (refine And.intro ?ob ?_; case ob => ((try simp only [sxO, ne_eq, maxLen] at *); omega)) | fail) <;> (try simp (config := { maxSteps := 1000000 }) only [hb0, hu.one, hv.one, h1.one, h2.one, ↓hold_pre, awayP, runOps, regK, step1, newK, genR, appR, obl, buildR, Value.cells, closeK, keepH, outV, retK, ret1, retC, RetV, Option.getD, runD, stepD, afterK, undef, simprocAttr, sxB, ↓sxD, sxE, sxTab]))
  refine Stop.go ?_
  (replace hb0 := true_and True); refine Go1.mk ?_; repeat' ((first | (with_reducible refine Go1.go ?_) | ((with_reducible first | refine brv_mk ?_ ?_ | refine gsplitD ?_ ?_ | refine gsplitG ?_ ?_) <;> intro h <;> (try simp only [Bool.not_eq_true', Bool.not_eq_false'] at h) <;> replace hb0 := h) | ((first | (with_reducible refine isCall (f := 11) ?_; refine callA_nil (by kernel_rfl) ?_) | (with_reducible refine isCall0 (f := 11) ?_; refine callA0_nil (by kernel_rfl) ?_)); refine (cut8_ok v i2 hv (fun wd hd => Stop.mk ?_))) | (refine And.intro ?ob ?_; case ob => ((try simp only [sxO, ne_eq, maxLen] at *); omega)) | fail) <;> (try simp (config := { maxSteps := 1000000 }) only [hb0, hu.one, hv.one, h1.one, h2.one, hc.one, ↓hold_pre, awayP, runOps, regK, step1, newK, genR, appR, obl, buildR, Value.cells, closeK, keepH, outV, retK, ret1, retC, RetV, Option.getD, runD, stepD, afterK, undef, simprocAttr, sxB, ↓sxD, sxE, sxTab]))
  refine Stop.go ?_
  (replace hb0 := true_and True); refine Go1.mk ?_; repeat' ((first | (with_reducible refine Go1.go ?_) | ((with_reducible first | refine brv_mk ?_ ?_ | refine gsplitD ?_ ?_ | refine gsplitG ?_ ?_) <;> intro h <;> (try simp only [Bool.not_eq_true', Bool.not_eq_false'] at h) <;> replace hb0 := h) | ((first | (with_reducible refine isCall (f := 12) ?_; refine callA_nil (by kernel_rfl) ?_) | (with_reducible refine isCall0 (f := 12) ?_; refine callA0_nil (by kernel_rfl) ?_)); refine (rfmake_ok hc hd o1 o2 (by omega) (by omega) (fun w3 w4 M2 m2 h3 h4 f3 f4 => Stop.mk ?_))) | (refine And.intro ?ob ?_; case ob => ((try simp only [sxO, ne_eq, maxLen] at *); omega)) | fail) <;> (try simp (config := { maxSteps := 1000000 }) only [hb0, hu.one, hv.one, h1.one, h2.one, hc.one, hd.one, ↓hold_pre, awayP, runOps, regK, step1, newK, genR, appR, obl, buildR, Value.cells, closeK, keepH, outV, retK, ret1, retC, RetV, Option.getD, runD, stepD, afterK, undef, simprocAttr, sxB, ↓sxD, sxE, sxTab]))
  have m2 : Mem.le M1 M2 := m2
  have hu := hu.le m2
  have hv := hv.le m2
  have h1 := h1.le m2
  have h2 := h2.le m2
  have hc := hc.le m2
  have hd := hd.le m2
  have f3 := f3.le hm
  have f4 := f4.le hm
  have hm := hm.trans m2
  refine Stop.go ?_
  (replace hb0 := true_and True); refine Go1.mk ?_; repeat' ((first | (with_reducible refine Go1.go ?_) | ((with_reducible first | refine brv_mk ?_ ?_ | refine gsplitD ?_ ?_ | refine gsplitG ?_ ?_) <;> intro h <;> (try simp only [Bool.not_eq_true', Bool.not_eq_false'] at h) <;> replace hb0 := h) | ((first | (with_reducible refine isCall (f := 13) ?_; refine callA_nil (by kernel_rfl) ?_) | (with_reducible refine isCall0 (f := 13) ?_; refine callA0_nil (by kernel_rfl) ?_)); refine (fof_ok p q p1 p2 q1 q2 (fun w5 w6 M3 m3 h5 h6 f5 f6 => Stop.mk ?_))) | (refine And.intro ?ob ?_; case ob => ((try simp only [sxO, ne_eq, maxLen] at *); omega)) | fail) <;> (try simp (config := { maxSteps := 1000000 }) only [hb0, hu.one, hv.one, h1.one, h2.one, h3.one, h4.one, ↓hold_pre, awayP, runOps, regK, step1, newK, genR, appR, obl, buildR, Value.cells, closeK, keepH, outV, retK, ret1, retC, RetV, Option.getD, runD, stepD, afterK, undef, simprocAttr, sxB, ↓sxD, sxE, sxTab]))
  have m3 : Mem.le M2 M3 := m3
  have hu := hu.le m3
  have hv := hv.le m3
  have h1 := h1.le m3
  have h2 := h2.le m3
  have h3 := h3.le m3
  have h4 := h4.le m3
  have f5 := f5.le hm
  have f6 := f6.le hm
  have hm := hm.trans m3
  refine Stop.go ?_
  (replace hb0 := true_and True); refine Go1.mk ?_; repeat' ((first | (with_reducible refine Go1.go ?_) | ((with_reducible first | refine brv_mk ?_ ?_ | refine gsplitD ?_ ?_ | refine gsplitG ?_ ?_) <;> intro h <;> (try simp only [Bool.not_eq_true', Bool.not_eq_false'] at h) <;> replace hb0 := h) | ((first | (with_reducible refine isCall (f := 14) ?_; refine callA_nil (by kernel_rfl) ?_) | (with_reducible refine isCall0 (f := 14) ?_; refine callA0_nil (by kernel_rfl) ?_)); refine (rfof_ok p q p1 p2 q1 q2 (fun w7 w8 M4 m4 h7 h8 f7 f8 => Stop.mk ?_))) | (refine And.intro ?ob ?_; case ob => ((try simp only [sxO, ne_eq, maxLen] at *); omega)) | fail) <;> (try simp (config := { maxSteps := 1000000 }) only [hb0, hu.one, hv.one, h1.one, h2.one, h3.one, h4.one, h5.one, h6.one, ↓hold_pre, awayP, runOps, regK, step1, newK, genR, appR, obl, buildR, Value.cells, closeK, keepH, outV, retK, ret1, retC, RetV, Option.getD, runD, stepD, afterK, undef, simprocAttr, sxB, ↓sxD, sxE, sxTab]))
  have m4 : Mem.le M3 M4 := m4
  have hu := hu.le m4
  have hv := hv.le m4
  have h1 := h1.le m4
  have h2 := h2.le m4
  have h3 := h3.le m4
  have h4 := h4.le m4
  have h5 := h5.le m4
  have h6 := h6.le m4
  have f7 := f7.le hm
  have f8 := f8.le hm
  have hm := hm.trans m4
  refine Stop.go ?_
  (replace hb0 := true_and True); refine Go1.mk ?_; repeat' ((first | (with_reducible refine Go1.go ?_) | ((with_reducible first | refine brv_mk ?_ ?_ | refine gsplitD ?_ ?_ | refine gsplitG ?_ ?_) <;> intro h <;> (try simp only [Bool.not_eq_true', Bool.not_eq_false'] at h) <;> replace hb0 := h) | ((first | (with_reducible refine isCall (f := 11) ?_; refine callA_nil (by kernel_rfl) ?_) | (with_reducible refine isCall0 (f := 11) ?_; refine callA0_nil (by kernel_rfl) ?_)); refine (cut8_ok u i1 hu (fun we he => Stop.mk ?_))) | (refine And.intro ?ob ?_; case ob => ((try simp only [sxO, ne_eq, maxLen] at *); omega)) | fail) <;> (try simp (config := { maxSteps := 1000000 }) only [hb0, hu.one, hv.one, h1.one, h2.one, h3.one, h4.one, h5.one, h6.one, h7.one, h8.one, ↓hold_pre, awayP, runOps, regK, step1, newK, genR, appR, obl, buildR, Value.cells, closeK, keepH, outV, retK, ret1, retC, RetV, Option.getD, runD, stepD, afterK, undef, simprocAttr, sxB, ↓sxD, sxE, sxTab]))
  refine Stop.go ?_
  (replace hb0 := true_and True); refine Go1.mk ?_; repeat' ((first | (with_reducible refine Go1.go ?_) | ((with_reducible first | refine brv_mk ?_ ?_ | refine gsplitD ?_ ?_ | refine gsplitG ?_ ?_) <;> intro h <;> (try simp only [Bool.not_eq_true', Bool.not_eq_false'] at h) <;> replace hb0 := h) | ((first | (with_reducible refine isCall (f := 11) ?_; refine callA_nil (by kernel_rfl) ?_) | (with_reducible refine isCall0 (f := 11) ?_; refine callA0_nil (by kernel_rfl) ?_)); refine (cut8_ok v i2 hv (fun wf hf => Stop.mk ?_))) | (refine And.intro ?ob ?_; case ob => ((try simp only [sxO, ne_eq, maxLen] at *); omega)) | fail) <;> (try simp (config := { maxSteps := 1000000 }) only [hb0, hu.one, hv.one, h1.one, h2.one, h3.one, h4.one, h5.one, h6.one, h7.one, h8.one, he.one, ↓hold_pre, awayP, runOps, regK, step1, newK, genR, appR, obl, buildR, Value.cells, closeK, keepH, outV, retK, ret1, retC, RetV, Option.getD, runD, stepD, afterK, undef, simprocAttr, sxB, ↓sxD, sxE, sxTab]))
  refine Stop.go ?_
  (replace hb0 := true_and True); refine Go1.mk ?_; repeat' ((first | (with_reducible refine Go1.go ?_) | ((with_reducible first | refine brv_mk ?_ ?_ | refine gsplitD ?_ ?_ | refine gsplitG ?_ ?_) <;> intro h <;> (try simp only [Bool.not_eq_true', Bool.not_eq_false'] at h) <;> replace hb0 := h) | ((first | (with_reducible refine isCall (f := 15) ?_; refine callA_nil (by kernel_rfl) ?_) | (with_reducible refine isCall0 (f := 15) ?_; refine callA0_nil (by kernel_rfl) ?_)); refine (same02_ok _ h1 h2 h3 h4 (by omega) (by omega) ?_)) | ((first | (with_reducible refine isCall (f := 15) ?_; refine callA_nil (by kernel_rfl) ?_) | (with_reducible refine isCall0 (f := 15) ?_; refine callA0_nil (by kernel_rfl) ?_)); refine (same02_ok _ h5 h6 h7 h8 (by omega) (by omega) ?_)) | ((first | (with_reducible refine isCall (f := 16) ?_; refine callA_nil (by kernel_rfl) ?_) | (with_reducible refine isCall0 (f := 16) ?_; refine callA0_nil (by kernel_rfl) ?_)); refine (fcheck_ok he hf o1 o2 (by omega) (by omega) (fun M5 m5 => Stop.mk ?_))) | ((with_reducible refine isDraw [some 51, some 52, some 53, some 54, some 55, some 56, some 57, some 58, some 59, some 60, some 61, some 62, some 63, some 64, some 65, some 66, some 67, some 68, some 69, some 70, some 71, some 72, some 8] (by decide) ?_); refine draw_rule [(0, []), (1, [0]), (2, [0]), (3, [0, 2]), (4, []), (5, []), (6, []), (7, [6]), (8, [6]), (9, [6, 8]), (10, []), (11, []), (12, []), (13, []), (15, [13]), (14, [15]), (16, []), (17, []), (18, []), (19, []), (20, []), (21, []), (22, [])] [[], [], [], [], [0, 1, 2, 3], [0, 1, 2, 3, 4], [0, 1, 2, 3, 4, 5], [0, 1, 2, 3, 4, 5], [0, 1, 2, 3, 4, 5], [0, 1, 2, 3, 4, 5], [0, 1, 2, 3, 4, 5, 6, 7, 8, 9], [0, 1, 2, 3, 4, 5, 6, 7, 8, 9, 10], [0, 1, 2, 3, 4, 5, 6, 7, 8, 9, 10, 11], [0, 1, 2, 3, 4, 5, 6, 7, 8, 9, 10, 11, 12], [0, 1, 2, 3, 4, 5, 6, 7, 8, 9, 10, 11, 12, 13], [0, 1, 2, 3, 4, 5, 6, 7, 8, 9, 10, 11, 12], [0, 1, 2, 3, 4, 5, 6, 7, 8, 9, 10, 11, 12, 13, 14, 15], [0, 1, 2, 3, 4, 5, 6, 7, 8, 9, 10, 11, 12, 13, 14, 15, 16], [0, 1, 2, 3, 4, 5, 6, 7, 8, 9, 10, 11, 12, 13, 14, 15, 16, 17], [0, 1, 2, 3, 4, 5, 6, 7, 8, 9, 10, 11, 12, 13, 14, 15, 16, 17, 18], [0, 1, 2, 3, 4, 5, 6, 7, 8, 9, 10, 11, 12, 13, 14, 15, 16, 17, 18, 19], [0, 1, 2, 3, 4, 5, 6, 7, 8, 9, 10, 11, 12, 13, 14, 15, 16, 17, 18, 19, 20], [0, 1, 2, 3, 4, 5, 6, 7, 8, 9, 10, 11, 12, 13, 14, 15, 16, 17, 18, 19, 20, 21]] [51, 52, 53, 54, 57, 58, 59, 60, 64, 65, 66] [] (by kernel_rfl) (by kernel_rfl) (by kernel_rfl) (by kernel_rfl) (by exact trivial) ?_) | (refine And.intro ?ob ?_; case ob => ((try simp only [sxO, ne_eq, maxLen] at *); omega)) | fail) <;> (try simp (config := { maxSteps := 1000000 }) only [hb0, hu.one, hv.one, h1.one, h2.one, h3.one, h4.one, h5.one, h6.one, h7.one, h8.one, he.one, hf.one, ↓hold_pre, awayP, runOps, regK, step1, newK, genR, appR, obl, buildR, Value.cells, closeK, keepH, outV, retK, ret1, retC, RetV, Option.getD, runD, stepD, afterK, undef, simprocAttr, sxB, ↓sxD, sxE, sxTab]))
  have m5 : Mem.le M4 M5 := m5
  have hu := hu.le m5
  have hv := hv.le m5
  have h1 := h1.le m5
  have h2 := h2.le m5
  have h3 := h3.le m5
  have h4 := h4.le m5
  have h5 := h5.le m5
  have h6 := h6.le m5
  have h7 := h7.le m5
  have h8 := h8.le m5
  have he := he.le m5
  have hf := hf.le m5
  have hm := hm.trans m5
  refine Stop.go ?_
  (replace hb0 := true_and True); refine Go1.mk ?_; repeat' ((first | (with_reducible refine Go1.go ?_) | ((with_reducible first | refine brv_mk ?_ ?_ | refine gsplitD ?_ ?_ | refine gsplitG ?_ ?_) <;> intro h <;> (try simp only [Bool.not_eq_true', Bool.not_eq_false'] at h) <;> replace hb0 := h) | ((first | (with_reducible refine isCall (f := 17) ?_; refine callA_nil (by kernel_rfl) ?_) | (with_reducible refine isCall0 (f := 17) ?_; refine callA0_nil (by kernel_rfl) ?_)); refine (rfcheck_ok he hf o1 o2 (by omega) (by omega) (fun M6 m6 => Stop.mk ?_))) | ((with_reducible refine isDraw [some 51, some 52, some 53, some 54, some 55, some 56, some 57, some 58, some 59, some 60, some 61, some 62, some 63, some 64, some 65, some 66, some 67, some 68, some 69, some 70, some 71, some 72, some 8] (by decide) ?_); refine draw_rule [(0, []), (1, [0]), (2, [0]), (3, [0, 2]), (4, []), (5, []), (6, []), (7, [6]), (8, [6]), (9, [6, 8]), (10, []), (11, []), (12, []), (13, []), (15, [13]), (14, [15]), (16, []), (17, []), (18, []), (19, []), (20, []), (21, []), (22, [])] [[], [], [], [], [0, 1, 2, 3], [0, 1, 2, 3, 4], [0, 1, 2, 3, 4, 5], [0, 1, 2, 3, 4, 5], [0, 1, 2, 3, 4, 5], [0, 1, 2, 3, 4, 5], [0, 1, 2, 3, 4, 5, 6, 7, 8, 9], [0, 1, 2, 3, 4, 5, 6, 7, 8, 9, 10], [0, 1, 2, 3, 4, 5, 6, 7, 8, 9, 10, 11], [0, 1, 2, 3, 4, 5, 6, 7, 8, 9, 10, 11, 12], [0, 1, 2, 3, 4, 5, 6, 7, 8, 9, 10, 11, 12, 13], [0, 1, 2, 3, 4, 5, 6, 7, 8, 9, 10, 11, 12], [0, 1, 2, 3, 4, 5, 6, 7, 8, 9, 10, 11, 12, 13, 14, 15], [0, 1, 2, 3, 4, 5, 6, 7, 8, 9, 10, 11, 12, 13, 14, 15, 16], [0, 1, 2, 3, 4, 5, 6, 7, 8, 9, 10, 11, 12, 13, 14, 15, 16, 17], [0, 1, 2, 3, 4, 5, 6, 7, 8, 9, 10, 11, 12, 13, 14, 15, 16, 17, 18], [0, 1, 2, 3, 4, 5, 6, 7, 8, 9, 10, 11, 12, 13, 14, 15, 16, 17, 18, 19], [0, 1, 2, 3, 4, 5, 6, 7, 8, 9, 10, 11, 12, 13, 14, 15, 16, 17, 18, 19, 20], [0, 1, 2, 3, 4, 5, 6, 7, 8, 9, 10, 11, 12, 13, 14, 15, 16, 17, 18, 19, 20, 21]] [51, 52, 53, 54, 57, 58, 59, 60, 64, 65, 66] [] (by kernel_rfl) (by kernel_rfl) (by kernel_rfl) (by kernel_rfl) (by exact trivial) ?_) | (refine And.intro ?ob ?_; case ob => ((try simp only [sxO, ne_eq, maxLen] at *); omega)) | fail) <;> (try simp (config := { maxSteps := 1000000 }) only [hb0, hu.one, hv.one, h1.one, h2.one, h3.one, h4.one, h5.one, h6.one, h7.one, h8.one, he.one, hf.one, ↓hold_pre, awayP, runOps, regK, step1, newK, genR, appR, obl, buildR, Value.cells, closeK, keepH, outV, retK, ret1, retC, RetV, Option.getD, runD, stepD, afterK, undef, simprocAttr, sxB, ↓sxD, sxE, sxTab]))
  have m6 : Mem.le M5 M6 := m6
  have hu := hu.le m6
  have hv := hv.le m6
  have h1 := h1.le m6
  have h2 := h2.le m6
  have h3 := h3.le m6
  have h4 := h4.le m6
  have h5 := h5.le m6
  have h6 := h6.le m6
  have h7 := h7.le m6
  have h8 := h8.le m6
  have he := he.le m6
  have hf := hf.le m6
  have hm := hm.trans m6
  refine Stop.go ?_
  (replace hb0 := true_and True); refine Go1.mk ?_; repeat' ((first | (with_reducible refine Go1.go ?_) | ((with_reducible first | refine brv_mk ?_ ?_ | refine gsplitD ?_ ?_ | refine gsplitG ?_ ?_) <;> intro h <;> (try simp only [Bool.not_eq_true', Bool.not_eq_false'] at h) <;> replace hb0 := h) | ((first | (with_reducible refine isCall (f := 18) ?_; refine callA_nil (by kernel_rfl) ?_) | (with_reducible refine isCall0 (f := 18) ?_; refine callA0_nil (by kernel_rfl) ?_)); refine (awake02_ok (fun M7 m7 => Stop.mk ?_))) | ((with_reducible refine isDraw [some 51, some 52, some 53, some 54, some 55, some 56, some 57, some 58, some 59, some 60, some 61, some 62, some 63, some 64, some 65, some 66, some 67, some 68, some 69, some 70, some 71, some 72, some 8] (by decide) ?_); refine draw_rule [(0, []), (1, [0]), (2, [0]), (3, [0, 2]), (4, []), (5, []), (6, []), (7, [6]), (8, [6]), (9, [6, 8]), (10, []), (11, []), (12, []), (13, []), (15, [13]), (14, [15]), (16, []), (17, []), (18, []), (19, []), (20, []), (21, []), (22, [])] [[], [], [], [], [0, 1, 2, 3], [0, 1, 2, 3, 4], [0, 1, 2, 3, 4, 5], [0, 1, 2, 3, 4, 5], [0, 1, 2, 3, 4, 5], [0, 1, 2, 3, 4, 5], [0, 1, 2, 3, 4, 5, 6, 7, 8, 9], [0, 1, 2, 3, 4, 5, 6, 7, 8, 9, 10], [0, 1, 2, 3, 4, 5, 6, 7, 8, 9, 10, 11], [0, 1, 2, 3, 4, 5, 6, 7, 8, 9, 10, 11, 12], [0, 1, 2, 3, 4, 5, 6, 7, 8, 9, 10, 11, 12, 13], [0, 1, 2, 3, 4, 5, 6, 7, 8, 9, 10, 11, 12], [0, 1, 2, 3, 4, 5, 6, 7, 8, 9, 10, 11, 12, 13, 14, 15], [0, 1, 2, 3, 4, 5, 6, 7, 8, 9, 10, 11, 12, 13, 14, 15, 16], [0, 1, 2, 3, 4, 5, 6, 7, 8, 9, 10, 11, 12, 13, 14, 15, 16, 17], [0, 1, 2, 3, 4, 5, 6, 7, 8, 9, 10, 11, 12, 13, 14, 15, 16, 17, 18], [0, 1, 2, 3, 4, 5, 6, 7, 8, 9, 10, 11, 12, 13, 14, 15, 16, 17, 18, 19], [0, 1, 2, 3, 4, 5, 6, 7, 8, 9, 10, 11, 12, 13, 14, 15, 16, 17, 18, 19, 20], [0, 1, 2, 3, 4, 5, 6, 7, 8, 9, 10, 11, 12, 13, 14, 15, 16, 17, 18, 19, 20, 21]] [51, 52, 53, 54, 57, 58, 59, 60, 64, 65, 66] [] (by kernel_rfl) (by kernel_rfl) (by kernel_rfl) (by kernel_rfl) (by exact trivial) ?_) | (refine And.intro ?ob ?_; case ob => ((try simp only [sxO, ne_eq, maxLen] at *); omega)) | fail) <;> (try simp (config := { maxSteps := 1000000 }) only [hb0, hu.one, hv.one, h1.one, h2.one, h3.one, h4.one, h5.one, h6.one, h7.one, h8.one, he.one, hf.one, e1, ↓hold_pre, awayP, runOps, regK, step1, newK, genR, appR, obl, buildR, Value.cells, closeK, keepH, outV, retK, ret1, retC, RetV, Option.getD, runD, stepD, afterK, undef, simprocAttr, sxB, ↓sxD, sxE, sxTab]))
  have m7 : Mem.le M6 M7 := m7
  have hu := hu.le m7
  have hv := hv.le m7
  have h1 := h1.le m7
  have h2 := h2.le m7
  have h3 := h3.le m7
  have h4 := h4.le m7
  have h5 := h5.le m7
  have h6 := h6.le m7
  have h7 := h7.le m7
  have h8 := h8.le m7
  have he := he.le m7
  have hf := hf.le m7
  have hm := hm.trans m7
  refine Stop.go ?_
  (replace hb0 := true_and True); refine Go1.mk ?_; repeat' ((first | (with_reducible refine Go1.go ?_) | ((with_reducible first | refine brv_mk ?_ ?_ | refine gsplitD ?_ ?_ | refine gsplitG ?_ ?_) <;> intro h <;> (try simp only [Bool.not_eq_true', Bool.not_eq_false'] at h) <;> replace hb0 := h) | (refine And.intro ?ob ?_; case ob => ((try simp only [sxO, ne_eq, maxLen] at *); omega)) | fail) <;> (try simp (config := { maxSteps := 1000000 }) only [hb0, hu.one, hv.one, h1.one, h2.one, h3.one, h4.one, h5.one, h6.one, h7.one, h8.one, he.one, hf.one, ↓hold_pre, awayP, runOps, regK, step1, newK, genR, appR, obl, buildR, Value.cells, closeK, keepH, outV, retK, ret1, retC, RetV, Option.getD, runD, stepD, afterK, undef, simprocAttr, sxB, ↓sxD, sxE, sxTab]))
  exact hK _ hm
end
end Go.Proofs.YtamghpnjdohnjaaDoor.Sx
