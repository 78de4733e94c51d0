/- Part 3 of the texts of this claim: a symbolic executor and contracts of functions. -/
import Derived.Test.YtjapnklocibgaaaOLaRP2
namespace Go.Proofs.Ytjapnklocibgaaa.Sx
open Go Go.RowKit
set_option linter.unusedVariables false
set_option linter.unusedSimpArgs false
set_option maxRecDepth 100000
set_option maxHeartbeats 8000000
attribute [local congr] fin_congr finG_congr stepG_congr step1_congr runOps_congr brv_congr obl_congr condK_congr LoopK_congr seqK_congr CutK_congr vc_congr DrawK_congr regK_congr CallK_congr AskK_congr newK_congr retC_congr ret1_congr retK_congr outV_congr closeK_congr genR_congr appR_congr finD_congr finGD_congr stepGD_congr stepD_congr CallK0_congr runD_congr okR_congr CallS_congr vcX_congr
attribute [local congr] Stop_congr
section
variable {M : Mem} {K : AV → Hp → Mem → Prop}
theorem kno_ok {M : Mem} {w1 w2 w3 w4 w5 w6 : Value} (h1 : IsL M u32V w1 (ofN 1)) (h2 : IsL M u32V w2 (ofN 2)) (h3 : IsL M u32V w3 (ofN 1)) (h4 : IsL M u32V w4 (ofN 3)) (h5 : IsL M u32V w5 (ofN 1)) (h6 : IsL M u32V w6 (ofN 4)) : okIL M (knoL w1 w2 w3 w4 w5 w6) := fun x hx => by
  unfold knoL at hx
  simp only [List.mem_cons, List.not_mem_nil, or_false] at hx
  rcases hx with rfl | rfl | rfl
  · exact (itOK_of [112] [97] 4 h1 h2 (by decide) (by decide) (by decide) (by decide) (by decide) (by decide)).ok
  · exact (itOK_of [112] [98] 1 h3 h4 (by decide) (by decide) (by decide) (by decide) (by decide) (by decide)).ok
  · exact (itOK_of [112] [99] 2 h5 h6 (by decide) (by decide) (by decide) (by decide) (by decide) (by decide)).ok
theorem same102_ok (k : Nat) (T : TypeId) {v : Value} (hv : IsL M intV64 v [1, 0, 2]) (hK : K (.ext (.bool true)) [(k, T, [.ext (.int .i64 1), .ext (.int .i64 0), .ext (.int .i64 2)])] M) : CallS Try.prog 23 [.ext v, .slo k 0 3 1] [(k, T, [.ext (.int .i64 1), .ext (.int .i64 0), .ext (.int .i64 2)])] M [] K :=
  same_bor (H := [(k, T, [.ext (.int .i64 1), .ext (.int .i64 0), .ext (.int .i64 2)])]) (l1 := [1, 0, 2]) (l2 := [1, 0, 2]) (T := T) ⟨⟨[.int .i64 1, .int .i64 0, .int .i64 2], rfl⟩, trivial⟩ (by simp [lkH, cE, intV64]) rfl hv (by show 3 < 1000000000; decide) (by show 3 < 1000000000; decide) (by rw [decide_eq_true rfl]; exact hK)
theorem known29_ok (hK : ∀ M', Mem.le M M' → K (.ext (.bool true)) [] M') : CallS Try.prog 15 [] [] M [] K := by
  refine inlS (cs := []) Try.mixed Try.func15 rfl (by kernel_rfl) 0 rfl rfl ?_
  simp only [Try.f15]
  refine Go1.mk ?_; repeat' ((first | (with_reducible refine Go1.go ?_) | (((with_reducible refine isCall (f := 19) ?_); refine callA_nil (by kernel_rfl) ?_; refine (item_ok [97] 1 2 4 (by decide) (by decide) (by decide) (fun w1 w2 M1 a1 a2 a3 _ _ => Stop.mk ?_)))) | (refine And.intro ?ob ?_; case ob => ((try simp only [sxO] at *); omega)) | fail) <;> (try simp (maxSteps := 1000000) only [bs_mk, bs_app, bs_ext, bs_size, bs_toList, bs_at, bs_cells, List.take_length, imp_ga, guard_pk, guard_pk2, ↓hold_pre, awayP, runOps, regK, step1, newK, genR, appR, obl, buildR, Value.cells, closeK, keepH, outV, retK, ret1, retC, RetV, Option.getD, runD, stepD, afterK, undef, simprocAttr, sxB, ↓sxD, sxE, sxTab]))
  have a1 : Mem.le M M1 := a1
  have a2 : IsL M1 u32V w1 (ofN 1) := a2
  have a3 : IsL M1 u32V w2 (ofN 2) := a3
  refine Stop.go ?_
  refine Go1.mk ?_; repeat' ((first | (with_reducible refine Go1.go ?_) | (((with_reducible refine isCall (f := 19) ?_); refine callA_nil (by kernel_rfl) ?_; refine (item_ok [98] 1 3 1 (by decide) (by decide) (by decide) (fun w3 w4 M2 b1 b2 b3 _ _ => Stop.mk ?_)))) | (refine And.intro ?ob ?_; case ob => ((try simp only [sxO] at *); omega)) | fail) <;> (try simp (maxSteps := 1000000) only [a2.one, a3.one, bs_mk, bs_app, bs_ext, bs_size, bs_toList, bs_at, bs_cells, List.take_length, imp_ga, guard_pk, guard_pk2, ↓hold_pre, awayP, runOps, regK, step1, newK, genR, appR, obl, buildR, Value.cells, closeK, keepH, outV, retK, ret1, retC, RetV, Option.getD, runD, stepD, afterK, undef, simprocAttr, sxB, ↓sxD, sxE, sxTab]))
  have b1 : Mem.le M1 M2 := b1
  have b2 : IsL M2 u32V w3 (ofN 1) := b2
  have b3 : IsL M2 u32V w4 (ofN 3) := b3
  refine Stop.go ?_
  refine Go1.mk ?_; repeat' ((first | (with_reducible refine Go1.go ?_) | (((with_reducible refine isCall (f := 19) ?_); refine callA_nil (by kernel_rfl) ?_; refine (item_ok [99] 1 4 2 (by decide) (by decide) (by decide) (fun w5 w6 M3 c1 c2 c3 _ _ => Stop.mk ?_)))) | (refine And.intro ?ob ?_; case ob => ((try simp only [sxO] at *); omega)) | fail) <;> (try simp (maxSteps := 1000000) only [a2.one, a3.one, b2.one, b3.one, bs_mk, bs_app, bs_ext, bs_size, bs_toList, bs_at, bs_cells, List.take_length, imp_ga, guard_pk, guard_pk2, ↓hold_pre, awayP, runOps, regK, step1, newK, genR, appR, obl, buildR, Value.cells, closeK, keepH, outV, retK, ret1, retC, RetV, Option.getD, runD, stepD, afterK, undef, simprocAttr, sxB, ↓sxD, sxE, sxTab]))
  have c1 : Mem.le M2 M3 := c1
  have c2 : IsL M3 u32V w5 (ofN 1) := c2
  have c3 : IsL M3 u32V w6 (ofN 4) := c3
  have hok := kno_ok ((a2.le b1).le c1) ((a3.le b1).le c1) (b2.le c1) (b3.le c1) c2 c3
  refine Stop.go ?_
  refine Go1.mk ?_; repeat' ((first | (with_reducible refine Go1.go ?_) | ((with_reducible refine isCall (f := 11) ?_); refine callA ?_) | ((with_reducible refine isCallS (f := 11) ?_); refine (oorder_bor 9 3 _ (L := knoL w1 w2 w3 w4 w5 w6) rfl hok (by show 3 < 1000000; decide) (fun v Z M4 d1 d2 d3 => Stop.mk ?_))) | (refine And.intro ?ob ?_; case ob => ((try simp only [sxO] at *); omega)) | fail) <;> (try simp (maxSteps := 1000000) only [a2.one, a3.one, b2.one, b3.one, c2.one, c3.one, bs_mk, bs_app, bs_ext, bs_size, bs_toList, bs_at, bs_cells, List.take_length, imp_ga, guard_pk, guard_pk2, ↓hold_pre, awayP, runOps, regK, step1, newK, genR, appR, obl, buildR, Value.cells, closeK, keepH, outV, retK, ret1, retC, RetV, Option.getD, runD, stepD, afterK, undef, simprocAttr, sxB, ↓sxD, sxE, sxTab]))
  have d1 : Mem.le M3 M4 := d1
  obtain rfl := kno_ord d2
  have hE : ordE (knoL w1 w2 w3 w4 w5 w6) = 0 := by unfold ordE; rw [kno_chk, if_pos rfl]
  have d4 := d3.nat
  have d5 : IsL M4 intV64 v [1, 0, 2] := d4
  have hok2 := hok.le d1
  have hkm := irC_ment (knoL w1 w2 w3 w4 w5 w6)
  have hkk := fun k => irC_kill k (knoL w1 w2 w3 w4 w5 w6)
  have hEe := kno_err w1 w2 w3 w4 w5 w6
  have hM4 := ((a1.trans b1).trans c1).trans d1
  refine Stop.go ?_
  refine Go1.mk ?_; repeat' ((first | (with_reducible refine Go1.go ?_) | ((with_reducible refine isCall (f := 12) ?_); refine callA ?_) | ((with_reducible refine isCallS (f := 12) ?_); refine (oloss_bor 9 3 _ (L := knoL w1 w2 w3 w4 w5 w6) (o := [1, 0, 2]) rfl hok2 (by show 3 < 1000000; decide) d5 (by show 3 < 1000000; decide) (fun v1 v2 M5 e1 e2 e3 => Stop.mk ?_))) | (refine And.intro ?ob ?_; case ob => ((try simp only [sxO] at *); omega)) | fail) <;> (try simp (maxSteps := 1000000) only [hE, d5.one, irC_ment, irC_kill, hasK_nil, bs_mk, bs_app, bs_ext, bs_size, bs_toList, bs_at, bs_cells, List.take_length, imp_ga, guard_pk, guard_pk2, ↓hold_pre, awayP, runOps, regK, step1, newK, genR, appR, obl, buildR, Value.cells, closeK, keepH, outV, retK, ret1, retC, RetV, Option.getD, runD, stepD, afterK, undef, simprocAttr, sxB, ↓sxD, sxE, sxTab]))
  have e1 : Mem.le M4 M5 := e1
  rw [kno_los] at e2 e3
  have d6 := d5.le e1
  refine Stop.go ?_
  refine Go1.mk ?_; repeat' ((first | (with_reducible refine Go1.go ?_) | ((with_reducible refine isCall0 (f := 23) ?_); refine callA0 ?_) | ((with_reducible refine isCallS (f := 23) ?_); refine (same102_ok 29 _ d6 ?_)) | (((with_reducible refine isCall0 (f := 22) ?_); refine callA0_nil (by kernel_rfl) ?_; refine (sml_ok 55 12 (by decide) (by decide) (by decide) (fun w7 w8 M6 f1 f2 f3 _ _ => Stop.mk ?_)))) | ((with_reducible refine isDraw [some 21, some 22, some 23, some 24, some 25, some 26, some 27, some 28, some 29, some 30, some 31, some 32, some 33, some 34, some 35, some 36, some 0] (by decide) ?_); refine draw_rule [(0, []), (1, []), (2, []), (3, []), (4, []), (5, []), (6, []), (7, []), (8, []), (9, []), (10, []), (11, []), (12, []), (13, [12]), (14, []), (15, []), (16, [])] [[], [0], [0, 1], [0, 1, 2], [0, 1, 2, 3], [0, 1, 2, 3, 4], [0, 1, 2, 3, 4, 5], [0, 1, 2, 3, 4, 5, 6], [0, 1, 2, 3, 4, 5, 6], [0, 1, 2, 3, 4, 5, 6, 7, 8], [0, 1, 2, 3, 4, 5, 6, 7, 8, 9], [0, 1, 2, 3, 4, 5, 6, 7, 8, 9, 10], [0, 1, 2, 3, 4, 5, 6, 7, 8, 9, 10, 11], [0, 1, 2, 3, 4, 5, 6, 7, 8, 9, 10, 11], [0, 1, 2, 3, 4, 5, 6, 7, 8, 9, 10, 11, 12, 13], [0, 1, 2, 3, 4, 5, 6, 7, 8, 9, 10, 11, 12, 13, 14], [0, 1, 2, 3, 4, 5, 6, 7, 8, 9, 10, 11, 12, 13, 14, 15]] [28, 29, 33, 34] [] (by kernel_rfl) (by kernel_rfl) (by kernel_rfl) (by kernel_rfl) (by exact trivial) ?_) | (refine And.intro ?ob ?_; case ob => ((try simp only [sxO] at *); omega)) | fail) <;> (try simp (maxSteps := 1000000) only [hE, hEe, d6.one, e2.one, e3.one, irC_ment, irC_kill, hasK_nil, bs_mk, bs_app, bs_ext, bs_size, bs_toList, bs_at, bs_cells, List.take_length, imp_ga, guard_pk, guard_pk2, ↓hold_pre, awayP, runOps, regK, step1, newK, genR, appR, obl, buildR, Value.cells, closeK, keepH, outV, retK, ret1, retC, RetV, Option.getD, runD, stepD, afterK, undef, simprocAttr, sxB, ↓sxD, sxE, sxTab]))
  have f1 : Mem.le M5 M6 := f1
  have f2 : IsL M6 u32V w7 (ofN 55) := f2
  have f3 : IsL M6 u32V w8 (ofN 12) := f3
  have hk := hK M6 ((hM4.trans e1).trans f1)
  have e2 := e2.le f1
  have e3 := e3.le f1
  have l55 : (ofN 55).length < 1000000000 := by rw [ofN_u32 (by decide) (by decide)]; decide
  have l12 : (ofN 12).length < 1000000000 := by rw [ofN_u32 (by decide) (by decide)]; decide
  refine Stop.go ?_
  refine Go1.mk ?_; repeat' ((first | (with_reducible refine Go1.go ?_) | (((with_reducible refine isCall0 (f := 33) ?_); refine callA0_nil (by kernel_rfl) ?_; refine (sameFrac_ok e2 e3 f2 f3 l55 l12 ?_))) | ((with_reducible refine isDraw [some 21, some 22, some 23, some 24, some 25, some 26, some 27, some 28, some 29, some 30, some 31, some 32, some 33, some 34, some 35, some 36, some 0] (by decide) ?_); refine draw_rule [(0, []), (1, []), (2, []), (3, []), (4, []), (5, []), (6, []), (7, []), (8, []), (9, []), (10, []), (11, []), (12, []), (13, [12]), (14, []), (15, []), (16, [])] [[], [0], [0, 1], [0, 1, 2], [0, 1, 2, 3], [0, 1, 2, 3, 4], [0, 1, 2, 3, 4, 5], [0, 1, 2, 3, 4, 5, 6], [0, 1, 2, 3, 4, 5, 6], [0, 1, 2, 3, 4, 5, 6, 7, 8], [0, 1, 2, 3, 4, 5, 6, 7, 8, 9], [0, 1, 2, 3, 4, 5, 6, 7, 8, 9, 10], [0, 1, 2, 3, 4, 5, 6, 7, 8, 9, 10, 11], [0, 1, 2, 3, 4, 5, 6, 7, 8, 9, 10, 11], [0, 1, 2, 3, 4, 5, 6, 7, 8, 9, 10, 11, 12, 13], [0, 1, 2, 3, 4, 5, 6, 7, 8, 9, 10, 11, 12, 13, 14], [0, 1, 2, 3, 4, 5, 6, 7, 8, 9, 10, 11, 12, 13, 14, 15]] [28, 29, 33, 34] [] (by kernel_rfl) (by kernel_rfl) (by kernel_rfl) (by kernel_rfl) (by exact trivial) ?_) | (refine And.intro ?ob ?_; case ob => ((try simp only [sxO] at *); omega)) | fail) <;> (try simp (maxSteps := 1000000) only [e2.one, e3.one, f2.one, f3.one, irC_ment, irC_kill, hasK_nil, bs_mk, bs_app, bs_ext, bs_size, bs_toList, bs_at, bs_cells, List.take_length, imp_ga, guard_pk, guard_pk2, ↓hold_pre, awayP, runOps, regK, step1, newK, genR, appR, obl, buildR, Value.cells, closeK, keepH, outV, retK, ret1, retC, RetV, Option.getD, runD, stepD, afterK, undef, simprocAttr, sxB, ↓sxD, sxE, sxTab]))
  exact hk
end
end Go.Proofs.Ytjapnklocibgaaa.Sx
namespace Go.Proofs.Ytjapnklocibgaaa.Sx
open Go Go.RowKit
set_option linter.unusedVariables false
set_option linter.unusedSimpArgs false
set_option maxRecDepth 100000
set_option maxHeartbeats 8000000
attribute [local congr] fin_congr finG_congr stepG_congr step1_congr runOps_congr brv_congr obl_congr condK_congr LoopK_congr seqK_congr CutK_congr vc_congr DrawK_congr regK_congr CallK_congr AskK_congr newK_congr retC_congr ret1_congr retK_congr outV_congr closeK_congr genR_congr appR_congr finD_congr finGD_congr stepGD_congr stepD_congr CallK0_congr runD_congr okR_congr CallS_congr vcX_congr
attribute [local congr] Stop_congr
section
variable {M : Mem} {K : AV → Hp → Mem → Prop}
theorem one31a_ok (u : Value) (l : List Int) (p : Nat) (L : List Bst) (hL : L.length = 4) (hu : IsL M intV64 u l) (hp : p < 1000000) (hK : ∀ x ∈ L, K (.ext (.string (bs x))) [(31, 25, [.ext u, .ext (.int .i64 ((p + 1 : Nat) : Int))]), (49, 9, cE sbV L)] M) :
    CallS Try.prog 34 [.own 31 0, .slo 49 0 4 1] [(49, 9, cE sbV L), (31, 25, [.ext u, .ext (.int .i64 ((p : Nat) : Int))])] M [] K := by
  refine inlS (cs := []) Try.mixed Try.func34 rfl (by kernel_rfl) 50 rfl rfl ?_
  simp only [Try.f34]
  refine Go1.mk ?_; repeat' ((first | (with_reducible refine Go1.go ?_) | ((with_reducible refine isCall (f := 18) ?_); refine callA ?_) | ((with_reducible refine isCallS (f := 18) ?_); refine (nextI_ok 31 u l p 4 hu (by omega) (by omega) (by omega) (fun x hx0 hx1 => Stop.mk ?_))) | (refine And.intro ?ob ?_; case ob => ((try simp only [sxO] at *); omega)) | fail) <;> (try simp (maxSteps := 1000000) only [cE_ment, cE_len, cE_kill, hasK_nil, Nat.mul_one, hu.one, bs_mk, bs_app, bs_ext, bs_size, bs_toList, bs_at, bs_cells, List.take_length, imp_ga, guard_pk, guard_pk2, ↓hold_pre, awayP, runOps, regK, step1, newK, genR, appR, obl, buildR, Value.cells, closeK, keepH, outV, retK, ret1, retC, RetV, Option.getD, runD, stepD, afterK, undef, simprocAttr, sxB, ↓sxD, sxE, sxTab]))
  obtain ⟨j, rfl⟩ := Int.eq_ofNat_of_zero_le hx0
  have hj : j < L.length := by omega
  have hat := cE_at sbV hj
  have hm : L[j] ∈ L := List.getElem_mem hj
  have a1 : (0 : Int) ≤ (j : Int) := by omega
  have a2 : (j : Int) < 4 := by omega
  have a3 : (j : Int) < ((4 : Nat) : Int) := by omega
  generalize L[j] = y at *
  refine Stop.go ?_
  refine Go1.mk ?_; repeat' ((first | (with_reducible refine Go1.go ?_) | (refine And.intro ?ob ?_; case ob => ((try simp only [sxO] at *); omega)) | fail) <;> (try simp (maxSteps := 1000000) only [cE_ment, cE_len, cE_kill, hasK_nil, Nat.mul_one, hu.one, hat, a1, a2, a3, sbV, bs_mk, bs_app, bs_ext, bs_size, bs_toList, bs_at, bs_cells, List.take_length, imp_ga, guard_pk, guard_pk2, ↓hold_pre, awayP, runOps, regK, step1, newK, genR, appR, obl, buildR, Value.cells, closeK, keepH, outV, retK, ret1, retC, RetV, Option.getD, runD, stepD, afterK, undef, simprocAttr, sxB, ↓sxD, sxE, sxTab]))
  exact hK _ hm
theorem one31b_ok (u : Value) (l : List Int) (p : Nat) (L : List Bst) (hL : L.length = 2) (hu : IsL M intV64 u l) (hp : p < 1000000) (hK : ∀ x ∈ L, K (.ext (.string (bs x))) [(31, 25, [.ext u, .ext (.int .i64 ((p + 1 : Nat) : Int))]), (61, 9, cE sbV L)] M) :
    CallS Try.prog 34 [.own 31 0, .slo 61 0 2 1] [(61, 9, cE sbV L), (31, 25, [.ext u, .ext (.int .i64 ((p : Nat) : Int))])] M [] K := by
  refine inlS (cs := []) Try.mixed Try.func34 rfl (by kernel_rfl) 62 rfl rfl ?_
  simp only [Try.f34]
  refine Go1.mk ?_; repeat' ((first | (with_reducible refine Go1.go ?_) | ((with_reducible refine isCall (f := 18) ?_); refine callA ?_) | ((with_reducible refine isCallS (f := 18) ?_); refine (nextI_ok 31 u l p 2 hu (by omega) (by omega) (by omega) (fun x hx0 hx1 => Stop.mk ?_))) | (refine And.intro ?ob ?_; case ob => ((try simp only [sxO] at *); omega)) | fail) <;> (try simp (maxSteps := 1000000) only [cE_ment, cE_len, cE_kill, hasK_nil, Nat.mul_one, hu.one, bs_mk, bs_app, bs_ext, bs_size, bs_toList, bs_at, bs_cells, List.take_length, imp_ga, guard_pk, guard_pk2, ↓hold_pre, awayP, runOps, regK, step1, newK, genR, appR, obl, buildR, Value.cells, closeK, keepH, outV, retK, ret1, retC, RetV, Option.getD, runD, stepD, afterK, undef, simprocAttr, sxB, ↓sxD, sxE, sxTab]))
  obtain ⟨j, rfl⟩ := Int.eq_ofNat_of_zero_le hx0
  have hj : j < L.length := by omega
  have hat := cE_at sbV hj
  have hm : L[j] ∈ L := List.getElem_mem hj
  have a1 : (0 : Int) ≤ (j : Int) := by omega
  have a2 : (j : Int) < 2 := by omega
  have a3 : (j : Int) < ((2 : Nat) : Int) := by omega
  generalize L[j] = y at *
  refine Stop.go ?_
  refine Go1.mk ?_; repeat' ((first | (with_reducible refine Go1.go ?_) | (refine And.intro ?ob ?_; case ob => ((try simp only [sxO] at *); omega)) | fail) <;> (try simp (maxSteps := 1000000) only [cE_ment, cE_len, cE_kill, hasK_nil, Nat.mul_one, hu.one, hat, a1, a2, a3, sbV, bs_mk, bs_app, bs_ext, bs_size, bs_toList, bs_at, bs_cells, List.take_length, imp_ga, guard_pk, guard_pk2, ↓hold_pre, awayP, runOps, regK, step1, newK, genR, appR, obl, buildR, Value.cells, closeK, keepH, outV, retK, ret1, retC, RetV, Option.getD, runD, stepD, afterK, undef, simprocAttr, sxB, ↓sxD, sxE, sxTab]))
  exact hK _ hm
theorem FrzF.keep5 {K : AV → Hp → Mem → Prop} {H H2 : Hp} {M' : Mem} {k n : Nat} {T : TypeId} (cs : List Value) (h1 : lkH H k = none) (h2 : cs.length = n * 5) (h3 : hasK k (mentH H2) = false) (h4 : lkH H2 k = none) (h : ∀ u M'', Mem.le M' M'' → SlM M'' 5 u n cs → FreshS M' u → K (.ext u) H2 M'') : FrzF K H (.slo k 0 n 5) ((k, T, cs.map .ext) :: H2) M' :=
  .inr ⟨none, [], [], k, n, 5, T, cs, H2, rfl, rfl, h4, h1, h2, by simpa [mentL] using h3, h⟩
def itSt31 (M : Mem) (u : Value) (p n m : Nat) (L : List IR) : St := { env := [(6, .ext (.int .i64 (n : Int))), (5, .slo 37 0 m 5), (4, .ext (.slice none 0 0)), (0, .own 31 0)], hp := [(37, 46, irC L), (31, 25, [.ext u, .ext (.int .i64 ((p : Nat) : Int))])], M := M, kb := 32, fx := [31] }
def icSt31 (M : Mem) (u : Value) (p n m : Nat) (L : List IR) (x : IR) : St := { env := [(7, .own 39 0), (6, .ext (.int .i64 (n : Int))), (5, .slo 37 0 m 5), (4, .ext (.slice none 0 0)), (0, .own 31 0)], hp := [(39, 46, [.ext (.string (bs x.pk)), .ext (.string (bs x.ts)), .ext x.u1, .ext x.u2, .ext (.int .i64 x.cost)]), (37, 46, irC L), (31, 25, [.ext u, .ext (.int .i64 ((p : Nat) : Int))])], M := M, kb := 32, fx := [31] }
theorem items31_ok (u : Value) (l : List Int) (p most : Nat) (hu : IsL M intV64 u l) (hp : p < 100000) (hm : most < 100) (hK : ∀ v L M' p', Mem.le M M' → IsR M' 5 IR.c v L → (∀ x ∈ L, ItOK M' x) → FreshS M v → L.length ≤ most → p' ≤ p + 1000 → K (.ext v) [(31, 25, [.ext u, .ext (.int .i64 ((p' : Nat) : Int))])] M') :
    CallS Try.prog 10 [.own 31 0, .ext (.int .i64 (most : Int))] [(31, 25, [.ext u, .ext (.int .i64 ((p : Nat) : Int))])] M [] K := by
  refine CallS.frzF ?_
  refine inlS (cs := [12]) Try.mixed Try.func10 rfl (by kernel_rfl) 32 rfl rfl ?_
  simp only [Try.f10]
  have w0 : IntKind.i64.wrap ((most : Int) + 1) = ((most + 1 : Nat) : Int) := succ_i (by omega)
  refine Go1.mk ?_; repeat' ((first | (with_reducible refine Go1.go ?_) | ((with_reducible refine isCall (f := 18) ?_); refine callA ?_) | ((with_reducible refine isCallS (f := 18) ?_); refine (nextI_ok 31 u l p ((most + 1 : Nat) : Int) hu (by omega) (by omega) (by omega) (fun x hx0 hx1 => Stop.mk ?_))) | (refine And.intro ?ob ?_; case ob => ((try simp only [sxO] at *); omega)) | fail) <;> (try simp (maxSteps := 1000000) only [w0, irC_ment, irC_kill, hasK_nil, hu.one, bs_mk, bs_app, bs_ext, bs_size, bs_toList, bs_at, bs_cells, List.take_length, imp_ga, guard_pk, guard_pk2, ↓hold_pre, awayP, runOps, regK, step1, newK, genR, appR, obl, buildR, Value.cells, closeK, keepH, outV, retK, ret1, retC, RetV, Option.getD, runD, stepD, afterK, undef, simprocAttr, sxB, ↓sxD, sxE, sxTab]))
  obtain ⟨N, rfl⟩ := Int.eq_ofNat_of_zero_le hx0
  have hN : N ≤ most := by omega
  clear w0
  refine Stop.go ?_
  refine Go1.mk ?_; repeat' ((first | (with_reducible refine Go1.go ?_) | (refine And.intro ?ob ?_; case ob => ((try simp only [sxO] at *); omega)) | fail) <;> (try simp (maxSteps := 1000000) only [hasK_nil, irC_ment, irC_kill, hasK_nil, hu.one, bs_mk, bs_app, bs_ext, bs_size, bs_toList, bs_at, bs_cells, List.take_length, imp_ga, guard_pk, guard_pk2, ↓hold_pre, awayP, runOps, regK, step1, newK, genR, appR, obl, buildR, Value.cells, closeK, keepH, outV, retK, ret1, retC, RetV, Option.getD, runD, stepD, afterK, undef, simprocAttr, sxB, ↓sxD, sxE, sxTab]))
  refine ⟨fun d z => ∃ M' L p' n, d = n ∧ Mem.le M M' ∧ (∀ x ∈ L, ItOK M' x) ∧ L.length + n = N ∧ p' + 9 * n ≤ p + 1 + 9 * N ∧ z = itSt31 M' u p' n L.length L,
    ⟨N, itSt31 M u (p + 1) N 0 [], (le_nil 5 37 46 5 rfl (.inl (by simp [awayB, mentE, mentH, mentL, AV.ment, hasK]))).trans (le_sub ⟨rfl, rfl, rfl, rfl, trivial⟩ ⟨by simp [lkH, itSt31, irC], by simp [lkH, itSt31], trivial⟩ rfl rfl rfl (by simp [keepLt, itSt31, lkH])), ⟨M, [], p + 1, N, rfl, Mem.le.refl _, by simp, by simp, by omega, rfl⟩⟩, ?_⟩
  clear hx0 hx1
  rintro n z ⟨M1, L, p', n', rfl, hM, hL, hLn, hpn, rfl⟩
  have hu1 := hu.le hM
  have hcl : (irC L).length = L.length * 5 := irC_len L
  rcases Nat.eq_zero_or_pos n with rfl | hn0
  · have d1 : decide ((0 : Int) < ((0 : Nat) : Int)) = false := by decide
    refine Go1.mk ?_; repeat' ((first | (with_reducible refine Go1.go ?_) | (refine And.intro ?ob ?_; case ob => ((try simp only [sxO] at *); omega)) | fail) <;> (try simp (maxSteps := 1000000) only [itSt31, d1, irC_ment, irC_kill, hasK_nil, hu.one, bs_mk, bs_app, bs_ext, bs_size, bs_toList, bs_at, bs_cells, List.take_length, imp_ga, guard_pk, guard_pk2, ↓hold_pre, awayP, runOps, regK, step1, newK, genR, appR, obl, buildR, Value.cells, closeK, keepH, outV, retK, ret1, retC, RetV, Option.getD, runD, stepD, afterK, undef, simprocAttr, sxB, ↓sxD, sxE, sxTab]))
    refine FrzF.keep5 (L.flatMap IR.c) rfl (by rw [flat_len (z := 5) (fun _ => rfl)]) (by simp [mentH, mentL, AV.ment, hasK]) rfl fun v M3 h1 h2 h3 => hK v L M3 p' (hM.trans h1) h2 (fun x hx => (hL x hx).le h1) (h3.le hM) (by omega) (by omega)
  have d1 : decide ((0 : Int) < (n : Int)) = true := by rw [decide_eq_true_eq]; omega
  refine Go1.mk ?_; repeat' ((first | (with_reducible refine Go1.go ?_) | ((with_reducible refine isCall (f := 34) ?_); refine callA ?_) | ((with_reducible refine isCallS (f := 34) ?_); refine (one31a_ok u l p' [[97], [98], [99], [100]] rfl hu1 (by omega) (fun ts _ => Stop.mk ?_))) | (refine And.intro ?ob ?_; case ob => ((try simp only [sxO] at *); omega)) | fail) <;> (try simp (maxSteps := 1000000) only [itSt31, d1, irC_ment, irC_kill, hasK_nil, hu.one, bs_mk, bs_app, bs_ext, bs_size, bs_toList, bs_at, bs_cells, List.take_length, imp_ga, guard_pk, guard_pk2, ↓hold_pre, awayP, runOps, regK, step1, newK, genR, appR, obl, buildR, Value.cells, closeK, keepH, outV, retK, ret1, retC, RetV, Option.getD, runD, stepD, afterK, undef, simprocAttr, sxB, ↓sxD, sxE, sxTab]))
  refine Stop.go ?_
  refine Go1.mk ?_; repeat' ((first | (with_reducible refine Go1.go ?_) | ((with_reducible refine isCall (f := 18) ?_); refine callA ?_) | ((with_reducible refine isCallS (f := 18) ?_); refine (nextI_ok 31 u l (p' + 1) 9 hu1 (by omega) (by omega) (by omega) (fun x1 x10 x11 => Stop.mk ?_))) | (refine And.intro ?ob ?_; case ob => ((try simp only [sxO] at *); omega)) | fail) <;> (try simp (maxSteps := 1000000) only [cE_ment, cE_kill, irC_ment, irC_kill, hasK_nil, hu.one, bs_mk, bs_app, bs_ext, bs_size, bs_toList, bs_at, bs_cells, List.take_length, imp_ga, guard_pk, guard_pk2, ↓hold_pre, awayP, runOps, regK, step1, newK, genR, appR, obl, buildR, Value.cells, closeK, keepH, outV, retK, ret1, retC, RetV, Option.getD, runD, stepD, afterK, undef, simprocAttr, sxB, ↓sxD, sxE, sxTab]))
  obtain ⟨num, rfl⟩ := Int.eq_ofNat_of_zero_le x10
  refine Stop.go ?_
  refine Go1.mk ?_; repeat' ((first | (with_reducible refine Go1.go ?_) | ((with_reducible refine isCall (f := 18) ?_); refine callA ?_) | ((with_reducible refine isCallS (f := 18) ?_); refine (nextI_ok 31 u l (p' + 1 + 1) 8 hu1 (by omega) (by omega) (by omega) (fun x2 x20 x21 => Stop.mk ?_))) | (refine And.intro ?ob ?_; case ob => ((try simp only [sxO] at *); omega)) | fail) <;> (try simp (maxSteps := 1000000) only [cE_ment, irC_ment, irC_kill, hasK_nil, hu.one, bs_mk, bs_app, bs_ext, bs_size, bs_toList, bs_at, bs_cells, List.take_length, imp_ga, guard_pk, guard_pk2, ↓hold_pre, awayP, runOps, regK, step1, newK, genR, appR, obl, buildR, Value.cells, closeK, keepH, outV, retK, ret1, retC, RetV, Option.getD, runD, stepD, afterK, undef, simprocAttr, sxB, ↓sxD, sxE, sxTab]))
  obtain ⟨den, rfl⟩ := Int.eq_ofNat_of_zero_le x20
  obtain ⟨D, hD⟩ : ∃ D, D = den + 1 := ⟨_, rfl⟩
  have w1 : IntKind.i64.wrap (1 + (den : Int)) = (D : Int) := by rw [wrap_id (by omega) (by omega)]; omega
  refine Stop.go ?_
  refine Go1.mk ?_; repeat' ((first | (with_reducible refine Go1.go ?_) | ((with_reducible refine isCall (f := 18) ?_); refine callA ?_) | ((with_reducible refine isCallS (f := 18) ?_); refine (nextI_ok 31 u l (p' + 1 + 1 + 1) 8 hu1 (by omega) (by omega) (by omega) (fun x3 x30 x31 => Stop.mk ?_))) | (refine And.intro ?ob ?_; case ob => ((try simp only [sxO] at *); omega)) | fail) <;> (try simp (maxSteps := 1000000) only [w1, cE_ment, irC_ment, irC_kill, hasK_nil, hu.one, bs_mk, bs_app, bs_ext, bs_size, bs_toList, bs_at, bs_cells, List.take_length, imp_ga, guard_pk, guard_pk2, ↓hold_pre, awayP, runOps, regK, step1, newK, genR, appR, obl, buildR, Value.cells, closeK, keepH, outV, retK, ret1, retC, RetV, Option.getD, runD, stepD, afterK, undef, simprocAttr, sxB, ↓sxD, sxE, sxTab]))
  obtain ⟨cos, rfl⟩ := Int.eq_ofNat_of_zero_le x30
  obtain ⟨C, hC⟩ : ∃ C, C = cos + 1 := ⟨_, rfl⟩
  have w2 : IntKind.i64.wrap (1 + (cos : Int)) = (C : Int) := by rw [wrap_id (by omega) (by omega)]; omega
  refine Stop.go ?_
  refine Go1.mk ?_; repeat' ((first | (with_reducible refine Go1.go ?_) | (((with_reducible refine isCall (f := 19) ?_); refine callA_nil (by kernel_rfl) ?_; refine (item_ok ts num D C (by omega) (by omega) (by omega) (fun w1 w2 M2 a1 a2 a3 a4 a5 => Stop.mk ?_)))) | (refine And.intro ?ob ?_; case ob => ((try simp only [sxO] at *); omega)) | fail) <;> (try simp (maxSteps := 1000000) only [w2, cE_ment, irC_ment, irC_kill, hasK_nil, hu.one, bs_mk, bs_app, bs_ext, bs_size, bs_toList, bs_at, bs_cells, List.take_length, imp_ga, guard_pk, guard_pk2, ↓hold_pre, awayP, runOps, regK, step1, newK, genR, appR, obl, buildR, Value.cells, closeK, keepH, outV, retK, ret1, retC, RetV, Option.getD, runD, stepD, afterK, undef, simprocAttr, sxB, ↓sxD, sxE, sxTab]))
  have a1 : Mem.le M1 M2 := a1
  have hu2 := hu1.le a1
  obtain ⟨g1, g2, g3, g4⟩ := sml_low num D (by omega) (by omega) (by omega)
  refine Stop.go ?_
  refine Go1.mk ?_; repeat' ((first | (with_reducible refine Go1.go ?_) | ((with_reducible refine isCall (f := 34) ?_); refine callA ?_) | ((with_reducible refine isCallS (f := 34) ?_); refine (one31b_ok u l (p' + 1 + 1 + 1 + 1) [[112], [113]] rfl hu2 (by omega) (fun pk _ => Stop.mk ?_))) | (refine And.intro ?ob ?_; case ob => ((try simp only [sxO] at *); omega)) | fail) <;> (try simp (maxSteps := 1000000) only [a2.one, a3.one, cE_ment, irC_ment, irC_kill, hasK_nil, hu.one, bs_mk, bs_app, bs_ext, bs_size, bs_toList, bs_at, bs_cells, List.take_length, imp_ga, guard_pk, guard_pk2, ↓hold_pre, awayP, runOps, regK, step1, newK, genR, appR, obl, buildR, Value.cells, closeK, keepH, outV, retK, ret1, retC, RetV, Option.getD, runD, stepD, afterK, undef, simprocAttr, sxB, ↓sxD, sxE, sxTab]))
  have hit := itOK_of pk ts C a2 a3 g1 g2 g3 g4 (by omega) (by omega)
  refine Stop.go ?_
  refine Go1.mk ?_; repeat' ((first | (with_reducible refine Go1.go ?_) | (refine And.intro ?ob ?_; case ob => ((try simp only [sxO] at *); omega)) | fail) <;> (try simp (maxSteps := 1000000) only [a2.one, a3.one, cE_ment, cE_kill, irC_ment, irC_kill, hasK_nil, hu.one, bs_mk, bs_app, bs_ext, bs_size, bs_toList, bs_at, bs_cells, List.take_length, imp_ga, guard_pk, guard_pk2, ↓hold_pre, awayP, runOps, regK, step1, newK, genR, appR, obl, buildR, Value.cells, closeK, keepH, outV, retK, ret1, retC, RetV, Option.getD, runD, stepD, afterK, undef, simprocAttr, sxB, ↓sxD, sxE, sxTab]))
  refine ⟨fun z => ∃ M' p2 x, Mem.le M1 M' ∧ ItOK M' x ∧ p2 ≤ p' + 8 ∧ z = icSt31 M' u p2 n L.length L x, ?_, ?_⟩
  · refine Go1.mk ?_; repeat' ((first | (with_reducible refine Go1.go ?_) | ((with_reducible refine isCall (f := 18) ?_); refine callA ?_) | ((with_reducible refine isCallS (f := 18) ?_); refine (nextI_ok 31 u l (p' + 1 + 1 + 1 + 1 + 1) 8 hu2 (by omega) (by omega) (by omega) (fun x4 x40 x41 => Stop.mk ?_))) | (refine And.intro ?ob ?_; case ob => ((try simp only [sxO] at *); omega)) | fail) <;> (try simp (maxSteps := 1000000) only [a2.one, a3.one, cE_ment, cE_kill, irC_ment, irC_kill, hasK_nil, hu.one, bs_mk, bs_app, bs_ext, bs_size, bs_toList, bs_at, bs_cells, List.take_length, imp_ga, guard_pk, guard_pk2, ↓hold_pre, awayP, runOps, regK, step1, newK, genR, appR, obl, buildR, Value.cells, closeK, keepH, outV, retK, ret1, retC, RetV, Option.getD, runD, stepD, afterK, undef, simprocAttr, sxB, ↓sxD, sxE, sxTab]))
    obtain ⟨sw, rfl⟩ := Int.eq_ofNat_of_zero_le x40
    by_cases s0 : sw = 0
    · have e0 : decide ((sw : Int) = 0) = true := by rw [decide_eq_true_eq]; omega
      refine Stop.go ?_
      refine Go1.mk ?_; repeat' ((first | (with_reducible refine Go1.go ?_) | ((with_reducible refine isCall (f := 18) ?_); refine callA ?_) | ((with_reducible refine isCallS (f := 18) ?_); refine (nextI_ok 31 u l (p' + 1 + 1 + 1 + 1 + 1 + 1) 3 hu2 (by omega) (by omega) (by omega) (fun x5 x50 x51 => Stop.mk ?_))) | (refine And.intro ?ob ?_; case ob => ((try simp only [sxO] at *); omega)) | fail) <;> (try simp (maxSteps := 1000000) only [a2.one, a3.one, cE_ment, cE_kill, e0, irC_ment, irC_kill, hasK_nil, hu.one, bs_mk, bs_app, bs_ext, bs_size, bs_toList, bs_at, bs_cells, List.take_length, imp_ga, guard_pk, guard_pk2, ↓hold_pre, awayP, runOps, regK, step1, newK, genR, appR, obl, buildR, Value.cells, closeK, keepH, outV, retK, ret1, retC, RetV, Option.getD, runD, stepD, afterK, undef, simprocAttr, sxB, ↓sxD, sxE, sxTab]))
      obtain ⟨y, rfl⟩ := Int.eq_ofNat_of_zero_le x50
      obtain ⟨C2, hC2⟩ : ∃ C2, C2 = 1048576 - y := ⟨_, rfl⟩
      have w3 : IntKind.i64.wrap (1048576 - (y : Int)) = (C2 : Int) := by rw [wrap_id (by omega) (by omega)]; omega
      have hit := itOK_of pk ts C2 a2 a3 g1 g2 g3 g4 (by omega) (by omega)
      refine Stop.go ?_
      refine Go1.mk ?_; repeat' ((first | (with_reducible refine Go1.go ?_) | (refine And.intro ?ob ?_; case ob => ((try simp only [sxO] at *); omega)) | fail) <;> (try simp (maxSteps := 1000000) only [a2.one, a3.one, cE_ment, cE_kill, w3, irC_ment, irC_kill, hasK_nil, hu.one, bs_mk, bs_app, bs_ext, bs_size, bs_toList, bs_at, bs_cells, List.take_length, imp_ga, guard_pk, guard_pk2, ↓hold_pre, awayP, runOps, regK, step1, newK, genR, appR, obl, buildR, Value.cells, closeK, keepH, outV, retK, ret1, retC, RetV, Option.getD, runD, stepD, afterK, undef, simprocAttr, sxB, ↓sxD, sxE, sxTab]))
      exact ⟨icSt31 M2 u (p' + 1 + 1 + 1 + 1 + 1 + 1 + 1) n L.length L ⟨pk, ts, w1, w2, _, _, (C2 : Int)⟩, le_sub ⟨rfl, rfl, rfl, rfl, rfl, trivial⟩ ⟨by simp [lkH, icSt31, irC_kill], by simp [lkH, icSt31, irC_kill], by simp [lkH, icSt31, irC_kill], trivial⟩ rfl rfl rfl (by simp [keepLt, icSt31, lkH]), M2, _, _, a1, hit, by omega, rfl⟩
    have e0 : decide ((sw : Int) = 0) = false := by rw [decide_eq_false_iff_not]; omega
    by_cases s1 : sw = 1
    · have e1 : decide ((sw : Int) = 1) = true := by rw [decide_eq_true_eq]; omega
      refine Stop.go ?_
      refine Go1.mk ?_; repeat' ((first | (with_reducible refine Go1.go ?_) | ((with_reducible refine isCall (f := 18) ?_); refine callA ?_) | ((with_reducible refine isCallS (f := 18) ?_); refine (nextI_ok 31 u l (p' + 1 + 1 + 1 + 1 + 1 + 1) 1048576 hu2 (by omega) (by omega) (by omega) (fun x5 x50 x51 => Stop.mk ?_))) | (refine And.intro ?ob ?_; case ob => ((try simp only [sxO] at *); omega)) | fail) <;> (try simp (maxSteps := 1000000) only [a2.one, a3.one, cE_ment, cE_kill, e0, e1, irC_ment, irC_kill, hasK_nil, hu.one, bs_mk, bs_app, bs_ext, bs_size, bs_toList, bs_at, bs_cells, List.take_length, imp_ga, guard_pk, guard_pk2, ↓hold_pre, awayP, runOps, regK, step1, newK, genR, appR, obl, buildR, Value.cells, closeK, keepH, outV, retK, ret1, retC, RetV, Option.getD, runD, stepD, afterK, undef, simprocAttr, sxB, ↓sxD, sxE, sxTab]))
      obtain ⟨y, rfl⟩ := Int.eq_ofNat_of_zero_le x50
      obtain ⟨Y, hY⟩ : ∃ Y, Y = y + 1 := ⟨_, rfl⟩
      have w3 : IntKind.i64.wrap (1 + (y : Int)) = (Y : Int) := by rw [wrap_id (by omega) (by omega)]; omega
      refine Stop.go ?_
      refine Go1.mk ?_; repeat' ((first | (with_reducible refine Go1.go ?_) | ((with_reducible refine isCall (f := 18) ?_); refine callA ?_) | ((with_reducible refine isCallS (f := 18) ?_); refine (nextI_ok 31 u l (p' + 1 + 1 + 1 + 1 + 1 + 1 + 1) 1048576 hu2 (by omega) (by omega) (by omega) (fun x6 x60 x61 => Stop.mk ?_))) | (refine And.intro ?ob ?_; case ob => ((try simp only [sxO] at *); omega)) | fail) <;> (try simp (maxSteps := 1000000) only [a2.one, a3.one, cE_ment, cE_kill, w3, irC_ment, irC_kill, hasK_nil, hu.one, bs_mk, bs_app, bs_ext, bs_size, bs_toList, bs_at, bs_cells, List.take_length, imp_ga, guard_pk, guard_pk2, ↓hold_pre, awayP, runOps, regK, step1, newK, genR, appR, obl, buildR, Value.cells, closeK, keepH, outV, retK, ret1, retC, RetV, Option.getD, runD, stepD, afterK, undef, simprocAttr, sxB, ↓sxD, sxE, sxTab]))
      obtain ⟨z, rfl⟩ := Int.eq_ofNat_of_zero_le x60
      obtain ⟨Z, hZ⟩ : ∃ Z, Z = z + 1 := ⟨_, rfl⟩
      have w4 : IntKind.i64.wrap (1 + (z : Int)) = (Z : Int) := by rw [wrap_id (by omega) (by omega)]; omega
      obtain ⟨f1, f2, f3, f4⟩ := sml_low Y Z (by omega) (by omega) (by omega)
      refine Stop.go ?_
      refine Go1.mk ?_; repeat' ((first | (with_reducible refine Go1.go ?_) | (((with_reducible refine isCall (f := 22) ?_); refine callA_nil (by kernel_rfl) ?_; refine (sml_ok Y Z (by omega) (by omega) (by omega) (fun v1 v2 M3 c1 c2 c3 c4 c5 => Stop.mk ?_)))) | (refine And.intro ?ob ?_; case ob => ((try simp only [sxO] at *); omega)) | fail) <;> (try simp (maxSteps := 1000000) only [a2.one, a3.one, cE_ment, cE_kill, w4, irC_ment, irC_kill, hasK_nil, hu.one, bs_mk, bs_app, bs_ext, bs_size, bs_toList, bs_at, bs_cells, List.take_length, imp_ga, guard_pk, guard_pk2, ↓hold_pre, awayP, runOps, regK, step1, newK, genR, appR, obl, buildR, Value.cells, closeK, keepH, outV, retK, ret1, retC, RetV, Option.getD, runD, stepD, afterK, undef, simprocAttr, sxB, ↓sxD, sxE, sxTab]))
      have c1 : Mem.le M2 M3 := c1
      have hit := itOK_of pk ts C c2 c3 f1 f2 f3 f4 (by omega) (by omega)
      refine Stop.go ?_
      refine Go1.mk ?_; repeat' ((first | (with_reducible refine Go1.go ?_) | (refine And.intro ?ob ?_; case ob => ((try simp only [sxO] at *); omega)) | fail) <;> (try simp (maxSteps := 1000000) only [c2.one, c3.one, a2.one, a3.one, cE_ment, cE_kill, irC_ment, irC_kill, hasK_nil, hu.one, bs_mk, bs_app, bs_ext, bs_size, bs_toList, bs_at, bs_cells, List.take_length, imp_ga, guard_pk, guard_pk2, ↓hold_pre, awayP, runOps, regK, step1, newK, genR, appR, obl, buildR, Value.cells, closeK, keepH, outV, retK, ret1, retC, RetV, Option.getD, runD, stepD, afterK, undef, simprocAttr, sxB, ↓sxD, sxE, sxTab]))
      exact ⟨icSt31 M3 u (p' + 1 + 1 + 1 + 1 + 1 + 1 + 1 + 1) n L.length L ⟨pk, ts, v1, v2, _, _, (C : Int)⟩, le_sub ⟨rfl, rfl, rfl, rfl, rfl, trivial⟩ ⟨by simp [lkH, icSt31, irC_kill], by simp [lkH, icSt31, irC_kill], by simp [lkH, icSt31, irC_kill], trivial⟩ rfl rfl rfl (by simp [keepLt, icSt31, lkH]), M3, _, _, a1.trans c1, hit, by omega, rfl⟩
    have e1 : decide ((sw : Int) = 1) = false := by rw [decide_eq_false_iff_not]; omega
    refine Stop.go ?_
    refine Go1.mk ?_; repeat' ((first | (with_reducible refine Go1.go ?_) | (refine And.intro ?ob ?_; case ob => ((try simp only [sxO] at *); omega)) | fail) <;> (try simp (maxSteps := 1000000) only [a2.one, a3.one, cE_ment, cE_kill, e0, e1, irC_ment, irC_kill, hasK_nil, hu.one, bs_mk, bs_app, bs_ext, bs_size, bs_toList, bs_at, bs_cells, List.take_length, imp_ga, guard_pk, guard_pk2, ↓hold_pre, awayP, runOps, regK, step1, newK, genR, appR, obl, buildR, Value.cells, closeK, keepH, outV, retK, ret1, retC, RetV, Option.getD, runD, stepD, afterK, undef, simprocAttr, sxB, ↓sxD, sxE, sxTab]))
    exact ⟨icSt31 M2 u (p' + 1 + 1 + 1 + 1 + 1 + 1) n L.length L ⟨pk, ts, w1, w2, _, _, (C : Int)⟩, le_sub ⟨rfl, rfl, rfl, rfl, rfl, trivial⟩ ⟨by simp [lkH, icSt31, irC_kill], by simp [lkH, icSt31, irC_kill], by simp [lkH, icSt31, irC_kill], trivial⟩ rfl rfl rfl (by simp [keepLt, icSt31, lkH]), M2, _, _, a1, hit, by omega, rfl⟩
  clear hit a2 a3 a4 a5 w1 w2
  rintro z ⟨M3, p2, x, hM3, hx, hp2, rfl⟩
  have happ := irC_app L x
  have o1 := hx.ok.f.n.one
  have o2 := hx.ok.f.d.one
  have wn : IntKind.i64.wrap ((n : Int) - 1) = ((n - 1 : Nat) : Int) := pred_i (by omega) (by omega)
  refine Go1.mk ?_; repeat' ((first | (with_reducible refine Go1.go ?_) | (refine And.intro ?ob ?_; case ob => ((try simp only [sxO] at *); omega)) | fail) <;> (try simp (maxSteps := 1000000) only [icSt31, happ, hcl, wn, o1, o2, irC_ment, irC_kill, hasK_nil, hu.one, bs_mk, bs_app, bs_ext, bs_size, bs_toList, bs_at, bs_cells, List.take_length, imp_ga, guard_pk, guard_pk2, ↓hold_pre, awayP, runOps, regK, step1, newK, genR, appR, obl, buildR, Value.cells, closeK, keepH, outV, retK, ret1, retC, RetV, Option.getD, runD, stepD, afterK, undef, simprocAttr, sxB, ↓sxD, sxE, sxTab]))
  exact ⟨n - 1, itSt31 M3 u p2 (n - 1) (L.length + 1) (L ++ [x]), by omega, le_sub ⟨rfl, rfl, rfl, rfl, trivial⟩ ⟨by simp [lkH, itSt31], by simp [lkH, itSt31], trivial⟩ rfl rfl rfl (by simp [keepLt, itSt31, lkH]), M3, L ++ [x], p2, n - 1, rfl, hM.trans hM3, fun y hy => by
    rcases List.mem_append.1 hy with hy | hy
    · exact (hL y hy).le hM3
    · rw [List.mem_singleton.1 hy]; exact hx, by rw [List.length_append, List.length_singleton]; omega, by omega, by rw [List.length_append, List.length_singleton]⟩
end
end Go.Proofs.Ytjapnklocibgaaa.Sx
namespace Go.Proofs.Ytjapnklocibgaaa.Sx
open Go Go.RowKit
set_option linter.unusedVariables false
set_option linter.unusedSimpArgs false
set_option maxRecDepth 100000
set_option maxHeartbeats 8000000
attribute [local congr] fin_congr finG_congr stepG_congr step1_congr runOps_congr brv_congr obl_congr condK_congr LoopK_congr seqK_congr CutK_congr vc_congr DrawK_congr regK_congr CallK_congr AskK_congr newK_congr retC_congr ret1_congr retK_congr outV_congr closeK_congr genR_congr appR_congr finD_congr finGD_congr stepGD_congr stepD_congr CallK0_congr runD_congr okR_congr CallS_congr vcX_congr
attribute [local congr] Stop_congr
section
variable {M : Mem} {K : AV → Hp → Mem → Prop}
end
end Go.Proofs.Ytjapnklocibgaaa.Sx
namespace Go.Proofs.Ytjapnklocibgaaa.Sx
open Go Go.RowKit
set_option linter.unusedVariables false
set_option linter.unusedSimpArgs false
set_option maxRecDepth 100000
set_option maxHeartbeats 8000000
attribute [local congr] fin_congr finG_congr stepG_congr step1_congr runOps_congr brv_congr obl_congr condK_congr LoopK_congr seqK_congr CutK_congr vc_congr DrawK_congr regK_congr CallK_congr AskK_congr newK_congr retC_congr ret1_congr retK_congr outV_congr closeK_congr genR_congr appR_congr finD_congr finGD_congr stepGD_congr stepD_congr CallK0_congr runD_congr okR_congr CallS_congr vcX_congr
attribute [local congr] Stop_congr
section
variable {M : Mem} {K : AV → Hp → Mem → Prop} {u : Value} {L : List IR}
end
end Go.Proofs.Ytjapnklocibgaaa.Sx
namespace Go.Proofs.Ytjapnklocibgaaa.Sx
open Go
set_option maxRecDepth 100000
set_option linter.unusedVariables false
structure Scaled (f g : Nat) (x y : IR) : Prop where
  pk : y.pk = x.pk
  ts : y.ts = x.ts
  cost : y.cost = x.cost
  val : valN y.l1 * (valN x.l2 * g) = valN x.l1 * f * valN y.l2
  pos : 0 < valN y.l2
end Go.Proofs.Ytjapnklocibgaaa.Sx
namespace Go.Proofs.Ytjapnklocibgaaa.Sx
open Go Go.RowKit
set_option linter.unusedVariables false
set_option linter.unusedSimpArgs false
set_option maxRecDepth 100000
set_option maxHeartbeats 8000000
attribute [local congr] fin_congr finG_congr stepG_congr step1_congr runOps_congr brv_congr obl_congr condK_congr LoopK_congr seqK_congr CutK_congr vc_congr DrawK_congr regK_congr CallK_congr AskK_congr newK_congr retC_congr ret1_congr retK_congr outV_congr closeK_congr genR_congr appR_congr finD_congr finGD_congr stepGD_congr stepD_congr CallK0_congr runD_congr okR_congr CallS_congr vcX_congr
attribute [local congr] Stop_congr
section
variable {M : Mem} {K : AV → Hp → Mem → Prop} {u v : Value} {L : List IR} {o : List Int}
end
end Go.Proofs.Ytjapnklocibgaaa.Sx
namespace Go.Proofs.Ytjapnklocibgaaa.Sx
open Go
set_option maxRecDepth 100000
set_option linter.unusedVariables false
theorem exF_mul {x y : Nat} (h : (exF x y).1 = 0) : (exF x y).2.1 * y = x * (exF x y).2.2 := by
  unfold exF at h ⊢
  split at h
  · rename_i hc
    rw [if_pos hc]
    simp only
    rw [Nat.div_mul_right_comm (Nat.gcd_dvd_left x y), Nat.mul_div_assoc _ (Nat.gcd_dvd_right x y)]
  · simp at h
def lossG (w c : Int → Nat) : List Int → Nat → Nat
  | [], _ => 0
  | x :: r, e => w x * (e + c x) + lossG w c r (e + c x)
theorem lossG_swap (w c : Int → Nat) (x a : Int) (R : List Int) (e : Nat) (h : w a * c x ≤ w x * c a) : lossG w c (x :: a :: R) e ≤ lossG w c (a :: x :: R) e := by
  simp only [lossG]
  rw [show e + c x + c a = e + c a + c x by omega]
  simp only [Nat.mul_add]
  omega
theorem lossG_front (w c : Int → Nat) (x : Int) (B : List Int) : ∀ (A : List Int) (e : Nat), (∀ a ∈ A, w a * c x ≤ w x * c a) → lossG w c (x :: (A ++ B)) e ≤ lossG w c (A ++ x :: B) e
  | [], e, _ => Nat.le_refl _
  | a :: A, e, h => by
    refine Nat.le_trans (lossG_swap w c x a (A ++ B) e (h a List.mem_cons_self)) ?_
    have := lossG_front w c x B A (e + c a) fun b hb => h b (List.mem_cons_of_mem _ hb)
    simp only [lossG, List.cons_append] at this ⊢
    omega
theorem lossG_least (w c : Int → Nat) : ∀ (o p : List Int) (e : Nat), o.Pairwise (fun a b => w b * c a ≤ w a * c b) → p.Perm o → lossG w c o e ≤ lossG w c p e
  | [], p, e, _, hp => by rw [List.perm_nil.1 hp]; exact Nat.le_refl _
  | x :: o, p, e, ho, hp => by
    obtain ⟨A, B, rfl⟩ := List.append_of_mem (hp.symm.subset (List.mem_cons_self))
    have hp2 : (A ++ B).Perm o := (List.perm_middle.symm.trans hp).cons_inv
    obtain ⟨h1, h2⟩ := List.pairwise_cons.1 ho
    refine Nat.le_trans ?_ (lossG_front w c x B A e fun a ha => h1 a (hp2.subset (List.mem_append_left _ ha)))
    have := lossG_least w c o (A ++ B) (e + c x) h2 hp2
    simp only [lossG]
    omega
def denL : List IR → Nat
  | [] => 1
  | x :: r => valN x.l2 * denL r
theorem denL_dvd : ∀ {L : List IR} {x : IR}, x ∈ L → valN x.l2 ∣ denL L
  | y :: r, x, h => by
    rcases List.mem_cons.1 h with rfl | h
    · exact Nat.dvd_mul_right _ _
    · exact Nat.dvd_trans (denL_dvd h) (Nat.dvd_mul_left _ _)
theorem denL_pos : ∀ {L : List IR}, (∀ x ∈ L, 0 < valN x.l2) → 0 < denL L
  | [], _ => Nat.one_pos
  | y :: r, h => Nat.mul_pos (h y List.mem_cons_self) (denL_pos fun x hx => h x (List.mem_cons_of_mem _ hx))
def wA (L : List IR) (x : Int) : Nat := valN (itA L x.toNat).l1 * (denL L / valN (itA L x.toNat).l2)
def cA (L : List IR) (x : Int) : Nat := (costA L x).toNat
theorem wA_eq {L : List IR} {x : Int} (h0 : 0 ≤ x) (h1 : x < (L.length : Int)) : wA L x * valN (itA L x.toNat).l2 = valN (itA L x.toNat).l1 * denL L := by
  unfold wA
  rw [Nat.mul_assoc, Nat.div_mul_cancel]
  rw [itA_in (show x.toNat < L.length by omega)]
  exact denL_dvd (List.getElem_mem _)
theorem itA_chk {L : List IR} (hc : ∀ x ∈ L, chkI x = true) {x : Int} (h0 : 0 ≤ x) (h1 : x < (L.length : Int)) : chkI (itA L x.toNat) = true := by
  rw [itA_in (show x.toNat < L.length by omega)]
  exact hc _ (List.getElem_mem _)
theorem itA_ok {M : Mem} {L : List IR} (hL : okIL M L) {x : Int} (h0 : 0 ≤ x) (h1 : x < (L.length : Int)) : (itA L x.toNat).ok M := by
  rw [itA_in (show x.toNat < L.length by omega)]
  exact hL _ (List.getElem_mem _)
theorem chkL_pos {L : List IR} (hc : ∀ x ∈ L, chkI x = true) : 0 < denL L := denL_pos fun x hx => chkF_pos (chkI_parts (hc x hx)).1
theorem sum_alg {n d t1 t2 s1 s2 D S w n1 d1 E : Nat} (hd : 0 < d) (ht : 0 < t2) (h1 : 0 < d1) (a : s1 * (d * t2) = (n * t2 + t1 * d) * s2) (b : t1 * d1 = n1 * E * t2) (c : n * D = S * d) (e : w * d1 = n1 * D) : s1 * D = (S + w * E) * s2 := by
  refine Nat.eq_of_mul_eq_mul_right (Nat.mul_pos (Nat.mul_pos hd ht) h1) ?_
  calc s1 * D * (d * t2 * d1) = (s1 * (d * t2)) * (D * d1) := by ac_rfl
    _ = (n * t2 + t1 * d) * s2 * (D * d1) := by rw [a]
    _ = (n * D) * (t2 * s2 * d1) + (t1 * d1) * (d * s2 * D) := by grind
    _ = (S * d) * (t2 * s2 * d1) + (n1 * E * t2) * (d * s2 * D) := by rw [c, b]
    _ = (S * d) * (t2 * s2 * d1) + (n1 * D) * (E * t2 * d * s2) := by grind
    _ = (S * d) * (t2 * s2 * d1) + (w * d1) * (E * t2 * d * s2) := by rw [e]
    _ = _ := by grind
theorem losV_sum {M : Mem} {L : List IR} (hL : okIL M L) (hc : ∀ x ∈ L, chkI x = true) (o : List Int) : ∀ (e : Int) (i n d S : Nat), (∀ x ∈ o, 0 ≤ x ∧ x < (L.length : Int)) → i + o.length ≤ 64 → 0 ≤ e → e ≤ (i : Int) * 1048576 → SumOK bigB i n d → n * denL L = S * d →
    SumOK bigB (i + o.length) (losV L o e n d).1 (losV L o e n d).2 ∧ (losV L o e n d).1 * denL L = (S + lossG (wA L) (cA L) o e.toNat) * (losV L o e n d).2 := by
  induction o with
  | nil =>
    intro e i n d S _ _ _ _ hS h
    refine ⟨hS, ?_⟩
    show n * denL L = (S + 0) * d
    rw [Nat.add_zero]; exact h
  | cons x r ih =>
    intro e i n d S ho hi e0 e1 hS h
    obtain ⟨x0, x1⟩ := ho x List.mem_cons_self
    have hi2 : i + (r.length + 1) ≤ 64 := hi
    have hck := itA_chk hc x0 x1
    have hok := itA_ok hL x0 x1
    have hcb := costA_in hc x0 x1
    have hw := wA_eq x0 x1
    obtain ⟨q1, q2, l1, l2, y0, yg⟩ := chkI_val hok hck
    have hcA : cA L x = (costA L x).toNat := rfl
    have hE : (e + costA L x).toNat = e.toNat + cA L x := by rw [hcA]; omega
    have hE2 : (e + costA L x).toNat ≤ 67108864 := by omega
    rw [losV_cons]
    have hml := mul_len (valN (itA L x.toNat).l1) (e + costA L x).toNat
    have hy1 : (ofN (valN (itA L x.toNat).l1)).length ≤ 1 := ofN_len_le (by rw [show wN 1 = 4294967296 from rfl]; exact l1)
    have hy2 : (ofN (valN (itA L x.toNat).l2)).length ≤ 1 := ofN_len_le (by rw [show wN 1 = 4294967296 from rfl]; exact l2)
    have hEl : (ofN (e + costA L x).toNat).length ≤ 1 := ofN_len_le (by rw [show wN 1 = 4294967296 from rfl]; omega)
    obtain ⟨t0, t1, t2, t3, _⟩ := exF_small (x := valN (itA L x.toNat).l1 * (e + costA L x).toNat) (y := valN (itA L x.toNat).l2) y0 (by omega) (by omega)
    have t4 := exF_mul t0
    have hXB : valN (itA L x.toNat).l1 * (e + costA L x).toNat ≤ bigB := Nat.le_trans (Nat.mul_le_mul (Nat.le_of_lt l1) hE2) (by decide)
    obtain ⟨t, ht⟩ : ∃ t, t = exF (valN (itA L x.toNat).l1 * (e + costA L x).toNat) (valN (itA L x.toNat).l2) := ⟨_, rfl⟩
    rw [← ht] at t0 t1 t2 t3 t4 ⊢
    clear ht
    obtain ⟨tt, u1, u2⟩ := t
    simp only at t0 t1 t2 t3 t4 ⊢
    obtain ⟨s1, s2⟩ := hS.add (n' := u1) (d' := u2) (by omega) bigB_fits (Nat.le_trans t1 hXB) t3 (by omega)
    have s3 := exF_mul s1
    obtain ⟨s, hs⟩ : ∃ s, s = exF (n * u2 + u1 * d) (d * u2) := ⟨_, rfl⟩
    rw [← hs] at s1 s2 s3 ⊢
    clear hs
    obtain ⟨ss, v1, v2⟩ := s
    simp only at s1 s2 s3 ⊢
    have key := sum_alg hS.pos t3 y0 s3 t4 h hw
    obtain ⟨r1, r2⟩ := ih (e + costA L x) (i + 1) v1 v2 (S + wA L x * (e + costA L x).toNat) (fun y hy => ho y (List.mem_cons_of_mem _ hy)) (by omega) (by omega) (by omega) s2 key
    refine ⟨by rw [List.length_cons, show i + (r.length + 1) = i + 1 + r.length by omega]; exact r1, ?_⟩
    rw [r2]
    simp only [lossG]
    rw [hE, Nat.add_assoc]
theorem cmp_sums {D S T n d m k : Nat} (hD : 0 < D) (h1 : n * D = S * d) (h2 : m * D = T * k) (h : S ≤ T) : n * k ≤ m * d := by
  refine Nat.le_of_mul_le_mul_right (c := D) ?_ hD
  calc n * k * D = (n * D) * k := by ac_rfl
    _ = S * d * k := by rw [h1]
    _ ≤ T * d * k := Nat.mul_le_mul_right _ (Nat.mul_le_mul_right _ h)
    _ = (T * k) * d := by ac_rfl
    _ = (m * D) * d := by rw [h2]
    _ = m * d * D := by ac_rfl
theorem losP_sum {M : Mem} {L : List IR} {o : List Int} (hL : okIL M L) (h : errO L o = 0) : SumOK bigB o.length (losP L o).1 (losP L o).2 ∧ (losP L o).1 * denL L = lossG (wA L) (cA L) o 0 * (losP L o).2 := by
  obtain ⟨hc, h64, hol, hin⟩ := errO_zero h
  unfold losP
  rw [if_pos h]
  have := losV_sum hL hc o 0 0 0 1 0 hin (by omega) (by omega) (by omega) (SumOK.zero _) (by simp)
  rw [Nat.zero_add, Nat.zero_add] at this
  exact this
theorem losP_chk {M : Mem} {L : List IR} {o : List Int} (hL : okIL M L) (h : errO L o = 0) : chkF (ofN (losP L o).1) (ofN (losP L o).2) = true := by
  obtain ⟨hc, h64, hol, hin⟩ := errO_zero h
  exact (losP_sum hL h).1.chk (by omega) bigB_fits
theorem losP_len {M : Mem} {L : List IR} {o : List Int} (hL : okIL M L) (h : errO L o = 0) : (ofN (losP L o).1).length ≤ 128 ∧ (ofN (losP L o).2).length ≤ 128 := by
  obtain ⟨hc, h64, hol, hin⟩ := errO_zero h
  exact (losP_sum hL h).1.len (by omega) bigB_fits
def toI (Z : List Nat) : List Int := Z.map fun (x : Nat) => (x : Int)
theorem ordS_err {L : List IR} {Z : List Nat} (hc : chkIL L = true) (h : ordS L Z) : errO L (toI Z) = 0 := by
  unfold ordS at h
  rw [if_pos hc] at h
  unfold errO
  rw [if_pos hc, if_pos (show permB L.length (toI Z) = true from permB_iff.2 (h.1.map _))]
theorem rat_le {L : List IR} (hc : ∀ x ∈ L, chkI x = true) {x y : Nat} (hx : x < L.length) (hy : y < L.length) (h : ratC L x y ≤ 0) : wA L (y : Int) * cA L (x : Int) ≤ wA L (x : Int) * cA L (y : Int) := by
  have h1 : cmpN (valN (itA L y).l1 * ((itA L x).cost.toNat * valN (itA L x).l2)) (valN (itA L x).l1 * ((itA L y).cost.toNat * valN (itA L y).l2)) ≤ 0 := by
    unfold ratC or3 at h
    split at h
    · omega
    · exact h
  rw [cmpN_le0] at h1
  have w1 := wA_eq (L := L) (x := (x : Int)) (by omega) (by omega)
  have w2 := wA_eq (L := L) (x := (y : Int)) (by omega) (by omega)
  rw [Int.toNat_natCast] at w1 w2
  have p1 : 0 < valN (itA L x).l2 := by
    rw [itA_in hx]; exact chkF_pos (chkI_parts (hc _ (List.getElem_mem hx))).1
  have p2 : 0 < valN (itA L y).l2 := by
    rw [itA_in hy]; exact chkF_pos (chkI_parts (hc _ (List.getElem_mem hy))).1
  have c1 : cA L (x : Int) = (itA L x).cost.toNat := rfl
  have c2 : cA L (y : Int) = (itA L y).cost.toNat := rfl
  rw [c1, c2]
  generalize wA L (x : Int) = wx at *
  generalize wA L (y : Int) = wy at *
  generalize (itA L x).cost.toNat = cx at *
  generalize (itA L y).cost.toNat = cy at *
  generalize valN (itA L x).l1 = nx at *
  generalize valN (itA L y).l1 = ny at *
  generalize valN (itA L x).l2 = dx at *
  generalize valN (itA L y).l2 = dy at *
  refine Nat.le_of_mul_le_mul_right (c := dx * dy) ?_ (Nat.mul_pos p1 p2)
  calc wy * cx * (dx * dy) = (wy * dy) * (cx * dx) := by ac_rfl
    _ = ny * denL L * (cx * dx) := by rw [w2]
    _ = (ny * (cx * dx)) * denL L := by ac_rfl
    _ ≤ (nx * (cy * dy)) * denL L := Nat.mul_le_mul_right _ h1
    _ = (nx * denL L) * (cy * dy) := by ac_rfl
    _ = wx * dx * (cy * dy) := by rw [w1]
    _ = wx * cy * (dx * dy) := by ac_rfl
theorem los_least {M : Mem} {L : List IR} {Z : List Nat} {p : List Int} (hL : okIL M L) (hc : chkIL L = true) (h : ordS L Z) (hp : errO L p = 0) : cmpF (ofN (losP L (toI Z)).1) (ofN (losP L (toI Z)).2) (ofN (losP L p).1) (ofN (losP L p).2) ≤ 0 := by
  have hz := ordS_err hc h
  obtain ⟨hcc, h64, hol, hin⟩ := errO_zero hp
  rw [cmpF_of (losP_chk hL hz) (losP_chk hL hp), cmpN_le0]
  refine cmp_sums (chkL_pos hcc) (losP_sum hL hz).2 (losP_sum hL hp).2 ?_
  have h2 := h
  unfold ordS at h2
  rw [if_pos hc] at h2
  refine lossG_least _ _ _ _ 0 ?_ ?_
  · unfold toI
    rw [List.pairwise_map]
    refine h2.2.imp_of_mem fun {x y} hx hy hxy => ?_
    have hx := List.mem_range.1 (h2.1.subset hx)
    have hy := List.mem_range.1 (h2.1.subset hy)
    refine rat_le hcc hx hy ?_
    rcases hxy with h | ⟨h, _⟩ <;> omega
  · have hp2 : p.Perm (placesI L.length) := by
      unfold errO at hp
      rw [if_pos hc] at hp
      split at hp
      · rename_i hb; exact permB_iff.1 hb
      · simp at hp
    exact hp2.trans (h2.1.map _).symm
end Go.Proofs.Ytjapnklocibgaaa.Sx
namespace Go.Proofs.Ytjapnklocibgaaa.Sx
open Go Go.RowKit
set_option linter.unusedVariables false
set_option linter.unusedSimpArgs false
set_option maxRecDepth 100000
set_option maxHeartbeats 8000000
attribute [local congr] fin_congr finG_congr stepG_congr step1_congr runOps_congr brv_congr obl_congr condK_congr LoopK_congr seqK_congr CutK_congr vc_congr DrawK_congr regK_congr CallK_congr AskK_congr newK_congr retC_congr ret1_congr retK_congr outV_congr closeK_congr genR_congr appR_congr finD_congr finGD_congr stepGD_congr stepD_congr CallK0_congr runD_congr okR_congr CallS_congr vcX_congr
attribute [local congr] Stop_congr
theorem chkIL_of {M : Mem} {L : List IR} (h : ∀ x ∈ L, ItOK M x) (hl : L.length ≤ 64) : chkIL L = true := by
  unfold chkIL
  rw [Bool.and_eq_true, decide_eq_true_eq, List.all_eq_true]
  exact ⟨hl, fun x hx => (h x hx).chk⟩
theorem ordE_of {L : List IR} (h : chkIL L = true) : ordE L = 0 := by unfold ordE; rw [if_pos h]
theorem toI_len (Z : List Nat) : (toI Z).length = Z.length := by unfold toI; rw [List.length_map]
theorem ordS_len {L : List IR} {Z : List Nat} (hc : chkIL L = true) (h : ordS L Z) : Z.length = L.length := by
  unfold ordS at h
  rw [if_pos hc] at h
  rw [h.1.length_eq, List.length_range]
section
variable {M : Mem} {K : AV → Hp → Mem → Prop}
end
end Go.Proofs.Ytjapnklocibgaaa.Sx
namespace Go.Proofs.Ytjapnklocibgaaa.Sx
open Go Go.RowKit
set_option linter.unusedVariables false
set_option linter.unusedSimpArgs false
set_option maxRecDepth 100000
set_option maxHeartbeats 8000000
attribute [local congr] fin_congr finG_congr stepG_congr step1_congr runOps_congr brv_congr obl_congr condK_congr LoopK_congr seqK_congr CutK_congr vc_congr DrawK_congr regK_congr CallK_congr AskK_congr newK_congr retC_congr ret1_congr retK_congr outV_congr closeK_congr genR_congr appR_congr finD_congr finGD_congr stepGD_congr stepD_congr CallK0_congr runD_congr okR_congr CallS_congr vcX_congr
attribute [local congr] Stop_congr
section
variable {M : Mem} {K : AV → Hp → Mem → Prop} {u v : Value} {L : List IR} {o : List Int}
def hiSt (M : Mem) (u : Value) (x : Int) (i : Nat) : St := { env := [(5, .ext (.int .i64 (i : Int))), (1, .ext (.int .i64 x)), (0, .ext u)], hp := [], M := M, kb := 0, fx := [] }
theorem hasInt_ok (u : Value) (l : List Int) (x : Int) (hu : IsL M intV64 u l) (hb : l.length < 1000000000) (hK : K (.ext (.bool (l.contains x))) [] M) : CallS Try.prog 46 [.ext u, .ext (.int .i64 x)] [] M [] K := by
  refine inlS (cs := []) Try.mixed Try.func46 rfl (by kernel_rfl) 0 rfl rfl ?_
  simp only [Try.f46]
  refine Go1.mk ?_; repeat' ((first | (with_reducible refine Go1.go ?_) | (refine And.intro ?ob ?_; case ob => ((try simp only [sxO] at *); omega)) | fail) <;> (try simp (maxSteps := 1000000) only [hu.one, hu.len, hu.sl, ↓hold_pre, awayP, runOps, regK, step1, newK, genR, appR, obl, buildR, Value.cells, closeK, keepH, outV, retK, ret1, retC, RetV, Option.getD, runD, stepD, afterK, undef, simprocAttr, sxB, ↓sxD, sxE, sxTab]))
  refine ⟨fun m z => ∃ i, i ≤ l.length ∧ (∀ y ∈ l.take i, y ≠ x) ∧ m = l.length - i ∧ z = hiSt M u x i, ⟨l.length, hiSt M u x 0, le_sub ⟨rfl, rfl, rfl, trivial⟩ trivial rfl rfl rfl (keepLt0 _), ⟨0, by omega, by simp, rfl, rfl⟩⟩, ?_⟩
  rintro m z ⟨i, hi, hno, rfl, rfl⟩
  by_cases hlt : i < l.length
  case neg =>
    have f1 := hu.fin hlt
    obtain rfl : i = l.length := by omega
    have e : l.contains x = false := by
      rw [List.take_length] at hno
      cases h : l.contains x with
      | false => rfl
      | true => exact absurd rfl (hno x (by simpa using h))
    rw [e] at hK
    refine Go1.mk ?_; repeat' ((first | (with_reducible refine Go1.go ?_) | (refine And.intro ?ob ?_; case ob => ((try simp only [sxO] at *); omega)) | fail) <;> (try simp (maxSteps := 1000000) only [hiSt, f1, ↓hold_pre, awayP, runOps, regK, step1, newK, genR, appR, obl, buildR, Value.cells, closeK, keepH, outV, retK, ret1, retC, RetV, Option.getD, runD, stepD, afterK, undef, simprocAttr, sxB, ↓sxD, sxE, sxTab]))
    exact hK
  have f1 := hu.idx (P := Try.prog) (T := 3) tk3 tz3 (by omega) hlt
  have htk : l.take (i + 1) = l.take i ++ [l[i]] := by rw [List.take_add_one, List.getElem?_eq_getElem hlt]; rfl
  by_cases hx : l[i] = x
  · have d1 : decide (l[i] = x) = true := decide_eq_true hx
    have e : l.contains x = true := by rw [List.contains_iff_mem]; exact hx ▸ List.getElem_mem hlt
    rw [e] at hK
    refine Go1.mk ?_; repeat' ((first | (with_reducible refine Go1.go ?_) | (refine And.intro ?ob ?_; case ob => ((try simp only [sxO] at *); omega)) | fail) <;> (try simp (maxSteps := 1000000) only [hiSt, f1, intV64, d1, ↓hold_pre, awayP, runOps, regK, step1, newK, genR, appR, obl, buildR, Value.cells, closeK, keepH, outV, retK, ret1, retC, RetV, Option.getD, runD, stepD, afterK, undef, simprocAttr, sxB, ↓sxD, sxE, sxTab]))
    exact hK
  · have d1 : decide (l[i] = x) = false := decide_eq_false hx
    refine Go1.mk ?_; repeat' ((first | (with_reducible refine Go1.go ?_) | (refine And.intro ?ob ?_; case ob => ((try simp only [sxO] at *); omega)) | fail) <;> (try simp (maxSteps := 1000000) only [hiSt, f1, intV64, d1, ↓hold_pre, awayP, runOps, regK, step1, newK, genR, appR, obl, buildR, Value.cells, closeK, keepH, outV, retK, ret1, retC, RetV, Option.getD, runD, stepD, afterK, undef, simprocAttr, sxB, ↓sxD, sxE, sxTab]))
    refine ⟨l.length - (i + 1), hiSt M u x (i + 1), by omega, le_sub ⟨rfl, rfl, rfl, trivial⟩ trivial rfl rfl rfl (keepLt0 _), i + 1, by omega, ?_, rfl, rfl⟩
    rw [htk]
    intro y hy
    rcases List.mem_append.1 hy with hy | hy
    · exact hno y hy
    · rw [List.mem_singleton.1 hy]; exact hx
end
end Go.Proofs.Ytjapnklocibgaaa.Sx
namespace Go.Proofs.Ytjapnklocibgaaa.Sx
open Go Go.RowKit
set_option linter.unusedVariables false
set_option linter.unusedSimpArgs false
set_option maxRecDepth 100000
set_option maxHeartbeats 8000000
attribute [local congr] fin_congr finG_congr stepG_congr step1_congr runOps_congr brv_congr obl_congr condK_congr LoopK_congr seqK_congr CutK_congr vc_congr DrawK_congr regK_congr CallK_congr AskK_congr newK_congr retC_congr ret1_congr retK_congr outV_congr closeK_congr genR_congr appR_congr finD_congr finGD_congr stepGD_congr stepD_congr CallK0_congr runD_congr okR_congr CallS_congr vcX_congr
attribute [local congr] Stop_congr
section
variable {M : Mem} {K : AV → Hp → Mem → Prop}
theorem oloss_borI {k n : Nat} {T : TypeId} {L : List IR} {v : Value} {o : List Int} (hn : n = o.length) (hv : IsR M 5 IR.c v L) (hL : okIL M L) (hb : L.length < 1000000) (hb2 : o.length < 1000000) (hK : ∀ w1 w2 M', Mem.le M M' → IsL M' u32V w1 (ofN (losP L o).1) → IsL M' u32V w2 (ofN (losP L o).2) → K (.ext (.tuple #[.agg #[w1, w2], .int .i64 (errO L o)])) [(k, T, cE intV64 o)] M') :
    CallS Try.prog 12 [.ext v, .slo k 0 n 1] [(k, T, cE intV64 o)] M [] K := by
  refine CallS.bor ⟨⟨_, rfl⟩, trivial⟩ fun us M' hM hb' => ?_
  obtain ⟨_, _, rfl, rfl, v2, _, rfl, h2, rfl⟩ := hb'
  refine oloss_ok (hv.le hM) (hL.le hM) hb (h2.isL (T := T) (by simp [lkH]) hn) hb2 fun w1 w2 M2 a1 a2 a3 a4 a5 => ?_
  exact ⟨fun j hj => rfl, fun M3 h5 h6 _ => hK w1 w2 M3 h5 (a2.move a4 h6) (a3.move a5 h6)⟩
theorem hasInt_bor {k n : Nat} {T : TypeId} {o : List Int} {x : Int} (hn : n = o.length) (hb : o.length < 1000000000) (hK : K (.ext (.bool (o.contains x))) [(k, T, cE intV64 o)] M) :
    CallS Try.prog 46 [.slo k 0 n 1, .ext (.int .i64 x)] [(k, T, cE intV64 o)] M [] K := by
  refine CallS.bor ⟨⟨_, rfl⟩, trivial⟩ fun us M' hM hb' => ?_
  obtain ⟨v1, _, rfl, h1, _, _, rfl, rfl, rfl⟩ := hb'
  exact hasInt_ok v1 o x (h1.isL (T := T) (by simp [lkH]) hn) hb (BorK.same hK)
theorem errO_nd {L : List IR} {o : List Int} (hc : chkIL L = true) (hl : o.length = L.length) (hn : o.Nodup) (hi : ∀ x ∈ o, 0 ≤ x ∧ x < (L.length : Int)) : errO L o = 0 := by
  unfold errO
  rw [if_pos hc, if_pos (permB_of hn hi hl)]
structure AllK (M : Mem) (v w1 w2 : Value) (L : List IR) (Z : List Nat) (o : List Int) (n : Nat) : Prop where
  hv : IsR M 5 IR.c v L
  ok : okIL M L
  chk : chkIL L = true
  ord : ordS L Z
  x1 : IsL M u32V w1 (ofN (losP L (toI Z)).1)
  x2 : IsL M u32V w2 (ofN (losP L (toI Z)).2)
  len : o.length = n
  nd : o.Nodup
  rng : ∀ x ∈ o, 0 ≤ x ∧ x < (L.length : Int)
  fit : L.length ≤ 5
theorem AllK.le {M M' : Mem} {v w1 w2 : Value} {L : List IR} {Z : List Nat} {o : List Int} {n : Nat} (h : AllK M v w1 w2 L Z o n) (hM : Mem.le M M') : AllK M' v w1 w2 L Z o n := ⟨h.hv.le hM, h.ok.le hM, h.chk, h.ord, h.x1.le hM, h.x2.le hM, h.len, h.nd, h.rng, h.fit⟩
theorem AllK.next {M : Mem} {v w1 w2 : Value} {L : List IR} {Z : List Nat} {o : List Int} {n i : Nat} (h : AllK M v w1 w2 L Z o n) (hi : i < L.length) (hc : o.contains (i : Int) = false) : AllK M v w1 w2 L Z (o ++ [(i : Int)]) (n + 1) := by
  refine ⟨h.hv, h.ok, h.chk, h.ord, h.x1, h.x2, by rw [List.length_append, h.len]; rfl, ?_, fun x hx => ?_, h.fit⟩
  · refine List.nodup_append.2 ⟨h.nd, by simp, fun a ha b hb e => ?_⟩
    have hb := List.mem_singleton.1 hb
    subst e hb
    rw [List.contains_iff_mem.2 ha] at hc
    cases hc
  · rcases List.mem_append.1 hx with hx | hx
    · exact h.rng x hx
    · rw [List.mem_singleton.1 hx]; omega
theorem AllK.lt {M : Mem} {v w1 w2 : Value} {L : List IR} {Z : List Nat} {o : List Int} {n : Nat} (h : AllK M v w1 w2 L Z o n) : n ≤ L.length := by
  have h1 := h.len
  have h2 : o.length ≤ (placesI L.length).length := (nodup_part h.nd (o := placesI L.length) fun x hx => mem_placesI.2 (h.rng x hx)).elim fun r hr => by
    have := hr.length_eq
    rw [List.length_append] at this; omega
  rw [placesI_len] at h2; omega
theorem fall5_ok {o : List Int} {v w1 w2 : Value} {L : List IR} {Z : List Nat} (hA : AllK M v w1 w2 L Z o 5) (hl : L.length = 5) (hK : ∀ M', Mem.le M M' → K (.ext (.bool true)) [(5027, 3, cE intV64 o), (28, 34, [.ext w1, .ext w2]), (25, 26, [.ext v])] M') :
    CallS Try.prog 17 [.slo 5027 0 5 1, .own 25 0, .own 28 0] [(5027, 3, cE intV64 o), (28, 34, [.ext w1, .ext w2]), (25, 26, [.ext v])] M [] K := by
  refine inlS (cs := []) Try.mixed Try.func17 rfl (by kernel_rfl) 10000 rfl rfl ?_
  simp only [Try.f17]
  have hb := hA.len
  have hv1 := hA.hv.one
  have hx1 := hA.x1.one
  have hx2 := hA.x2.one
  have hE := errO_nd hA.chk (by rw [hA.len, hl]) hA.nd hA.rng
  refine Go1.mk ?_; repeat' ((first | (with_reducible refine Go1.go ?_) | ((with_reducible refine isCall (f := 12) ?_); refine callA ?_) | ((with_reducible refine isCallS (f := 12) ?_); refine (oloss_borI hA.len.symm hA.hv hA.ok (by omega) (by omega) (fun y1 y2 M1 c1 e1 e2 => Stop.mk ?_))) | (refine And.intro ?ob ?_; case ob => ((try simp only [sxO] at *); omega)) | fail) <;> (try simp (maxSteps := 1000000) only [hv1, hx1, hx2, cE_ment, cE_kill, hasK_nil, cE_len, Nat.mul_one, Nat.zero_add, ↓hold_pre, awayP, runOps, regK, step1, newK, genR, appR, obl, buildR, Value.cells, closeK, keepH, outV, retK, ret1, retC, RetV, Option.getD, runD, stepD, afterK, undef, simprocAttr, sxB, ↓sxD, sxE, sxTab]))
  have c1 : Mem.le M M1 := c1
  have hB := hA.le c1
  have x1 := hB.x1
  have x2 := hB.x2
  have hcmp := los_least hB.ok hA.chk hA.ord hE
  have hEz := ordS_err hA.chk hA.ord
  obtain ⟨z1, z2⟩ := losP_len hB.ok hEz
  obtain ⟨g1, g2⟩ := losP_len hB.ok hE
  have e1 : IsL M1 u32V y1 (ofN (losP L o).1) := e1
  have e2 : IsL M1 u32V y2 (ofN (losP L o).2) := e2
  have k3 := decide_eq_true hcmp
  refine Stop.go ?_
  refine Go1.mk ?_; repeat' ((first | (with_reducible refine Go1.go ?_) | (((with_reducible refine isCall (f := 14) ?_); refine callA_nil (by kernel_rfl) ?_; refine (fcmp_ok ⟨x1, x2, okN_ofN _, okN_ofN _, by omega, by omega⟩ ⟨e1, e2, okN_ofN _, okN_ofN _, by omega, by omega⟩ (fun M2 c2 => Stop.mk ?_)))) | (refine And.intro ?ob ?_; case ob => ((try simp only [sxO] at *); omega)) | fail) <;> (try simp (maxSteps := 1000000) only [hE, x1.one, x2.one, e1.one, e2.one, cE_ment, cE_kill, hasK_nil, cE_len, Nat.mul_one, Nat.zero_add, ↓hold_pre, awayP, runOps, regK, step1, newK, genR, appR, obl, buildR, Value.cells, closeK, keepH, outV, retK, ret1, retC, RetV, Option.getD, runD, stepD, afterK, undef, simprocAttr, sxB, ↓sxD, sxE, sxTab]))
  have hk := hK M2 (c1.trans c2)
  refine Stop.go ?_
  refine Go1.mk ?_; repeat' ((first | (with_reducible refine Go1.go ?_) | (refine And.intro ?ob ?_; case ob => ((try simp only [sxO] at *); omega)) | fail) <;> (try simp (maxSteps := 1000000) only [k3, cE_ment, cE_kill, hasK_nil, cE_len, Nat.mul_one, Nat.zero_add, ↓hold_pre, awayP, runOps, regK, step1, newK, genR, appR, obl, buildR, Value.cells, closeK, keepH, outV, retK, ret1, retC, RetV, Option.getD, runD, stepD, afterK, undef, simprocAttr, sxB, ↓sxD, sxE, sxTab]))
  exact hk
theorem all5_ok {o : List Int} {v w1 w2 : Value} {L : List IR} {Z : List Nat} (hA : AllK M v w1 w2 L Z o 5) (hK : ∀ M', Mem.le M M' → K (.ext (.bool true)) [(5027, 3, cE intV64 o), (28, 34, [.ext w1, .ext w2]), (25, 26, [.ext v])] M') :
    CallS Try.prog 16 [.ext (.int .i64 (L.length : Int)), .slo 5027 0 5 1, .fn 17 [.own 25 0, .own 28 0]] [(5027, 3, cE intV64 o), (28, 34, [.ext w1, .ext w2]), (25, 26, [.ext v])] M [] K := by
  refine inlS (cs := []) Try.mixed Try.func16 rfl (by kernel_rfl) 6000 rfl rfl ?_
  simp only [Try.f16]
  have h5 := hA.fit
  have hlt := hA.lt
  have hlo := hA.len
  have hv1 := hA.hv.one
  have hx1 := hA.x1.one
  have hx2 := hA.x2.one
  by_cases hl : L.length = 5
  · have d1 : decide ((5 : Int) = (L.length : Int)) = true := by rw [decide_eq_true_eq]; omega
    have d2 : decide (((5 : Nat) : Int) = (L.length : Int)) = true := by rw [decide_eq_true_eq]; omega
    refine Go1.mk ?_; repeat' ((first | (with_reducible refine Go1.go ?_) | ((with_reducible refine isCall (f := 17) ?_); refine callA ?_) | ((with_reducible refine isCallS (f := 17) ?_); refine (fall5_ok hA hl (fun M1 c1 => Stop.mk ?_))) | (refine And.intro ?ob ?_; case ob => ((try simp only [sxO] at *); omega)) | fail) <;> (try simp (maxSteps := 1000000) only [d1, d2, hv1, hx1, hx2, cE_ment, cE_kill, hasK_nil, cE_len, Nat.mul_one, Nat.zero_add, ↓hold_pre, awayP, runOps, regK, step1, newK, genR, appR, obl, buildR, Value.cells, closeK, keepH, outV, retK, ret1, retC, RetV, Option.getD, runD, stepD, afterK, undef, simprocAttr, sxB, ↓sxD, sxE, sxTab]))
    have hk := hK M1 c1
    refine Stop.go ?_
    refine Go1.mk ?_; repeat' ((first | (with_reducible refine Go1.go ?_) | (refine And.intro ?ob ?_; case ob => ((try simp only [sxO] at *); omega)) | fail) <;> (try simp (maxSteps := 1000000) only [hv1, hx1, hx2, cE_ment, cE_kill, hasK_nil, cE_len, Nat.mul_one, Nat.zero_add, ↓hold_pre, awayP, runOps, regK, step1, newK, genR, appR, obl, buildR, Value.cells, closeK, keepH, outV, retK, ret1, retC, RetV, Option.getD, runD, stepD, afterK, undef, simprocAttr, sxB, ↓sxD, sxE, sxTab]))
    exact hk
  · omega
theorem fall4_ok {o : List Int} {v w1 w2 : Value} {L : List IR} {Z : List Nat} (hA : AllK M v w1 w2 L Z o 4) (hl : L.length = 4) (hK : ∀ M', Mem.le M M' → K (.ext (.bool true)) [(4027, 3, cE intV64 o), (28, 34, [.ext w1, .ext w2]), (25, 26, [.ext v])] M') :
    CallS Try.prog 17 [.slo 4027 0 4 1, .own 25 0, .own 28 0] [(4027, 3, cE intV64 o), (28, 34, [.ext w1, .ext w2]), (25, 26, [.ext v])] M [] K := by
  refine inlS (cs := []) Try.mixed Try.func17 rfl (by kernel_rfl) 10000 rfl rfl ?_
  simp only [Try.f17]
  have hb := hA.len
  have hv1 := hA.hv.one
  have hx1 := hA.x1.one
  have hx2 := hA.x2.one
  have hE := errO_nd hA.chk (by rw [hA.len, hl]) hA.nd hA.rng
  refine Go1.mk ?_; repeat' ((first | (with_reducible refine Go1.go ?_) | ((with_reducible refine isCall (f := 12) ?_); refine callA ?_) | ((with_reducible refine isCallS (f := 12) ?_); refine (oloss_borI hA.len.symm hA.hv hA.ok (by omega) (by omega) (fun y1 y2 M1 c1 e1 e2 => Stop.mk ?_))) | (refine And.intro ?ob ?_; case ob => ((try simp only [sxO] at *); omega)) | fail) <;> (try simp (maxSteps := 1000000) only [hv1, hx1, hx2, cE_ment, cE_kill, hasK_nil, cE_len, Nat.mul_one, Nat.zero_add, ↓hold_pre, awayP, runOps, regK, step1, newK, genR, appR, obl, buildR, Value.cells, closeK, keepH, outV, retK, ret1, retC, RetV, Option.getD, runD, stepD, afterK, undef, simprocAttr, sxB, ↓sxD, sxE, sxTab]))
  have c1 : Mem.le M M1 := c1
  have hB := hA.le c1
  have x1 := hB.x1
  have x2 := hB.x2
  have hcmp := los_least hB.ok hA.chk hA.ord hE
  have hEz := ordS_err hA.chk hA.ord
  obtain ⟨z1, z2⟩ := losP_len hB.ok hEz
  obtain ⟨g1, g2⟩ := losP_len hB.ok hE
  have e1 : IsL M1 u32V y1 (ofN (losP L o).1) := e1
  have e2 : IsL M1 u32V y2 (ofN (losP L o).2) := e2
  have k3 := decide_eq_true hcmp
  refine Stop.go ?_
  refine Go1.mk ?_; repeat' ((first | (with_reducible refine Go1.go ?_) | (((with_reducible refine isCall (f := 14) ?_); refine callA_nil (by kernel_rfl) ?_; refine (fcmp_ok ⟨x1, x2, okN_ofN _, okN_ofN _, by omega, by omega⟩ ⟨e1, e2, okN_ofN _, okN_ofN _, by omega, by omega⟩ (fun M2 c2 => Stop.mk ?_)))) | (refine And.intro ?ob ?_; case ob => ((try simp only [sxO] at *); omega)) | fail) <;> (try simp (maxSteps := 1000000) only [hE, x1.one, x2.one, e1.one, e2.one, cE_ment, cE_kill, hasK_nil, cE_len, Nat.mul_one, Nat.zero_add, ↓hold_pre, awayP, runOps, regK, step1, newK, genR, appR, obl, buildR, Value.cells, closeK, keepH, outV, retK, ret1, retC, RetV, Option.getD, runD, stepD, afterK, undef, simprocAttr, sxB, ↓sxD, sxE, sxTab]))
  have hk := hK M2 (c1.trans c2)
  refine Stop.go ?_
  refine Go1.mk ?_; repeat' ((first | (with_reducible refine Go1.go ?_) | (refine And.intro ?ob ?_; case ob => ((try simp only [sxO] at *); omega)) | fail) <;> (try simp (maxSteps := 1000000) only [k3, cE_ment, cE_kill, hasK_nil, cE_len, Nat.mul_one, Nat.zero_add, ↓hold_pre, awayP, runOps, regK, step1, newK, genR, appR, obl, buildR, Value.cells, closeK, keepH, outV, retK, ret1, retC, RetV, Option.getD, runD, stepD, afterK, undef, simprocAttr, sxB, ↓sxD, sxE, sxTab]))
  exact hk
def alSt4 (M : Mem) (v w1 w2 : Value) (N : Nat) (o : List Int) (i : Nat) : St := { env := [(7, .ext (.int .i64 (i : Int))), (2, .fn 17 [.own 25 0, .own 28 0]), (1, .slo 4027 0 4 1), (0, .ext (.int .i64 (N : Int)))], hp := [(4027, 3, cE intV64 o), (28, 34, [.ext w1, .ext w2]), (25, 26, [.ext v])], M := M, kb := 5000, fx := [4027, 28, 25] }
theorem all4_ok {o : List Int} {v w1 w2 : Value} {L : List IR} {Z : List Nat} (hA : AllK M v w1 w2 L Z o 4) (hK : ∀ M', Mem.le M M' → K (.ext (.bool true)) [(4027, 3, cE intV64 o), (28, 34, [.ext w1, .ext w2]), (25, 26, [.ext v])] M') :
    CallS Try.prog 16 [.ext (.int .i64 (L.length : Int)), .slo 4027 0 4 1, .fn 17 [.own 25 0, .own 28 0]] [(4027, 3, cE intV64 o), (28, 34, [.ext w1, .ext w2]), (25, 26, [.ext v])] M [] K := by
  refine inlS (cs := []) Try.mixed Try.func16 rfl (by kernel_rfl) 5000 rfl rfl ?_
  simp only [Try.f16]
  have h5 := hA.fit
  have hlt := hA.lt
  have hlo := hA.len
  have hv1 := hA.hv.one
  have hx1 := hA.x1.one
  have hx2 := hA.x2.one
  by_cases hl : L.length = 4
  · have d1 : decide ((4 : Int) = (L.length : Int)) = true := by rw [decide_eq_true_eq]; omega
    have d2 : decide (((4 : Nat) : Int) = (L.length : Int)) = true := by rw [decide_eq_true_eq]; omega
    refine Go1.mk ?_; repeat' ((first | (with_reducible refine Go1.go ?_) | ((with_reducible refine isCall (f := 17) ?_); refine callA ?_) | ((with_reducible refine isCallS (f := 17) ?_); refine (fall4_ok hA hl (fun M1 c1 => Stop.mk ?_))) | (refine And.intro ?ob ?_; case ob => ((try simp only [sxO] at *); omega)) | fail) <;> (try simp (maxSteps := 1000000) only [d1, d2, hv1, hx1, hx2, cE_ment, cE_kill, hasK_nil, cE_len, Nat.mul_one, Nat.zero_add, ↓hold_pre, awayP, runOps, regK, step1, newK, genR, appR, obl, buildR, Value.cells, closeK, keepH, outV, retK, ret1, retC, RetV, Option.getD, runD, stepD, afterK, undef, simprocAttr, sxB, ↓sxD, sxE, sxTab]))
    have hk := hK M1 c1
    refine Stop.go ?_
    refine Go1.mk ?_; repeat' ((first | (with_reducible refine Go1.go ?_) | (refine And.intro ?ob ?_; case ob => ((try simp only [sxO] at *); omega)) | fail) <;> (try simp (maxSteps := 1000000) only [hv1, hx1, hx2, cE_ment, cE_kill, hasK_nil, cE_len, Nat.mul_one, Nat.zero_add, ↓hold_pre, awayP, runOps, regK, step1, newK, genR, appR, obl, buildR, Value.cells, closeK, keepH, outV, retK, ret1, retC, RetV, Option.getD, runD, stepD, afterK, undef, simprocAttr, sxB, ↓sxD, sxE, sxTab]))
    exact hk
  · have d1 : decide ((4 : Int) = (L.length : Int)) = false := by rw [decide_eq_false_iff_not]; omega
    have d2 : decide (((4 : Nat) : Int) = (L.length : Int)) = false := by rw [decide_eq_false_iff_not]; omega
    refine Go1.mk ?_; repeat' ((first | (with_reducible refine Go1.go ?_) | (refine And.intro ?ob ?_; case ob => ((try simp only [sxO] at *); omega)) | fail) <;> (try simp (maxSteps := 1000000) only [d1, d2, hv1, hx1, hx2, cE_ment, cE_kill, hasK_nil, cE_len, Nat.mul_one, Nat.zero_add, ↓hold_pre, awayP, runOps, regK, step1, newK, genR, appR, obl, buildR, Value.cells, closeK, keepH, outV, retK, ret1, retC, RetV, Option.getD, runD, stepD, afterK, undef, simprocAttr, sxB, ↓sxD, sxE, sxTab]))
    refine ⟨fun m z => ∃ M' i, m = L.length - i ∧ i ≤ L.length ∧ Mem.le M M' ∧ z = alSt4 M' v w1 w2 L.length o i,
      ⟨L.length, alSt4 M v w1 w2 L.length o 0, le_sub ⟨rfl, rfl, rfl, rfl, trivial⟩ ⟨rfl, rfl, rfl, trivial⟩ rfl rfl rfl (keepLt_of rfl), ⟨M, 0, by omega, by omega, Mem.le.refl _, rfl⟩⟩, ?_⟩
    clear d1 d2
    rintro m z ⟨M2, i, rfl, hi, hM, rfl⟩
    have hB := hA.le hM
    by_cases hlt2 : i < L.length
    case neg =>
      obtain rfl : i = L.length := by omega
      have d2 : decide ((L.length : Int) < (L.length : Int)) = false := by simp
      have hk := hK M2 hM
      refine Go1.mk ?_; repeat' ((first | (with_reducible refine Go1.go ?_) | (refine And.intro ?ob ?_; case ob => ((try simp only [sxO] at *); omega)) | fail) <;> (try simp (maxSteps := 1000000) only [alSt4, d2, hv1, hx1, hx2, cE_ment, cE_kill, hasK_nil, cE_len, Nat.mul_one, Nat.zero_add, ↓hold_pre, awayP, runOps, regK, step1, newK, genR, appR, obl, buildR, Value.cells, closeK, keepH, outV, retK, ret1, retC, RetV, Option.getD, runD, stepD, afterK, undef, simprocAttr, sxB, ↓sxD, sxE, sxTab]))
      exact hk
    have d2 : decide ((i : Int) < (L.length : Int)) = true := by rw [decide_eq_true_eq]; omega
    have wi : IntKind.i64.wrap ((i : Int) + 1) = ((i + 1 : Nat) : Int) := succ_i (by omega)
    have htk : (cE intV64 o).take 4 = cE intV64 o := List.take_of_length_le (by rw [cE_len]; omega)
    have hao : allOne (cE intV64 o) = True := eq_true (allOne_cE intV64 (fun _ => rfl) o)
    have hsn : cE intV64 o ++ [AV.ext (.int .i64 (i : Int))] = cE intV64 (o ++ [(i : Int)]) := cE_snoc intV64 o (i : Int)
    cases hci : o.contains (i : Int) with
    | true =>
      refine Go1.mk ?_; repeat' ((first | (with_reducible refine Go1.go ?_) | ((with_reducible refine isCall (f := 46) ?_); refine callA ?_) | ((with_reducible refine isCallS (f := 46) ?_); refine (hasInt_bor hlo.symm (by omega) (Stop.mk ?_))) | (refine And.intro ?ob ?_; case ob => ((try simp only [sxO] at *); omega)) | fail) <;> (try simp (maxSteps := 1000000) only [alSt4, d2, hv1, hx1, hx2, hlo, cE_ment, cE_kill, hasK_nil, cE_len, Nat.mul_one, Nat.zero_add, ↓hold_pre, awayP, runOps, regK, step1, newK, genR, appR, obl, buildR, Value.cells, closeK, keepH, outV, retK, ret1, retC, RetV, Option.getD, runD, stepD, afterK, undef, simprocAttr, sxB, ↓sxD, sxE, sxTab]))
      refine Stop.go ?_
      refine Go1.mk ?_; repeat' ((first | (with_reducible refine Go1.go ?_) | (refine And.intro ?ob ?_; case ob => ((try simp only [sxO] at *); omega)) | fail) <;> (try simp (maxSteps := 1000000) only [hci, wi, hv1, hx1, hx2, cE_ment, cE_kill, hasK_nil, cE_len, Nat.mul_one, Nat.zero_add, ↓hold_pre, awayP, runOps, regK, step1, newK, genR, appR, obl, buildR, Value.cells, closeK, keepH, outV, retK, ret1, retC, RetV, Option.getD, runD, stepD, afterK, undef, simprocAttr, sxB, ↓sxD, sxE, sxTab]))
      exact ⟨L.length - (i + 1), alSt4 M2 v w1 w2 L.length o (i + 1), by omega, le_sub ⟨rfl, rfl, rfl, rfl, trivial⟩ ⟨rfl, rfl, rfl, trivial⟩ rfl rfl rfl (keepLt_of rfl), M2, i + 1, rfl, by omega, hM, rfl⟩
    | false =>
      have hN := hB.next hlt2 hci
      refine Go1.mk ?_; repeat' ((first | (with_reducible refine Go1.go ?_) | ((with_reducible refine isCall (f := 46) ?_); refine callA ?_) | ((with_reducible refine isCallS (f := 46) ?_); refine (hasInt_bor hlo.symm (by omega) (Stop.mk ?_))) | (refine And.intro ?ob ?_; case ob => ((try simp only [sxO] at *); omega)) | fail) <;> (try simp (maxSteps := 1000000) only [alSt4, d2, hv1, hx1, hx2, hlo, cE_ment, cE_kill, hasK_nil, cE_len, Nat.mul_one, Nat.zero_add, ↓hold_pre, awayP, runOps, regK, step1, newK, genR, appR, obl, buildR, Value.cells, closeK, keepH, outV, retK, ret1, retC, RetV, Option.getD, runD, stepD, afterK, undef, simprocAttr, sxB, ↓sxD, sxE, sxTab]))
      refine Stop.go ?_
      refine Go1.mk ?_; repeat' ((first | (with_reducible refine Go1.go ?_) | ((with_reducible refine isCall (f := 16) ?_); refine callA ?_) | ((with_reducible refine isCallS (f := 16) ?_); refine (all5_ok (o := (o ++ [(i : Int)])) hN (fun M3 c3 => Stop.mk ?_))) | (refine And.intro ?ob ?_; case ob => ((try simp only [sxO] at *); omega)) | fail) <;> (try simp (maxSteps := 1000000) only [hci, htk, hao, hsn, hv1, hx1, hx2, hlo, cE_ment, cE_kill, hasK_nil, cE_len, Nat.mul_one, Nat.zero_add, ↓hold_pre, awayP, runOps, regK, step1, newK, genR, appR, obl, buildR, Value.cells, closeK, keepH, outV, retK, ret1, retC, RetV, Option.getD, runD, stepD, afterK, undef, simprocAttr, sxB, ↓sxD, sxE, sxTab]))
      have c3 : Mem.le M2 M3 := c3
      refine Stop.go ?_
      refine Go1.mk ?_; repeat' ((first | (with_reducible refine Go1.go ?_) | (refine And.intro ?ob ?_; case ob => ((try simp only [sxO] at *); omega)) | fail) <;> (try simp (maxSteps := 1000000) only [wi, hv1, hx1, hx2, cE_ment, cE_kill, hasK_nil, cE_len, Nat.mul_one, Nat.zero_add, ↓hold_pre, awayP, runOps, regK, step1, newK, genR, appR, obl, buildR, Value.cells, closeK, keepH, outV, retK, ret1, retC, RetV, Option.getD, runD, stepD, afterK, undef, simprocAttr, sxB, ↓sxD, sxE, sxTab]))
      exact ⟨L.length - (i + 1), alSt4 M3 v w1 w2 L.length o (i + 1), by omega, le_sub ⟨rfl, rfl, rfl, rfl, trivial⟩ ⟨rfl, rfl, rfl, trivial⟩ rfl rfl rfl (keepLt_of rfl), M3, i + 1, rfl, by omega, hM.trans c3, rfl⟩
theorem fall3_ok {o : List Int} {v w1 w2 : Value} {L : List IR} {Z : List Nat} (hA : AllK M v w1 w2 L Z o 3) (hl : L.length = 3) (hK : ∀ M', Mem.le M M' → K (.ext (.bool true)) [(3027, 3, cE intV64 o), (28, 34, [.ext w1, .ext w2]), (25, 26, [.ext v])] M') :
    CallS Try.prog 17 [.slo 3027 0 3 1, .own 25 0, .own 28 0] [(3027, 3, cE intV64 o), (28, 34, [.ext w1, .ext w2]), (25, 26, [.ext v])] M [] K := by
  refine inlS (cs := []) Try.mixed Try.func17 rfl (by kernel_rfl) 10000 rfl rfl ?_
  simp only [Try.f17]
  have hb := hA.len
  have hv1 := hA.hv.one
  have hx1 := hA.x1.one
  have hx2 := hA.x2.one
  have hE := errO_nd hA.chk (by rw [hA.len, hl]) hA.nd hA.rng
  refine Go1.mk ?_; repeat' ((first | (with_reducible refine Go1.go ?_) | ((with_reducible refine isCall (f := 12) ?_); refine callA ?_) | ((with_reducible refine isCallS (f := 12) ?_); refine (oloss_borI hA.len.symm hA.hv hA.ok (by omega) (by omega) (fun y1 y2 M1 c1 e1 e2 => Stop.mk ?_))) | (refine And.intro ?ob ?_; case ob => ((try simp only [sxO] at *); omega)) | fail) <;> (try simp (maxSteps := 1000000) only [hv1, hx1, hx2, cE_ment, cE_kill, hasK_nil, cE_len, Nat.mul_one, Nat.zero_add, ↓hold_pre, awayP, runOps, regK, step1, newK, genR, appR, obl, buildR, Value.cells, closeK, keepH, outV, retK, ret1, retC, RetV, Option.getD, runD, stepD, afterK, undef, simprocAttr, sxB, ↓sxD, sxE, sxTab]))
  have c1 : Mem.le M M1 := c1
  have hB := hA.le c1
  have x1 := hB.x1
  have x2 := hB.x2
  have hcmp := los_least hB.ok hA.chk hA.ord hE
  have hEz := ordS_err hA.chk hA.ord
  obtain ⟨z1, z2⟩ := losP_len hB.ok hEz
  obtain ⟨g1, g2⟩ := losP_len hB.ok hE
  have e1 : IsL M1 u32V y1 (ofN (losP L o).1) := e1
  have e2 : IsL M1 u32V y2 (ofN (losP L o).2) := e2
  have k3 := decide_eq_true hcmp
  refine Stop.go ?_
  refine Go1.mk ?_; repeat' ((first | (with_reducible refine Go1.go ?_) | (((with_reducible refine isCall (f := 14) ?_); refine callA_nil (by kernel_rfl) ?_; refine (fcmp_ok ⟨x1, x2, okN_ofN _, okN_ofN _, by omega, by omega⟩ ⟨e1, e2, okN_ofN _, okN_ofN _, by omega, by omega⟩ (fun M2 c2 => Stop.mk ?_)))) | (refine And.intro ?ob ?_; case ob => ((try simp only [sxO] at *); omega)) | fail) <;> (try simp (maxSteps := 1000000) only [hE, x1.one, x2.one, e1.one, e2.one, cE_ment, cE_kill, hasK_nil, cE_len, Nat.mul_one, Nat.zero_add, ↓hold_pre, awayP, runOps, regK, step1, newK, genR, appR, obl, buildR, Value.cells, closeK, keepH, outV, retK, ret1, retC, RetV, Option.getD, runD, stepD, afterK, undef, simprocAttr, sxB, ↓sxD, sxE, sxTab]))
  have hk := hK M2 (c1.trans c2)
  refine Stop.go ?_
  refine Go1.mk ?_; repeat' ((first | (with_reducible refine Go1.go ?_) | (refine And.intro ?ob ?_; case ob => ((try simp only [sxO] at *); omega)) | fail) <;> (try simp (maxSteps := 1000000) only [k3, cE_ment, cE_kill, hasK_nil, cE_len, Nat.mul_one, Nat.zero_add, ↓hold_pre, awayP, runOps, regK, step1, newK, genR, appR, obl, buildR, Value.cells, closeK, keepH, outV, retK, ret1, retC, RetV, Option.getD, runD, stepD, afterK, undef, simprocAttr, sxB, ↓sxD, sxE, sxTab]))
  exact hk
def alSt3 (M : Mem) (v w1 w2 : Value) (N : Nat) (o : List Int) (i : Nat) : St := { env := [(7, .ext (.int .i64 (i : Int))), (2, .fn 17 [.own 25 0, .own 28 0]), (1, .slo 3027 0 3 1), (0, .ext (.int .i64 (N : Int)))], hp := [(3027, 3, cE intV64 o), (28, 34, [.ext w1, .ext w2]), (25, 26, [.ext v])], M := M, kb := 4000, fx := [3027, 28, 25] }
theorem all3_ok {o : List Int} {v w1 w2 : Value} {L : List IR} {Z : List Nat} (hA : AllK M v w1 w2 L Z o 3) (hK : ∀ M', Mem.le M M' → K (.ext (.bool true)) [(3027, 3, cE intV64 o), (28, 34, [.ext w1, .ext w2]), (25, 26, [.ext v])] M') :
    CallS Try.prog 16 [.ext (.int .i64 (L.length : Int)), .slo 3027 0 3 1, .fn 17 [.own 25 0, .own 28 0]] [(3027, 3, cE intV64 o), (28, 34, [.ext w1, .ext w2]), (25, 26, [.ext v])] M [] K := by
  refine inlS (cs := []) Try.mixed Try.func16 rfl (by kernel_rfl) 4000 rfl rfl ?_
  simp only [Try.f16]
  have h5 := hA.fit
  have hlt := hA.lt
  have hlo := hA.len
  have hv1 := hA.hv.one
  have hx1 := hA.x1.one
  have hx2 := hA.x2.one
  by_cases hl : L.length = 3
  · have d1 : decide ((3 : Int) = (L.length : Int)) = true := by rw [decide_eq_true_eq]; omega
    have d2 : decide (((3 : Nat) : Int) = (L.length : Int)) = true := by rw [decide_eq_true_eq]; omega
    refine Go1.mk ?_; repeat' ((first | (with_reducible refine Go1.go ?_) | ((with_reducible refine isCall (f := 17) ?_); refine callA ?_) | ((with_reducible refine isCallS (f := 17) ?_); refine (fall3_ok hA hl (fun M1 c1 => Stop.mk ?_))) | (refine And.intro ?ob ?_; case ob => ((try simp only [sxO] at *); omega)) | fail) <;> (try simp (maxSteps := 1000000) only [d1, d2, hv1, hx1, hx2, cE_ment, cE_kill, hasK_nil, cE_len, Nat.mul_one, Nat.zero_add, ↓hold_pre, awayP, runOps, regK, step1, newK, genR, appR, obl, buildR, Value.cells, closeK, keepH, outV, retK, ret1, retC, RetV, Option.getD, runD, stepD, afterK, undef, simprocAttr, sxB, ↓sxD, sxE, sxTab]))
    have hk := hK M1 c1
    refine Stop.go ?_
    refine Go1.mk ?_; repeat' ((first | (with_reducible refine Go1.go ?_) | (refine And.intro ?ob ?_; case ob => ((try simp only [sxO] at *); omega)) | fail) <;> (try simp (maxSteps := 1000000) only [hv1, hx1, hx2, cE_ment, cE_kill, hasK_nil, cE_len, Nat.mul_one, Nat.zero_add, ↓hold_pre, awayP, runOps, regK, step1, newK, genR, appR, obl, buildR, Value.cells, closeK, keepH, outV, retK, ret1, retC, RetV, Option.getD, runD, stepD, afterK, undef, simprocAttr, sxB, ↓sxD, sxE, sxTab]))
    exact hk
  · have d1 : decide ((3 : Int) = (L.length : Int)) = false := by rw [decide_eq_false_iff_not]; omega
    have d2 : decide (((3 : Nat) : Int) = (L.length : Int)) = false := by rw [decide_eq_false_iff_not]; omega
    refine Go1.mk ?_; repeat' ((first | (with_reducible refine Go1.go ?_) | (refine And.intro ?ob ?_; case ob => ((try simp only [sxO] at *); omega)) | fail) <;> (try simp (maxSteps := 1000000) only [d1, d2, hv1, hx1, hx2, cE_ment, cE_kill, hasK_nil, cE_len, Nat.mul_one, Nat.zero_add, ↓hold_pre, awayP, runOps, regK, step1, newK, genR, appR, obl, buildR, Value.cells, closeK, keepH, outV, retK, ret1, retC, RetV, Option.getD, runD, stepD, afterK, undef, simprocAttr, sxB, ↓sxD, sxE, sxTab]))
    refine ⟨fun m z => ∃ M' i, m = L.length - i ∧ i ≤ L.length ∧ Mem.le M M' ∧ z = alSt3 M' v w1 w2 L.length o i,
      ⟨L.length, alSt3 M v w1 w2 L.length o 0, le_sub ⟨rfl, rfl, rfl, rfl, trivial⟩ ⟨rfl, rfl, rfl, trivial⟩ rfl rfl rfl (keepLt_of rfl), ⟨M, 0, by omega, by omega, Mem.le.refl _, rfl⟩⟩, ?_⟩
    clear d1 d2
    rintro m z ⟨M2, i, rfl, hi, hM, rfl⟩
    have hB := hA.le hM
    by_cases hlt2 : i < L.length
    case neg =>
      obtain rfl : i = L.length := by omega
      have d2 : decide ((L.length : Int) < (L.length : Int)) = false := by simp
      have hk := hK M2 hM
      refine Go1.mk ?_; repeat' ((first | (with_reducible refine Go1.go ?_) | (refine And.intro ?ob ?_; case ob => ((try simp only [sxO] at *); omega)) | fail) <;> (try simp (maxSteps := 1000000) only [alSt3, d2, hv1, hx1, hx2, cE_ment, cE_kill, hasK_nil, cE_len, Nat.mul_one, Nat.zero_add, ↓hold_pre, awayP, runOps, regK, step1, newK, genR, appR, obl, buildR, Value.cells, closeK, keepH, outV, retK, ret1, retC, RetV, Option.getD, runD, stepD, afterK, undef, simprocAttr, sxB, ↓sxD, sxE, sxTab]))
      exact hk
    have d2 : decide ((i : Int) < (L.length : Int)) = true := by rw [decide_eq_true_eq]; omega
    have wi : IntKind.i64.wrap ((i : Int) + 1) = ((i + 1 : Nat) : Int) := succ_i (by omega)
    have htk : (cE intV64 o).take 3 = cE intV64 o := List.take_of_length_le (by rw [cE_len]; omega)
    have hao : allOne (cE intV64 o) = True := eq_true (allOne_cE intV64 (fun _ => rfl) o)
    have hsn : cE intV64 o ++ [AV.ext (.int .i64 (i : Int))] = cE intV64 (o ++ [(i : Int)]) := cE_snoc intV64 o (i : Int)
    cases hci : o.contains (i : Int) with
    | true =>
      refine Go1.mk ?_; repeat' ((first | (with_reducible refine Go1.go ?_) | ((with_reducible refine isCall (f := 46) ?_); refine callA ?_) | ((with_reducible refine isCallS (f := 46) ?_); refine (hasInt_bor hlo.symm (by omega) (Stop.mk ?_))) | (refine And.intro ?ob ?_; case ob => ((try simp only [sxO] at *); omega)) | fail) <;> (try simp (maxSteps := 1000000) only [alSt3, d2, hv1, hx1, hx2, hlo, cE_ment, cE_kill, hasK_nil, cE_len, Nat.mul_one, Nat.zero_add, ↓hold_pre, awayP, runOps, regK, step1, newK, genR, appR, obl, buildR, Value.cells, closeK, keepH, outV, retK, ret1, retC, RetV, Option.getD, runD, stepD, afterK, undef, simprocAttr, sxB, ↓sxD, sxE, sxTab]))
      refine Stop.go ?_
      refine Go1.mk ?_; repeat' ((first | (with_reducible refine Go1.go ?_) | (refine And.intro ?ob ?_; case ob => ((try simp only [sxO] at *); omega)) | fail) <;> (try simp (maxSteps := 1000000) only [hci, wi, hv1, hx1, hx2, cE_ment, cE_kill, hasK_nil, cE_len, Nat.mul_one, Nat.zero_add, ↓hold_pre, awayP, runOps, regK, step1, newK, genR, appR, obl, buildR, Value.cells, closeK, keepH, outV, retK, ret1, retC, RetV, Option.getD, runD, stepD, afterK, undef, simprocAttr, sxB, ↓sxD, sxE, sxTab]))
      exact ⟨L.length - (i + 1), alSt3 M2 v w1 w2 L.length o (i + 1), by omega, le_sub ⟨rfl, rfl, rfl, rfl, trivial⟩ ⟨rfl, rfl, rfl, trivial⟩ rfl rfl rfl (keepLt_of rfl), M2, i + 1, rfl, by omega, hM, rfl⟩
    | false =>
      have hN := hB.next hlt2 hci
      refine Go1.mk ?_; repeat' ((first | (with_reducible refine Go1.go ?_) | ((with_reducible refine isCall (f := 46) ?_); refine callA ?_) | ((with_reducible refine isCallS (f := 46) ?_); refine (hasInt_bor hlo.symm (by omega) (Stop.mk ?_))) | (refine And.intro ?ob ?_; case ob => ((try simp only [sxO] at *); omega)) | fail) <;> (try simp (maxSteps := 1000000) only [alSt3, d2, hv1, hx1, hx2, hlo, cE_ment, cE_kill, hasK_nil, cE_len, Nat.mul_one, Nat.zero_add, ↓hold_pre, awayP, runOps, regK, step1, newK, genR, appR, obl, buildR, Value.cells, closeK, keepH, outV, retK, ret1, retC, RetV, Option.getD, runD, stepD, afterK, undef, simprocAttr, sxB, ↓sxD, sxE, sxTab]))
      refine Stop.go ?_
      refine Go1.mk ?_; repeat' ((first | (with_reducible refine Go1.go ?_) | ((with_reducible refine isCall (f := 16) ?_); refine callA ?_) | ((with_reducible refine isCallS (f := 16) ?_); refine (all4_ok (o := (o ++ [(i : Int)])) hN (fun M3 c3 => Stop.mk ?_))) | (refine And.intro ?ob ?_; case ob => ((try simp only [sxO] at *); omega)) | fail) <;> (try simp (maxSteps := 1000000) only [hci, htk, hao, hsn, hv1, hx1, hx2, hlo, cE_ment, cE_kill, hasK_nil, cE_len, Nat.mul_one, Nat.zero_add, ↓hold_pre, awayP, runOps, regK, step1, newK, genR, appR, obl, buildR, Value.cells, closeK, keepH, outV, retK, ret1, retC, RetV, Option.getD, runD, stepD, afterK, undef, simprocAttr, sxB, ↓sxD, sxE, sxTab]))
      have c3 : Mem.le M2 M3 := c3
      refine Stop.go ?_
      refine Go1.mk ?_; repeat' ((first | (with_reducible refine Go1.go ?_) | (refine And.intro ?ob ?_; case ob => ((try simp only [sxO] at *); omega)) | fail) <;> (try simp (maxSteps := 1000000) only [wi, hv1, hx1, hx2, cE_ment, cE_kill, hasK_nil, cE_len, Nat.mul_one, Nat.zero_add, ↓hold_pre, awayP, runOps, regK, step1, newK, genR, appR, obl, buildR, Value.cells, closeK, keepH, outV, retK, ret1, retC, RetV, Option.getD, runD, stepD, afterK, undef, simprocAttr, sxB, ↓sxD, sxE, sxTab]))
      exact ⟨L.length - (i + 1), alSt3 M3 v w1 w2 L.length o (i + 1), by omega, le_sub ⟨rfl, rfl, rfl, rfl, trivial⟩ ⟨rfl, rfl, rfl, trivial⟩ rfl rfl rfl (keepLt_of rfl), M3, i + 1, rfl, by omega, hM.trans c3, rfl⟩
theorem fall2_ok {o : List Int} {v w1 w2 : Value} {L : List IR} {Z : List Nat} (hA : AllK M v w1 w2 L Z o 2) (hl : L.length = 2) (hK : ∀ M', Mem.le M M' → K (.ext (.bool true)) [(2027, 3, cE intV64 o), (28, 34, [.ext w1, .ext w2]), (25, 26, [.ext v])] M') :
    CallS Try.prog 17 [.slo 2027 0 2 1, .own 25 0, .own 28 0] [(2027, 3, cE intV64 o), (28, 34, [.ext w1, .ext w2]), (25, 26, [.ext v])] M [] K := by
  refine inlS (cs := []) Try.mixed Try.func17 rfl (by kernel_rfl) 10000 rfl rfl ?_
  simp only [Try.f17]
  have hb := hA.len
  have hv1 := hA.hv.one
  have hx1 := hA.x1.one
  have hx2 := hA.x2.one
  have hE := errO_nd hA.chk (by rw [hA.len, hl]) hA.nd hA.rng
  refine Go1.mk ?_; repeat' ((first | (with_reducible refine Go1.go ?_) | ((with_reducible refine isCall (f := 12) ?_); refine callA ?_) | ((with_reducible refine isCallS (f := 12) ?_); refine (oloss_borI hA.len.symm hA.hv hA.ok (by omega) (by omega) (fun y1 y2 M1 c1 e1 e2 => Stop.mk ?_))) | (refine And.intro ?ob ?_; case ob => ((try simp only [sxO] at *); omega)) | fail) <;> (try simp (maxSteps := 1000000) only [hv1, hx1, hx2, cE_ment, cE_kill, hasK_nil, cE_len, Nat.mul_one, Nat.zero_add, ↓hold_pre, awayP, runOps, regK, step1, newK, genR, appR, obl, buildR, Value.cells, closeK, keepH, outV, retK, ret1, retC, RetV, Option.getD, runD, stepD, afterK, undef, simprocAttr, sxB, ↓sxD, sxE, sxTab]))
  have c1 : Mem.le M M1 := c1
  have hB := hA.le c1
  have x1 := hB.x1
  have x2 := hB.x2
  have hcmp := los_least hB.ok hA.chk hA.ord hE
  have hEz := ordS_err hA.chk hA.ord
  obtain ⟨z1, z2⟩ := losP_len hB.ok hEz
  obtain ⟨g1, g2⟩ := losP_len hB.ok hE
  have e1 : IsL M1 u32V y1 (ofN (losP L o).1) := e1
  have e2 : IsL M1 u32V y2 (ofN (losP L o).2) := e2
  have k3 := decide_eq_true hcmp
  refine Stop.go ?_
  refine Go1.mk ?_; repeat' ((first | (with_reducible refine Go1.go ?_) | (((with_reducible refine isCall (f := 14) ?_); refine callA_nil (by kernel_rfl) ?_; refine (fcmp_ok ⟨x1, x2, okN_ofN _, okN_ofN _, by omega, by omega⟩ ⟨e1, e2, okN_ofN _, okN_ofN _, by omega, by omega⟩ (fun M2 c2 => Stop.mk ?_)))) | (refine And.intro ?ob ?_; case ob => ((try simp only [sxO] at *); omega)) | fail) <;> (try simp (maxSteps := 1000000) only [hE, x1.one, x2.one, e1.one, e2.one, cE_ment, cE_kill, hasK_nil, cE_len, Nat.mul_one, Nat.zero_add, ↓hold_pre, awayP, runOps, regK, step1, newK, genR, appR, obl, buildR, Value.cells, closeK, keepH, outV, retK, ret1, retC, RetV, Option.getD, runD, stepD, afterK, undef, simprocAttr, sxB, ↓sxD, sxE, sxTab]))
  have hk := hK M2 (c1.trans c2)
  refine Stop.go ?_
  refine Go1.mk ?_; repeat' ((first | (with_reducible refine Go1.go ?_) | (refine And.intro ?ob ?_; case ob => ((try simp only [sxO] at *); omega)) | fail) <;> (try simp (maxSteps := 1000000) only [k3, cE_ment, cE_kill, hasK_nil, cE_len, Nat.mul_one, Nat.zero_add, ↓hold_pre, awayP, runOps, regK, step1, newK, genR, appR, obl, buildR, Value.cells, closeK, keepH, outV, retK, ret1, retC, RetV, Option.getD, runD, stepD, afterK, undef, simprocAttr, sxB, ↓sxD, sxE, sxTab]))
  exact hk
def alSt2 (M : Mem) (v w1 w2 : Value) (N : Nat) (o : List Int) (i : Nat) : St := { env := [(7, .ext (.int .i64 (i : Int))), (2, .fn 17 [.own 25 0, .own 28 0]), (1, .slo 2027 0 2 1), (0, .ext (.int .i64 (N : Int)))], hp := [(2027, 3, cE intV64 o), (28, 34, [.ext w1, .ext w2]), (25, 26, [.ext v])], M := M, kb := 3000, fx := [2027, 28, 25] }
theorem all2_ok {o : List Int} {v w1 w2 : Value} {L : List IR} {Z : List Nat} (hA : AllK M v w1 w2 L Z o 2) (hK : ∀ M', Mem.le M M' → K (.ext (.bool true)) [(2027, 3, cE intV64 o), (28, 34, [.ext w1, .ext w2]), (25, 26, [.ext v])] M') :
    CallS Try.prog 16 [.ext (.int .i64 (L.length : Int)), .slo 2027 0 2 1, .fn 17 [.own 25 0, .own 28 0]] [(2027, 3, cE intV64 o), (28, 34, [.ext w1, .ext w2]), (25, 26, [.ext v])] M [] K := by
  refine inlS (cs := []) Try.mixed Try.func16 rfl (by kernel_rfl) 3000 rfl rfl ?_
  simp only [Try.f16]
  have h5 := hA.fit
  have hlt := hA.lt
  have hlo := hA.len
  have hv1 := hA.hv.one
  have hx1 := hA.x1.one
  have hx2 := hA.x2.one
  by_cases hl : L.length = 2
  · have d1 : decide ((2 : Int) = (L.length : Int)) = true := by rw [decide_eq_true_eq]; omega
    have d2 : decide (((2 : Nat) : Int) = (L.length : Int)) = true := by rw [decide_eq_true_eq]; omega
    refine Go1.mk ?_; repeat' ((first | (with_reducible refine Go1.go ?_) | ((with_reducible refine isCall (f := 17) ?_); refine callA ?_) | ((with_reducible refine isCallS (f := 17) ?_); refine (fall2_ok hA hl (fun M1 c1 => Stop.mk ?_))) | (refine And.intro ?ob ?_; case ob => ((try simp only [sxO] at *); omega)) | fail) <;> (try simp (maxSteps := 1000000) only [d1, d2, hv1, hx1, hx2, cE_ment, cE_kill, hasK_nil, cE_len, Nat.mul_one, Nat.zero_add, ↓hold_pre, awayP, runOps, regK, step1, newK, genR, appR, obl, buildR, Value.cells, closeK, keepH, outV, retK, ret1, retC, RetV, Option.getD, runD, stepD, afterK, undef, simprocAttr, sxB, ↓sxD, sxE, sxTab]))
    have hk := hK M1 c1
    refine Stop.go ?_
    refine Go1.mk ?_; repeat' ((first | (with_reducible refine Go1.go ?_) | (refine And.intro ?ob ?_; case ob => ((try simp only [sxO] at *); omega)) | fail) <;> (try simp (maxSteps := 1000000) only [hv1, hx1, hx2, cE_ment, cE_kill, hasK_nil, cE_len, Nat.mul_one, Nat.zero_add, ↓hold_pre, awayP, runOps, regK, step1, newK, genR, appR, obl, buildR, Value.cells, closeK, keepH, outV, retK, ret1, retC, RetV, Option.getD, runD, stepD, afterK, undef, simprocAttr, sxB, ↓sxD, sxE, sxTab]))
    exact hk
  · have d1 : decide ((2 : Int) = (L.length : Int)) = false := by rw [decide_eq_false_iff_not]; omega
    have d2 : decide (((2 : Nat) : Int) = (L.length : Int)) = false := by rw [decide_eq_false_iff_not]; omega
    refine Go1.mk ?_; repeat' ((first | (with_reducible refine Go1.go ?_) | (refine And.intro ?ob ?_; case ob => ((try simp only [sxO] at *); omega)) | fail) <;> (try simp (maxSteps := 1000000) only [d1, d2, hv1, hx1, hx2, cE_ment, cE_kill, hasK_nil, cE_len, Nat.mul_one, Nat.zero_add, ↓hold_pre, awayP, runOps, regK, step1, newK, genR, appR, obl, buildR, Value.cells, closeK, keepH, outV, retK, ret1, retC, RetV, Option.getD, runD, stepD, afterK, undef, simprocAttr, sxB, ↓sxD, sxE, sxTab]))
    refine ⟨fun m z => ∃ M' i, m = L.length - i ∧ i ≤ L.length ∧ Mem.le M M' ∧ z = alSt2 M' v w1 w2 L.length o i,
      ⟨L.length, alSt2 M v w1 w2 L.length o 0, le_sub ⟨rfl, rfl, rfl, rfl, trivial⟩ ⟨rfl, rfl, rfl, trivial⟩ rfl rfl rfl (keepLt_of rfl), ⟨M, 0, by omega, by omega, Mem.le.refl _, rfl⟩⟩, ?_⟩
    clear d1 d2
    rintro m z ⟨M2, i, rfl, hi, hM, rfl⟩
    have hB := hA.le hM
    by_cases hlt2 : i < L.length
    case neg =>
      obtain rfl : i = L.length := by omega
      have d2 : decide ((L.length : Int) < (L.length : Int)) = false := by simp
      have hk := hK M2 hM
      refine Go1.mk ?_; repeat' ((first | (with_reducible refine Go1.go ?_) | (refine And.intro ?ob ?_; case ob => ((try simp only [sxO] at *); omega)) | fail) <;> (try simp (maxSteps := 1000000) only [alSt2, d2, hv1, hx1, hx2, cE_ment, cE_kill, hasK_nil, cE_len, Nat.mul_one, Nat.zero_add, ↓hold_pre, awayP, runOps, regK, step1, newK, genR, appR, obl, buildR, Value.cells, closeK, keepH, outV, retK, ret1, retC, RetV, Option.getD, runD, stepD, afterK, undef, simprocAttr, sxB, ↓sxD, sxE, sxTab]))
      exact hk
    have d2 : decide ((i : Int) < (L.length : Int)) = true := by rw [decide_eq_true_eq]; omega
    have wi : IntKind.i64.wrap ((i : Int) + 1) = ((i + 1 : Nat) : Int) := succ_i (by omega)
    have htk : (cE intV64 o).take 2 = cE intV64 o := List.take_of_length_le (by rw [cE_len]; omega)
    have hao : allOne (cE intV64 o) = True := eq_true (allOne_cE intV64 (fun _ => rfl) o)
    have hsn : cE intV64 o ++ [AV.ext (.int .i64 (i : Int))] = cE intV64 (o ++ [(i : Int)]) := cE_snoc intV64 o (i : Int)
    cases hci : o.contains (i : Int) with
    | true =>
      refine Go1.mk ?_; repeat' ((first | (with_reducible refine Go1.go ?_) | ((with_reducible refine isCall (f := 46) ?_); refine callA ?_) | ((with_reducible refine isCallS (f := 46) ?_); refine (hasInt_bor hlo.symm (by omega) (Stop.mk ?_))) | (refine And.intro ?ob ?_; case ob => ((try simp only [sxO] at *); omega)) | fail) <;> (try simp (maxSteps := 1000000) only [alSt2, d2, hv1, hx1, hx2, hlo, cE_ment, cE_kill, hasK_nil, cE_len, Nat.mul_one, Nat.zero_add, ↓hold_pre, awayP, runOps, regK, step1, newK, genR, appR, obl, buildR, Value.cells, closeK, keepH, outV, retK, ret1, retC, RetV, Option.getD, runD, stepD, afterK, undef, simprocAttr, sxB, ↓sxD, sxE, sxTab]))
      refine Stop.go ?_
      refine Go1.mk ?_; repeat' ((first | (with_reducible refine Go1.go ?_) | (refine And.intro ?ob ?_; case ob => ((try simp only [sxO] at *); omega)) | fail) <;> (try simp (maxSteps := 1000000) only [hci, wi, hv1, hx1, hx2, cE_ment, cE_kill, hasK_nil, cE_len, Nat.mul_one, Nat.zero_add, ↓hold_pre, awayP, runOps, regK, step1, newK, genR, appR, obl, buildR, Value.cells, closeK, keepH, outV, retK, ret1, retC, RetV, Option.getD, runD, stepD, afterK, undef, simprocAttr, sxB, ↓sxD, sxE, sxTab]))
      exact ⟨L.length - (i + 1), alSt2 M2 v w1 w2 L.length o (i + 1), by omega, le_sub ⟨rfl, rfl, rfl, rfl, trivial⟩ ⟨rfl, rfl, rfl, trivial⟩ rfl rfl rfl (keepLt_of rfl), M2, i + 1, rfl, by omega, hM, rfl⟩
    | false =>
      have hN := hB.next hlt2 hci
      refine Go1.mk ?_; repeat' ((first | (with_reducible refine Go1.go ?_) | ((with_reducible refine isCall (f := 46) ?_); refine callA ?_) | ((with_reducible refine isCallS (f := 46) ?_); refine (hasInt_bor hlo.symm (by omega) (Stop.mk ?_))) | (refine And.intro ?ob ?_; case ob => ((try simp only [sxO] at *); omega)) | fail) <;> (try simp (maxSteps := 1000000) only [alSt2, d2, hv1, hx1, hx2, hlo, cE_ment, cE_kill, hasK_nil, cE_len, Nat.mul_one, Nat.zero_add, ↓hold_pre, awayP, runOps, regK, step1, newK, genR, appR, obl, buildR, Value.cells, closeK, keepH, outV, retK, ret1, retC, RetV, Option.getD, runD, stepD, afterK, undef, simprocAttr, sxB, ↓sxD, sxE, sxTab]))
      refine Stop.go ?_
      refine Go1.mk ?_; repeat' ((first | (with_reducible refine Go1.go ?_) | ((with_reducible refine isCall (f := 16) ?_); refine callA ?_) | ((with_reducible refine isCallS (f := 16) ?_); refine (all3_ok (o := (o ++ [(i : Int)])) hN (fun M3 c3 => Stop.mk ?_))) | (refine And.intro ?ob ?_; case ob => ((try simp only [sxO] at *); omega)) | fail) <;> (try simp (maxSteps := 1000000) only [hci, htk, hao, hsn, hv1, hx1, hx2, hlo, cE_ment, cE_kill, hasK_nil, cE_len, Nat.mul_one, Nat.zero_add, ↓hold_pre, awayP, runOps, regK, step1, newK, genR, appR, obl, buildR, Value.cells, closeK, keepH, outV, retK, ret1, retC, RetV, Option.getD, runD, stepD, afterK, undef, simprocAttr, sxB, ↓sxD, sxE, sxTab]))
      have c3 : Mem.le M2 M3 := c3
      refine Stop.go ?_
      refine Go1.mk ?_; repeat' ((first | (with_reducible refine Go1.go ?_) | (refine And.intro ?ob ?_; case ob => ((try simp only [sxO] at *); omega)) | fail) <;> (try simp (maxSteps := 1000000) only [wi, hv1, hx1, hx2, cE_ment, cE_kill, hasK_nil, cE_len, Nat.mul_one, Nat.zero_add, ↓hold_pre, awayP, runOps, regK, step1, newK, genR, appR, obl, buildR, Value.cells, closeK, keepH, outV, retK, ret1, retC, RetV, Option.getD, runD, stepD, afterK, undef, simprocAttr, sxB, ↓sxD, sxE, sxTab]))
      exact ⟨L.length - (i + 1), alSt2 M3 v w1 w2 L.length o (i + 1), by omega, le_sub ⟨rfl, rfl, rfl, rfl, trivial⟩ ⟨rfl, rfl, rfl, trivial⟩ rfl rfl rfl (keepLt_of rfl), M3, i + 1, rfl, by omega, hM.trans c3, rfl⟩
theorem fall1_ok {o : List Int} {v w1 w2 : Value} {L : List IR} {Z : List Nat} (hA : AllK M v w1 w2 L Z o 1) (hl : L.length = 1) (hK : ∀ M', Mem.le M M' → K (.ext (.bool true)) [(1027, 3, cE intV64 o), (28, 34, [.ext w1, .ext w2]), (25, 26, [.ext v])] M') :
    CallS Try.prog 17 [.slo 1027 0 1 1, .own 25 0, .own 28 0] [(1027, 3, cE intV64 o), (28, 34, [.ext w1, .ext w2]), (25, 26, [.ext v])] M [] K := by
  refine inlS (cs := []) Try.mixed Try.func17 rfl (by kernel_rfl) 10000 rfl rfl ?_
  simp only [Try.f17]
  have hb := hA.len
  have hv1 := hA.hv.one
  have hx1 := hA.x1.one
  have hx2 := hA.x2.one
  have hE := errO_nd hA.chk (by rw [hA.len, hl]) hA.nd hA.rng
  refine Go1.mk ?_; repeat' ((first | (with_reducible refine Go1.go ?_) | ((with_reducible refine isCall (f := 12) ?_); refine callA ?_) | ((with_reducible refine isCallS (f := 12) ?_); refine (oloss_borI hA.len.symm hA.hv hA.ok (by omega) (by omega) (fun y1 y2 M1 c1 e1 e2 => Stop.mk ?_))) | (refine And.intro ?ob ?_; case ob => ((try simp only [sxO] at *); omega)) | fail) <;> (try simp (maxSteps := 1000000) only [hv1, hx1, hx2, cE_ment, cE_kill, hasK_nil, cE_len, Nat.mul_one, Nat.zero_add, ↓hold_pre, awayP, runOps, regK, step1, newK, genR, appR, obl, buildR, Value.cells, closeK, keepH, outV, retK, ret1, retC, RetV, Option.getD, runD, stepD, afterK, undef, simprocAttr, sxB, ↓sxD, sxE, sxTab]))
  have c1 : Mem.le M M1 := c1
  have hB := hA.le c1
  have x1 := hB.x1
  have x2 := hB.x2
  have hcmp := los_least hB.ok hA.chk hA.ord hE
  have hEz := ordS_err hA.chk hA.ord
  obtain ⟨z1, z2⟩ := losP_len hB.ok hEz
  obtain ⟨g1, g2⟩ := losP_len hB.ok hE
  have e1 : IsL M1 u32V y1 (ofN (losP L o).1) := e1
  have e2 : IsL M1 u32V y2 (ofN (losP L o).2) := e2
  have k3 := decide_eq_true hcmp
  refine Stop.go ?_
  refine Go1.mk ?_; repeat' ((first | (with_reducible refine Go1.go ?_) | (((with_reducible refine isCall (f := 14) ?_); refine callA_nil (by kernel_rfl) ?_; refine (fcmp_ok ⟨x1, x2, okN_ofN _, okN_ofN _, by omega, by omega⟩ ⟨e1, e2, okN_ofN _, okN_ofN _, by omega, by omega⟩ (fun M2 c2 => Stop.mk ?_)))) | (refine And.intro ?ob ?_; case ob => ((try simp only [sxO] at *); omega)) | fail) <;> (try simp (maxSteps := 1000000) only [hE, x1.one, x2.one, e1.one, e2.one, cE_ment, cE_kill, hasK_nil, cE_len, Nat.mul_one, Nat.zero_add, ↓hold_pre, awayP, runOps, regK, step1, newK, genR, appR, obl, buildR, Value.cells, closeK, keepH, outV, retK, ret1, retC, RetV, Option.getD, runD, stepD, afterK, undef, simprocAttr, sxB, ↓sxD, sxE, sxTab]))
  have hk := hK M2 (c1.trans c2)
  refine Stop.go ?_
  refine Go1.mk ?_; repeat' ((first | (with_reducible refine Go1.go ?_) | (refine And.intro ?ob ?_; case ob => ((try simp only [sxO] at *); omega)) | fail) <;> (try simp (maxSteps := 1000000) only [k3, cE_ment, cE_kill, hasK_nil, cE_len, Nat.mul_one, Nat.zero_add, ↓hold_pre, awayP, runOps, regK, step1, newK, genR, appR, obl, buildR, Value.cells, closeK, keepH, outV, retK, ret1, retC, RetV, Option.getD, runD, stepD, afterK, undef, simprocAttr, sxB, ↓sxD, sxE, sxTab]))
  exact hk
def alSt1 (M : Mem) (v w1 w2 : Value) (N : Nat) (o : List Int) (i : Nat) : St := { env := [(7, .ext (.int .i64 (i : Int))), (2, .fn 17 [.own 25 0, .own 28 0]), (1, .slo 1027 0 1 1), (0, .ext (.int .i64 (N : Int)))], hp := [(1027, 3, cE intV64 o), (28, 34, [.ext w1, .ext w2]), (25, 26, [.ext v])], M := M, kb := 2000, fx := [1027, 28, 25] }
theorem all1_ok {o : List Int} {v w1 w2 : Value} {L : List IR} {Z : List Nat} (hA : AllK M v w1 w2 L Z o 1) (hK : ∀ M', Mem.le M M' → K (.ext (.bool true)) [(1027, 3, cE intV64 o), (28, 34, [.ext w1, .ext w2]), (25, 26, [.ext v])] M') :
    CallS Try.prog 16 [.ext (.int .i64 (L.length : Int)), .slo 1027 0 1 1, .fn 17 [.own 25 0, .own 28 0]] [(1027, 3, cE intV64 o), (28, 34, [.ext w1, .ext w2]), (25, 26, [.ext v])] M [] K := by
  refine inlS (cs := []) Try.mixed Try.func16 rfl (by kernel_rfl) 2000 rfl rfl ?_
  simp only [Try.f16]
  have h5 := hA.fit
  have hlt := hA.lt
  have hlo := hA.len
  have hv1 := hA.hv.one
  have hx1 := hA.x1.one
  have hx2 := hA.x2.one
  by_cases hl : L.length = 1
  · have d1 : decide ((1 : Int) = (L.length : Int)) = true := by rw [decide_eq_true_eq]; omega
    have d2 : decide (((1 : Nat) : Int) = (L.length : Int)) = true := by rw [decide_eq_true_eq]; omega
    refine Go1.mk ?_; repeat' ((first | (with_reducible refine Go1.go ?_) | ((with_reducible refine isCall (f := 17) ?_); refine callA ?_) | ((with_reducible refine isCallS (f := 17) ?_); refine (fall1_ok hA hl (fun M1 c1 => Stop.mk ?_))) | (refine And.intro ?ob ?_; case ob => ((try simp only [sxO] at *); omega)) | fail) <;> (try simp (maxSteps := 1000000) only [d1, d2, hv1, hx1, hx2, cE_ment, cE_kill, hasK_nil, cE_len, Nat.mul_one, Nat.zero_add, ↓hold_pre, awayP, runOps, regK, step1, newK, genR, appR, obl, buildR, Value.cells, closeK, keepH, outV, retK, ret1, retC, RetV, Option.getD, runD, stepD, afterK, undef, simprocAttr, sxB, ↓sxD, sxE, sxTab]))
    have hk := hK M1 c1
    refine Stop.go ?_
    refine Go1.mk ?_; repeat' ((first | (with_reducible refine Go1.go ?_) | (refine And.intro ?ob ?_; case ob => ((try simp only [sxO] at *); omega)) | fail) <;> (try simp (maxSteps := 1000000) only [hv1, hx1, hx2, cE_ment, cE_kill, hasK_nil, cE_len, Nat.mul_one, Nat.zero_add, ↓hold_pre, awayP, runOps, regK, step1, newK, genR, appR, obl, buildR, Value.cells, closeK, keepH, outV, retK, ret1, retC, RetV, Option.getD, runD, stepD, afterK, undef, simprocAttr, sxB, ↓sxD, sxE, sxTab]))
    exact hk
  · have d1 : decide ((1 : Int) = (L.length : Int)) = false := by rw [decide_eq_false_iff_not]; omega
    have d2 : decide (((1 : Nat) : Int) = (L.length : Int)) = false := by rw [decide_eq_false_iff_not]; omega
    refine Go1.mk ?_; repeat' ((first | (with_reducible refine Go1.go ?_) | (refine And.intro ?ob ?_; case ob => ((try simp only [sxO] at *); omega)) | fail) <;> (try simp (maxSteps := 1000000) only [d1, d2, hv1, hx1, hx2, cE_ment, cE_kill, hasK_nil, cE_len, Nat.mul_one, Nat.zero_add, ↓hold_pre, awayP, runOps, regK, step1, newK, genR, appR, obl, buildR, Value.cells, closeK, keepH, outV, retK, ret1, retC, RetV, Option.getD, runD, stepD, afterK, undef, simprocAttr, sxB, ↓sxD, sxE, sxTab]))
    refine ⟨fun m z => ∃ M' i, m = L.length - i ∧ i ≤ L.length ∧ Mem.le M M' ∧ z = alSt1 M' v w1 w2 L.length o i,
      ⟨L.length, alSt1 M v w1 w2 L.length o 0, le_sub ⟨rfl, rfl, rfl, rfl, trivial⟩ ⟨rfl, rfl, rfl, trivial⟩ rfl rfl rfl (keepLt_of rfl), ⟨M, 0, by omega, by omega, Mem.le.refl _, rfl⟩⟩, ?_⟩
    clear d1 d2
    rintro m z ⟨M2, i, rfl, hi, hM, rfl⟩
    have hB := hA.le hM
    by_cases hlt2 : i < L.length
    case neg =>
      obtain rfl : i = L.length := by omega
      have d2 : decide ((L.length : Int) < (L.length : Int)) = false := by simp
      have hk := hK M2 hM
      refine Go1.mk ?_; repeat' ((first | (with_reducible refine Go1.go ?_) | (refine And.intro ?ob ?_; case ob => ((try simp only [sxO] at *); omega)) | fail) <;> (try simp (maxSteps := 1000000) only [alSt1, d2, hv1, hx1, hx2, cE_ment, cE_kill, hasK_nil, cE_len, Nat.mul_one, Nat.zero_add, ↓hold_pre, awayP, runOps, regK, step1, newK, genR, appR, obl, buildR, Value.cells, closeK, keepH, outV, retK, ret1, retC, RetV, Option.getD, runD, stepD, afterK, undef, simprocAttr, sxB, ↓sxD, sxE, sxTab]))
      exact hk
    have d2 : decide ((i : Int) < (L.length : Int)) = true := by rw [decide_eq_true_eq]; omega
    have wi : IntKind.i64.wrap ((i : Int) + 1) = ((i + 1 : Nat) : Int) := succ_i (by omega)
    have htk : (cE intV64 o).take 1 = cE intV64 o := List.take_of_length_le (by rw [cE_len]; omega)
    have hao : allOne (cE intV64 o) = True := eq_true (allOne_cE intV64 (fun _ => rfl) o)
    have hsn : cE intV64 o ++ [AV.ext (.int .i64 (i : Int))] = cE intV64 (o ++ [(i : Int)]) := cE_snoc intV64 o (i : Int)
    cases hci : o.contains (i : Int) with
    | true =>
      refine Go1.mk ?_; repeat' ((first | (with_reducible refine Go1.go ?_) | ((with_reducible refine isCall (f := 46) ?_); refine callA ?_) | ((with_reducible refine isCallS (f := 46) ?_); refine (hasInt_bor hlo.symm (by omega) (Stop.mk ?_))) | (refine And.intro ?ob ?_; case ob => ((try simp only [sxO] at *); omega)) | fail) <;> (try simp (maxSteps := 1000000) only [alSt1, d2, hv1, hx1, hx2, hlo, cE_ment, cE_kill, hasK_nil, cE_len, Nat.mul_one, Nat.zero_add, ↓hold_pre, awayP, runOps, regK, step1, newK, genR, appR, obl, buildR, Value.cells, closeK, keepH, outV, retK, ret1, retC, RetV, Option.getD, runD, stepD, afterK, undef, simprocAttr, sxB, ↓sxD, sxE, sxTab]))
      refine Stop.go ?_
      refine Go1.mk ?_; repeat' ((first | (with_reducible refine Go1.go ?_) | (refine And.intro ?ob ?_; case ob => ((try simp only [sxO] at *); omega)) | fail) <;> (try simp (maxSteps := 1000000) only [hci, wi, hv1, hx1, hx2, cE_ment, cE_kill, hasK_nil, cE_len, Nat.mul_one, Nat.zero_add, ↓hold_pre, awayP, runOps, regK, step1, newK, genR, appR, obl, buildR, Value.cells, closeK, keepH, outV, retK, ret1, retC, RetV, Option.getD, runD, stepD, afterK, undef, simprocAttr, sxB, ↓sxD, sxE, sxTab]))
      exact ⟨L.length - (i + 1), alSt1 M2 v w1 w2 L.length o (i + 1), by omega, le_sub ⟨rfl, rfl, rfl, rfl, trivial⟩ ⟨rfl, rfl, rfl, trivial⟩ rfl rfl rfl (keepLt_of rfl), M2, i + 1, rfl, by omega, hM, rfl⟩
    | false =>
      have hN := hB.next hlt2 hci
      refine Go1.mk ?_; repeat' ((first | (with_reducible refine Go1.go ?_) | ((with_reducible refine isCall (f := 46) ?_); refine callA ?_) | ((with_reducible refine isCallS (f := 46) ?_); refine (hasInt_bor hlo.symm (by omega) (Stop.mk ?_))) | (refine And.intro ?ob ?_; case ob => ((try simp only [sxO] at *); omega)) | fail) <;> (try simp (maxSteps := 1000000) only [alSt1, d2, hv1, hx1, hx2, hlo, cE_ment, cE_kill, hasK_nil, cE_len, Nat.mul_one, Nat.zero_add, ↓hold_pre, awayP, runOps, regK, step1, newK, genR, appR, obl, buildR, Value.cells, closeK, keepH, outV, retK, ret1, retC, RetV, Option.getD, runD, stepD, afterK, undef, simprocAttr, sxB, ↓sxD, sxE, sxTab]))
      refine Stop.go ?_
      refine Go1.mk ?_; repeat' ((first | (with_reducible refine Go1.go ?_) | ((with_reducible refine isCall (f := 16) ?_); refine callA ?_) | ((with_reducible refine isCallS (f := 16) ?_); refine (all2_ok (o := (o ++ [(i : Int)])) hN (fun M3 c3 => Stop.mk ?_))) | (refine And.intro ?ob ?_; case ob => ((try simp only [sxO] at *); omega)) | fail) <;> (try simp (maxSteps := 1000000) only [hci, htk, hao, hsn, hv1, hx1, hx2, hlo, cE_ment, cE_kill, hasK_nil, cE_len, Nat.mul_one, Nat.zero_add, ↓hold_pre, awayP, runOps, regK, step1, newK, genR, appR, obl, buildR, Value.cells, closeK, keepH, outV, retK, ret1, retC, RetV, Option.getD, runD, stepD, afterK, undef, simprocAttr, sxB, ↓sxD, sxE, sxTab]))
      have c3 : Mem.le M2 M3 := c3
      refine Stop.go ?_
      refine Go1.mk ?_; repeat' ((first | (with_reducible refine Go1.go ?_) | (refine And.intro ?ob ?_; case ob => ((try simp only [sxO] at *); omega)) | fail) <;> (try simp (maxSteps := 1000000) only [wi, hv1, hx1, hx2, cE_ment, cE_kill, hasK_nil, cE_len, Nat.mul_one, Nat.zero_add, ↓hold_pre, awayP, runOps, regK, step1, newK, genR, appR, obl, buildR, Value.cells, closeK, keepH, outV, retK, ret1, retC, RetV, Option.getD, runD, stepD, afterK, undef, simprocAttr, sxB, ↓sxD, sxE, sxTab]))
      exact ⟨L.length - (i + 1), alSt1 M3 v w1 w2 L.length o (i + 1), by omega, le_sub ⟨rfl, rfl, rfl, rfl, trivial⟩ ⟨rfl, rfl, rfl, trivial⟩ rfl rfl rfl (keepLt_of rfl), M3, i + 1, rfl, by omega, hM.trans c3, rfl⟩
theorem fall0_ok {v w1 w2 : Value} {L : List IR} {Z : List Nat} (hA : AllK M v w1 w2 L Z [] 0) (hl : L.length = 0) (hK : ∀ M', Mem.le M M' → K (.ext (.bool true)) [(28, 34, [.ext w1, .ext w2]), (25, 26, [.ext v])] M') :
    CallS Try.prog 17 [.ext (.slice none 0 0), .own 25 0, .own 28 0] [(28, 34, [.ext w1, .ext w2]), (25, 26, [.ext v])] M [] K := by
  refine inlS (cs := []) Try.mixed Try.func17 rfl (by kernel_rfl) 10000 rfl rfl ?_
  simp only [Try.f17]
  have hb := hA.len
  have hv1 := hA.hv.one
  have hx1 := hA.x1.one
  have hx2 := hA.x2.one
  have hE := errO_nd hA.chk (by rw [hA.len, hl]) hA.nd hA.rng
  refine Go1.mk ?_; repeat' ((first | (with_reducible refine Go1.go ?_) | (((with_reducible refine isCall (f := 12) ?_); refine callA_nil (by kernel_rfl) ?_; refine (oloss_ok hA.hv hA.ok (by omega) (isL_nil M intV64 0) (by simp) (fun y1 y2 M1 c1 e1 e2 _ _ => Stop.mk ?_)))) | (refine And.intro ?ob ?_; case ob => ((try simp only [sxO] at *); omega)) | fail) <;> (try simp (maxSteps := 1000000) only [hv1, hx1, hx2, cE_ment, cE_kill, hasK_nil, cE_len, Nat.mul_one, Nat.zero_add, ↓hold_pre, awayP, runOps, regK, step1, newK, genR, appR, obl, buildR, Value.cells, closeK, keepH, outV, retK, ret1, retC, RetV, Option.getD, runD, stepD, afterK, undef, simprocAttr, sxB, ↓sxD, sxE, sxTab]))
  have c1 : Mem.le M M1 := c1
  have hB := hA.le c1
  have x1 := hB.x1
  have x2 := hB.x2
  have hcmp := los_least hB.ok hA.chk hA.ord hE
  have hEz := ordS_err hA.chk hA.ord
  obtain ⟨z1, z2⟩ := losP_len hB.ok hEz
  obtain ⟨g1, g2⟩ := losP_len hB.ok hE
  have e1 : IsL M1 u32V y1 (ofN (losP L []).1) := e1
  have e2 : IsL M1 u32V y2 (ofN (losP L []).2) := e2
  have k3 := decide_eq_true hcmp
  refine Stop.go ?_
  refine Go1.mk ?_; repeat' ((first | (with_reducible refine Go1.go ?_) | (((with_reducible refine isCall (f := 14) ?_); refine callA_nil (by kernel_rfl) ?_; refine (fcmp_ok ⟨x1, x2, okN_ofN _, okN_ofN _, by omega, by omega⟩ ⟨e1, e2, okN_ofN _, okN_ofN _, by omega, by omega⟩ (fun M2 c2 => Stop.mk ?_)))) | (refine And.intro ?ob ?_; case ob => ((try simp only [sxO] at *); omega)) | fail) <;> (try simp (maxSteps := 1000000) only [hE, x1.one, x2.one, e1.one, e2.one, cE_ment, cE_kill, hasK_nil, cE_len, Nat.mul_one, Nat.zero_add, ↓hold_pre, awayP, runOps, regK, step1, newK, genR, appR, obl, buildR, Value.cells, closeK, keepH, outV, retK, ret1, retC, RetV, Option.getD, runD, stepD, afterK, undef, simprocAttr, sxB, ↓sxD, sxE, sxTab]))
  have hk := hK M2 (c1.trans c2)
  refine Stop.go ?_
  refine Go1.mk ?_; repeat' ((first | (with_reducible refine Go1.go ?_) | (refine And.intro ?ob ?_; case ob => ((try simp only [sxO] at *); omega)) | fail) <;> (try simp (maxSteps := 1000000) only [k3, cE_ment, cE_kill, hasK_nil, cE_len, Nat.mul_one, Nat.zero_add, ↓hold_pre, awayP, runOps, regK, step1, newK, genR, appR, obl, buildR, Value.cells, closeK, keepH, outV, retK, ret1, retC, RetV, Option.getD, runD, stepD, afterK, undef, simprocAttr, sxB, ↓sxD, sxE, sxTab]))
  exact hk
def alSt0 (M : Mem) (v w1 w2 : Value) (N : Nat) (i : Nat) : St := { env := [(7, .ext (.int .i64 (i : Int))), (2, .fn 17 [.own 25 0, .own 28 0]), (1, .ext (.slice none 0 0)), (0, .ext (.int .i64 (N : Int)))], hp := [(28, 34, [.ext w1, .ext w2]), (25, 26, [.ext v])], M := M, kb := 1000, fx := [28, 25] }
theorem all0_ok {v w1 w2 : Value} {L : List IR} {Z : List Nat} (hA : AllK M v w1 w2 L Z [] 0) (hK : ∀ M', Mem.le M M' → K (.ext (.bool true)) [(28, 34, [.ext w1, .ext w2]), (25, 26, [.ext v])] M') :
    CallS Try.prog 16 [.ext (.int .i64 (L.length : Int)), .ext (.slice none 0 0), .fn 17 [.own 25 0, .own 28 0]] [(28, 34, [.ext w1, .ext w2]), (25, 26, [.ext v])] M [] K := by
  refine inlS (cs := []) Try.mixed Try.func16 rfl (by kernel_rfl) 1000 rfl rfl ?_
  simp only [Try.f16]
  have h5 := hA.fit
  have hlt := hA.lt
  have hlo := hA.len
  have hv1 := hA.hv.one
  have hx1 := hA.x1.one
  have hx2 := hA.x2.one
  by_cases hl : L.length = 0
  · have d1 : decide ((0 : Int) = (L.length : Int)) = true := by rw [decide_eq_true_eq]; omega
    have d2 : decide (((0 : Nat) : Int) = (L.length : Int)) = true := by rw [decide_eq_true_eq]; omega
    refine Go1.mk ?_; repeat' ((first | (with_reducible refine Go1.go ?_) | ((with_reducible refine isCall (f := 17) ?_); refine callA ?_) | ((with_reducible refine isCallS (f := 17) ?_); refine (fall0_ok hA hl (fun M1 c1 => Stop.mk ?_))) | (refine And.intro ?ob ?_; case ob => ((try simp only [sxO] at *); omega)) | fail) <;> (try simp (maxSteps := 1000000) only [d1, d2, hv1, hx1, hx2, cE_ment, cE_kill, hasK_nil, cE_len, Nat.mul_one, Nat.zero_add, ↓hold_pre, awayP, runOps, regK, step1, newK, genR, appR, obl, buildR, Value.cells, closeK, keepH, outV, retK, ret1, retC, RetV, Option.getD, runD, stepD, afterK, undef, simprocAttr, sxB, ↓sxD, sxE, sxTab]))
    have hk := hK M1 c1
    refine Stop.go ?_
    refine Go1.mk ?_; repeat' ((first | (with_reducible refine Go1.go ?_) | (refine And.intro ?ob ?_; case ob => ((try simp only [sxO] at *); omega)) | fail) <;> (try simp (maxSteps := 1000000) only [hv1, hx1, hx2, cE_ment, cE_kill, hasK_nil, cE_len, Nat.mul_one, Nat.zero_add, ↓hold_pre, awayP, runOps, regK, step1, newK, genR, appR, obl, buildR, Value.cells, closeK, keepH, outV, retK, ret1, retC, RetV, Option.getD, runD, stepD, afterK, undef, simprocAttr, sxB, ↓sxD, sxE, sxTab]))
    exact hk
  · have d1 : decide ((0 : Int) = (L.length : Int)) = false := by rw [decide_eq_false_iff_not]; omega
    have d2 : decide (((0 : Nat) : Int) = (L.length : Int)) = false := by rw [decide_eq_false_iff_not]; omega
    refine Go1.mk ?_; repeat' ((first | (with_reducible refine Go1.go ?_) | (refine And.intro ?ob ?_; case ob => ((try simp only [sxO] at *); omega)) | fail) <;> (try simp (maxSteps := 1000000) only [d1, d2, hv1, hx1, hx2, cE_ment, cE_kill, hasK_nil, cE_len, Nat.mul_one, Nat.zero_add, ↓hold_pre, awayP, runOps, regK, step1, newK, genR, appR, obl, buildR, Value.cells, closeK, keepH, outV, retK, ret1, retC, RetV, Option.getD, runD, stepD, afterK, undef, simprocAttr, sxB, ↓sxD, sxE, sxTab]))
    refine ⟨fun m z => ∃ M' i, m = L.length - i ∧ i ≤ L.length ∧ Mem.le M M' ∧ z = alSt0 M' v w1 w2 L.length i,
      ⟨L.length, alSt0 M v w1 w2 L.length 0, le_sub ⟨rfl, rfl, rfl, rfl, trivial⟩ ⟨rfl, rfl, trivial⟩ rfl rfl rfl (keepLt_of rfl), ⟨M, 0, by omega, by omega, Mem.le.refl _, rfl⟩⟩, ?_⟩
    clear d1 d2
    rintro m z ⟨M2, i, rfl, hi, hM, rfl⟩
    have hB := hA.le hM
    by_cases hlt2 : i < L.length
    case neg =>
      obtain rfl : i = L.length := by omega
      have d2 : decide ((L.length : Int) < (L.length : Int)) = false := by simp
      have hk := hK M2 hM
      refine Go1.mk ?_; repeat' ((first | (with_reducible refine Go1.go ?_) | (refine And.intro ?ob ?_; case ob => ((try simp only [sxO] at *); omega)) | fail) <;> (try simp (maxSteps := 1000000) only [alSt0, d2, hv1, hx1, hx2, cE_ment, cE_kill, hasK_nil, cE_len, Nat.mul_one, Nat.zero_add, ↓hold_pre, awayP, runOps, regK, step1, newK, genR, appR, obl, buildR, Value.cells, closeK, keepH, outV, retK, ret1, retC, RetV, Option.getD, runD, stepD, afterK, undef, simprocAttr, sxB, ↓sxD, sxE, sxTab]))
      exact hk
    have d2 : decide ((i : Int) < (L.length : Int)) = true := by rw [decide_eq_true_eq]; omega
    have wi : IntKind.i64.wrap ((i : Int) + 1) = ((i + 1 : Nat) : Int) := succ_i (by omega)
    have hsn : [AV.ext (.int .i64 (i : Int))] = cE intV64 [(i : Int)] := rfl
    have hN := hB.next hlt2 rfl
    refine Go1.mk ?_; repeat' ((first | (with_reducible refine Go1.go ?_) | (((with_reducible refine isCall (f := 46) ?_); refine callA_nil (by kernel_rfl) ?_; refine (hasInt_ok (.slice none 0 0) [] (i : Int) (isL_nil M2 intV64 0) (by simp) (Stop.mk ?_)))) | (refine And.intro ?ob ?_; case ob => ((try simp only [sxO] at *); omega)) | fail) <;> (try simp (maxSteps := 1000000) only [alSt0, d2, hv1, hx1, hx2, cE_ment, cE_kill, hasK_nil, cE_len, Nat.mul_one, Nat.zero_add, ↓hold_pre, awayP, runOps, regK, step1, newK, genR, appR, obl, buildR, Value.cells, closeK, keepH, outV, retK, ret1, retC, RetV, Option.getD, runD, stepD, afterK, undef, simprocAttr, sxB, ↓sxD, sxE, sxTab]))
    refine Stop.go ?_
    refine Go1.mk ?_; repeat' ((first | (with_reducible refine Go1.go ?_) | ((with_reducible refine isCall (f := 16) ?_); refine callA ?_) | ((with_reducible refine isCallS (f := 16) ?_); refine (all1_ok (o := [(i : Int)]) hN (fun M3 c3 => Stop.mk ?_))) | (refine And.intro ?ob ?_; case ob => ((try simp only [sxO] at *); omega)) | fail) <;> (try simp (maxSteps := 1000000) only [List.contains_nil, hv1, hx1, hx2, cE_ment, cE_kill, hasK_nil, cE_len, Nat.mul_one, Nat.zero_add, ↓hold_pre, awayP, runOps, regK, step1, newK, genR, appR, obl, buildR, Value.cells, closeK, keepH, outV, retK, ret1, retC, RetV, Option.getD, runD, stepD, afterK, undef, simprocAttr, sxB, ↓sxD, sxE, sxTab]))
    have c3 : Mem.le M2 M3 := c3
    refine Stop.go ?_
    refine Go1.mk ?_; repeat' ((first | (with_reducible refine Go1.go ?_) | (refine And.intro ?ob ?_; case ob => ((try simp only [sxO] at *); omega)) | fail) <;> (try simp (maxSteps := 1000000) only [wi, hv1, hx1, hx2, cE_ment, cE_kill, hasK_nil, cE_len, Nat.mul_one, Nat.zero_add, ↓hold_pre, awayP, runOps, regK, step1, newK, genR, appR, obl, buildR, Value.cells, closeK, keepH, outV, retK, ret1, retC, RetV, Option.getD, runD, stepD, afterK, undef, simprocAttr, sxB, ↓sxD, sxE, sxTab]))
    exact ⟨L.length - (i + 1), alSt0 M3 v w1 w2 L.length (i + 1), by omega, le_sub ⟨rfl, rfl, rfl, rfl, trivial⟩ ⟨rfl, rfl, trivial⟩ rfl rfl rfl (keepLt_of rfl), M3, i + 1, rfl, by omega, hM.trans c3, rfl⟩
theorem all29_ok (u : Value) (l : List Int) (hu : IsL M intV64 u l) (hK : ∀ M', Mem.le M M' → K (.ext (.bool true)) [] M') : CallS Try.prog 4 [.ext u] [] M [] K := by
  refine inlS (cs := []) Try.mixed Try.func4 rfl (by kernel_rfl) 22 rfl rfl ?_
  simp only [Try.f4]
  refine Go1.mk ?_; repeat' ((first | (with_reducible refine Go1.go ?_) | ((with_reducible refine isCall (f := 10) ?_); refine callA ?_) | ((with_reducible refine isCallS (f := 10) ?_); refine (items31_ok u l 0 5 hu (by omega) (by omega) (fun v L M1 p1 m1 hv hL fv ll lp => Stop.mk ?_))) | (refine And.intro ?ob ?_; case ob => ((try simp only [sxO] at *); omega)) | fail) <;> (try simp (maxSteps := 1000000) only [hu.one, hasK_nil, ↓hold_pre, awayP, runOps, regK, step1, newK, genR, appR, obl, buildR, Value.cells, closeK, keepH, outV, retK, ret1, retC, RetV, Option.getD, runD, stepD, afterK, undef, simprocAttr, sxB, ↓sxD, sxE, sxTab]))
  have m1 : Mem.le M M1 := m1
  have okL : okIL M1 L := fun x hx => (hL x hx).ok
  have hc := chkIL_of hL (by omega)
  have he := ordE_of hc
  refine Stop.go ?_
  refine Go1.mk ?_; repeat' ((first | (with_reducible refine Go1.go ?_) | (((with_reducible refine isCall (f := 11) ?_); refine callA_nil (by kernel_rfl) ?_; refine (order_ok hv okL (by omega) (fun v1 Z M2 a1 a2 a3 a4 => Stop.mk ?_)))) | (refine And.intro ?ob ?_; case ob => ((try simp only [sxO] at *); omega)) | fail) <;> (try simp (maxSteps := 1000000) only [hv.one, hasK_nil, ↓hold_pre, awayP, runOps, regK, step1, newK, genR, appR, obl, buildR, Value.cells, closeK, keepH, outV, retK, ret1, retC, RetV, Option.getD, runD, stepD, afterK, undef, simprocAttr, sxB, ↓sxD, sxE, sxTab]))
  have a1 : Mem.le M1 M2 := a1
  have m2 := m1.trans a1
  have hv2 := hv.le a1
  have okL2 := okL.le a1
  have a5 : IsL M2 intV64 v1 (toI Z) := a3.nat
  have hZl := ordS_len hc a2
  have hEz := ordS_err hc a2
  have hlz : (toI Z).length < 1000000 := by rw [toI_len]; omega
  refine Stop.go ?_
  refine Go1.mk ?_; repeat' ((first | (with_reducible refine Go1.go ?_) | (((with_reducible refine isCall (f := 12) ?_); refine callA_nil (by kernel_rfl) ?_; refine (oloss_ok hv2 okL2 (by omega) a5 hlz (fun w1 w2 M3 c1 c2 c3 _ _ => Stop.mk ?_)))) | (refine And.intro ?ob ?_; case ob => ((try simp only [sxO] at *); omega)) | fail) <;> (try simp (maxSteps := 1000000) only [he, hv2.one, a5.one, hasK_nil, ↓hold_pre, awayP, runOps, regK, step1, newK, genR, appR, obl, buildR, Value.cells, closeK, keepH, outV, retK, ret1, retC, RetV, Option.getD, runD, stepD, afterK, undef, simprocAttr, sxB, ↓sxD, sxE, sxTab]))
  have c1 : Mem.le M2 M3 := c1
  have m3 := m2.trans c1
  have hv3 := hv2.le c1
  have okL3 := okL2.le c1
  have hA : AllK M3 v w1 w2 L Z [] 0 := ⟨hv3, okL3, hc, a2, c2, c3, rfl, List.nodup_nil, fun x hx => (by cases hx), ll⟩
  refine Stop.go ?_
  refine Go1.mk ?_; repeat' ((first | (with_reducible refine Go1.go ?_) | ((with_reducible refine isCall (f := 16) ?_); refine callA ?_) | ((with_reducible refine isCallS (f := 16) ?_); refine (all0_ok hA (fun M4 c4 => Stop.mk ?_))) | (refine And.intro ?ob ?_; case ob => ((try simp only [sxO] at *); omega)) | fail) <;> (try simp (maxSteps := 1000000) only [hEz, hv3.one, hv3.len, hv3.sl, c2.one, c3.one, hasK_nil, ↓hold_pre, awayP, runOps, regK, step1, newK, genR, appR, obl, buildR, Value.cells, closeK, keepH, outV, retK, ret1, retC, RetV, Option.getD, runD, stepD, afterK, undef, simprocAttr, sxB, ↓sxD, sxE, sxTab]))
  have c4 : Mem.le M3 M4 := c4
  refine Stop.go ?_
  refine Go1.mk ?_; repeat' ((first | (with_reducible refine Go1.go ?_) | (((with_reducible refine isCall (f := 15) ?_); refine callA_nil (by kernel_rfl) ?_; refine (known29_ok (fun M5 c5 => Stop.mk ?_)))) | (refine And.intro ?ob ?_; case ob => ((try simp only [sxO] at *); omega)) | fail) <;> (try simp (maxSteps := 1000000) only [hv3.one, c2.one, c3.one, hasK_nil, ↓hold_pre, awayP, runOps, regK, step1, newK, genR, appR, obl, buildR, Value.cells, closeK, keepH, outV, retK, ret1, retC, RetV, Option.getD, runD, stepD, afterK, undef, simprocAttr, sxB, ↓sxD, sxE, sxTab]))
  have hk := hK M5 (m3.trans (c4.trans c5))
  refine Stop.go ?_
  refine Go1.mk ?_; repeat' ((first | (with_reducible refine Go1.go ?_) | (refine And.intro ?ob ?_; case ob => ((try simp only [sxO] at *); omega)) | fail) <;> (try simp (maxSteps := 1000000) only [hasK_nil, ↓hold_pre, awayP, runOps, regK, step1, newK, genR, appR, obl, buildR, Value.cells, closeK, keepH, outV, retK, ret1, retC, RetV, Option.getD, runD, stepD, afterK, undef, simprocAttr, sxB, ↓sxD, sxE, sxTab]))
  exact hk
end
end Go.Proofs.Ytjapnklocibgaaa.Sx
