/- Part 35 of the texts of this claim: a symbolic executor and contracts of functions. -/
import Derived.Test.YtjapnklocibgaaaOLsRP1
namespace Go.Proofs.Ytjapnklocibgaaa.Sx
open Go Go.RowKit
set_option linter.unusedVariables false
set_option linter.unusedSimpArgs false
set_option maxRecDepth 100000
set_option maxHeartbeats 8000000
attribute [local congr] fin_congr finG_congr stepG_congr step1_congr runOps_congr brv_congr obl_congr condK_congr LoopK_congr seqK_congr CutK_congr vc_congr DrawK_congr regK_congr CallK_congr AskK_congr newK_congr retC_congr ret1_congr retK_congr outV_congr closeK_congr genR_congr appR_congr finD_congr finGD_congr stepGD_congr stepD_congr CallK0_congr runD_congr okR_congr CallS_congr vcX_congr
attribute [local congr] Stop_congr
section
variable {M : Mem} {K : AV → Hp → Mem → Prop} (ul : Value) (nr : Nat) (R : List FR) {c : Nat → Nat → Int}
def so_mcSt (M : Mem) (ul : Value) (nr : Nat) (R : List FR) (N : Nat) (D : List Nat) (m i j : Nat) : St := { env := [(14, .ext (.int .i64 (i : Int))), (15, .ext (.int .i64 (j : Int))), (4, .fn 38 [.own 1 0, .own 4 0]), (2, .ext (.int .i64 (m : Int))), (0, .slo 114 0 N 1)], hp := [(114, 3, cE natV (D)), (1, 26, [.ext ul]), (4, 66, [.slo 12 0 nr 2]), (12, 34, frC R)], M := M, kb := 200, fx := [114, 1, 4, 12] }
def so_mdSt (M : Mem) (ul : Value) (nr : Nat) (R : List FR) (N : Nat) (D : List Nat) (i k : Nat) : St := { env := [(17, .ext (.int .i64 (k : Int))), (14, .ext (.int .i64 (i : Int))), (0, .slo 114 0 N 1)], hp := [(114, 3, cE natV (D)), (1, 26, [.ext ul]), (4, 66, [.slo 12 0 nr 2]), (12, 34, frC R)], M := M, kb := 200, fx := [114, 1, 4, 12] }
theorem mrgB_ok (ho : CmpO c) (NN : Nat) (hc : CmpK M ul nr R c NN) (A X Y B D : List Nat) (a m b N : Nat) (hD : D = A ++ X ++ Y ++ B) (ha : a = A.length) (hm : m = A.length + X.length) (hb : b = A.length + X.length + Y.length) (hX : 1 < X.length) (hY : Y.length = 1) (hx : X.Pairwise (ltS c)) (hy : Y.Pairwise (ltS c)) (hxy : ∀ x ∈ X, ∀ y ∈ Y, x < y) (hNN : ∀ x ∈ X ++ Y, x < NN) (hN : D.length = N) (hN2 : N < 1000000)
    (hK : ∀ Z M', Mem.le M M' → Z.Perm (X ++ Y) → Z.Pairwise (ltS c) → K (.ext (.tuple #[])) [(114, 3, cE natV (A ++ Z ++ B)), (1, 26, [.ext ul]), (4, 66, [.slo 12 0 nr 2]), (12, 34, frC R)] M') :
    CallS Try.prog 100 [.slo 114 0 N 1, .ext (.int .i64 (a : Int)), .ext (.int .i64 (m : Int)), .ext (.int .i64 (b : Int)), .fn 38 [.own 1 0, .own 4 0]] [(114, 3, cE natV (D)), (1, 26, [.ext ul]), (4, 66, [.slo 12 0 nr 2]), (12, 34, frC R)] M [] K := by
  refine inlS (cs := []) Try.mixed Try.func100 rfl (by kernel_rfl) 200 rfl rfl ?_
  simp only [Try.f100]
  have hL := congrArg List.length hD
  simp only [List.length_append] at hL
  have w0 : IntKind.i64.wrap ((m : Int) - (a : Int)) = (X.length : Int) := by rw [wrap_id (by omega) (by omega)]; omega
  have w1 : IntKind.i64.wrap ((b : Int) - (m : Int)) = 1 := by rw [wrap_id (by omega) (by omega)]; omega
  have d0 : decide ((X.length : Int) = 1) = false := by rw [decide_eq_false_iff_not]; omega
  refine Go1.mk ?_; repeat' ((first | (with_reducible refine Go1.go ?_) | (refine And.intro ?_ ?_; (try simp only [sxO] at *); omega) | fail) <;> (try simp (maxSteps := 1000000) only [w0, w1, d0, natV, cE_ment, cE_kill, cE_len, hasK_nil, Nat.mul_one, List.length_set, frC_len, frC_ment, frC_kill, ↓hold_pre, awayP, runOps, regK, step1, newK, genR, appR, obl, buildR, Value.cells, closeK, keepH, outV, retK, ret1, retC, RetV, Option.getD, runD, stepD, afterK, undef, simprocAttr, sxB, ↓sxD, sxE, sxTab]))
  refine ⟨fun d z => ∃ M' i j, d = j - i ∧ Mem.le M M' ∧ a ≤ i ∧ i ≤ j ∧ j ≤ m ∧ (i = a ∨ ¬ c (nt D m) (nt D (i - 1)) < 0) ∧ (j = m ∨ c (nt D m) (nt D j) < 0) ∧ z = so_mcSt M' ul nr R N D m i j,
    ⟨m - a, so_mcSt M ul nr R N D m a m, le_sub ⟨rfl, rfl, rfl, rfl, rfl, trivial⟩ ⟨by first | rfl | simp [lkH], by first | rfl | simp [lkH], by first | rfl | simp [lkH], by first | rfl | simp [lkH], trivial⟩ rfl rfl rfl (by simp [keepLt, so_mcSt, lkH]), ⟨M, a, m, rfl, Mem.le.refl _, Nat.le_refl _, by omega, Nat.le_refl _, .inl rfl, .inl rfl, rfl⟩⟩, ?_⟩
  clear w1
  have hy0 : nt D m = nt Y 0 := nt_mid (A ++ X) Y B hD (by omega) (by rw [List.length_append]; omega)
  have hY0 : Y = [nt Y 0] := by
    rcases Y with _ | ⟨x, _ | ⟨y, Y⟩⟩
    · simp at hY
    · rfl
    · simp at hY
  rintro d z ⟨M1, i, j, rfl, hM1, hmi, hij, hjb, hI, hJ, rfl⟩
  by_cases hlt : i < j
  · have d1 : decide ((i : Int) < (j : Int)) = true := by rw [decide_eq_true_eq]; omega
    have w2 : IntKind.i64.wrap ((i : Int) + (j : Int)) = ((i + j : Nat) : Int) := by rw [wrap_id (by omega) (by omega)]; omega
    have w3 : IntKind.u64.wrap ((i + j : Nat) : Int) = ((i + j : Nat) : Int) := wrap64_id (by omega)
    have w4 := sh_one (i + j)
    have h1 := Nat.div_add_mod (i + j) 2
    have h2 := Nat.mod_lt (i + j) (show 0 < 2 by decide)
    obtain ⟨h, hh⟩ : ∃ h, h = (i + j) / 2 := ⟨_, rfl⟩
    rw [← hh] at w4 h1
    have w5 : IntKind.i64.wrap (h : Int) = (h : Int) := wrap_id (by omega) (by omega)
    have w6 : IntKind.u64.wrap (h : Int) = (h : Int) := wrap64_id (by omega)
    have w7 : IntKind.i64.wrap ((h : Int) + 1) = ((h + 1 : Nat) : Int) := succ_i (by omega)
    have j1 : (0 : Int) ≤ (h : Int) := by omega
    have j2 : (h : Int) < (N : Int) := by omega
    have j3 : (0 : Int) ≤ (m : Int) := by omega
    have j4 : (m : Int) < (N : Int) := by omega
    have n1 := nt_at (D := D) (i := h) (by omega)
    have n2 := nt_at (D := D) (i := m) (by omega)
    have hxh : nt D h = nt X (h - a) := nt_mid A X (Y ++ B) (by rw [hD]; simp) (by omega) (by omega)
    have b1 : nt D h < NN := hNN _ (by rw [hxh]; exact List.mem_append_left _ (nt_in (by omega)))
    have b2 : nt D m < NN := hNN _ (by rw [hy0]; exact List.mem_append_right _ (nt_in (by omega)))
    refine Go1.mk ?_; repeat' ((first | (with_reducible refine Go1.go ?_) | ((with_reducible refine isCall0 (f := 38) ?_); refine callA0 ?_) | ((with_reducible refine isCallS (f := 38) ?_); refine (hc (nt D m) (nt D h) _ _ b2 b1 hM1 (fun M2 m2 => Stop.mk ?_))) | ((with_reducible refine isDraw [some 40, some 41, some 42, some 43, some 44, some 45, some 46, some 47, some 48, some 49, some 50] (by decide) ?_); refine draw_rule [(0, []), (1, []), (2, []), (3, []), (4, []), (5, [4]), (6, [4]), (7, [4]), (8, [4]), (9, []), (10, [])] [[], [], [], [1, 2], [1, 2, 3], [], [], [5, 6], [5, 6, 7], [0, 1, 2, 3, 4, 5, 6, 7, 8], [0, 1, 2, 3, 4, 5, 6, 7, 8, 9]] [40, 41, 42, 43, 44, 45, 46, 47, 48] [] (by kernel_rfl) (by kernel_rfl) (by kernel_rfl) (by kernel_rfl) (by exact trivial) ?_) | ((with_reducible refine isDraw [some 61, some 62, some 63, some 64, some 65, some 66, some 67, some 68, some 69, some 70, some 71, some 72, some 73, some 74, some 75, none, some 76, none] (by decide) ?_); refine draw_rule [(0, []), (1, []), (2, []), (3, []), (4, []), (5, []), (6, []), (7, []), (8, []), (9, []), (10, [9]), (11, [9]), (12, [9]), (13, [9]), (14, []), (15, []), (16, []), (17, [])] [[], [], [], [], [3], [], [], [6], [5, 6, 7], [5, 6, 7, 8], [], [], [10, 11], [10, 11, 12], [0, 1, 5, 6, 7, 8, 9, 10, 11, 12, 13], [0, 1, 5, 6, 7, 8, 9, 10, 11, 12, 13, 14], [0, 1, 2, 3, 4, 5, 6, 7, 8, 9, 10, 11, 12, 13, 14, 15], [0, 1, 2, 3, 4, 5, 6, 7, 8, 9, 10, 11, 12, 13, 14, 15, 16]] [61, 62, 63, 64, 65, 66, 67, 68, 69, 70, 71, 72, 73, 74, 75] [] (by kernel_rfl) (by kernel_rfl) (by kernel_rfl) (by kernel_rfl) (by exact trivial) ?_) | ((with_reducible refine isDraw [some 92, some 93, some 94, some 95, some 96, some 97, some 98, some 99, some 100, some 101, some 102, some 103] (by decide) ?_); refine draw_rule [(0, []), (1, []), (2, []), (3, []), (4, []), (5, [4]), (6, [4]), (7, [4]), (8, [4]), (9, []), (10, []), (11, [])] [[], [], [], [1, 2], [1, 2, 3], [], [], [5, 6], [5, 6, 7], [0, 1, 2, 3, 4, 5, 6, 7, 8], [0, 1, 2, 3, 4, 5, 6, 7, 8, 9], [0, 1, 2, 3, 4, 5, 6, 7, 8, 9, 10]] [92, 93, 94, 95, 96, 97, 98, 99, 100] [] (by kernel_rfl) (by kernel_rfl) (by kernel_rfl) (by kernel_rfl) (by exact trivial) ?_) | ((with_reducible refine isDraw [some 113, some 114, some 115, some 116, some 117, some 118, some 119, some 120, some 121, some 122, some 123, some 124, some 125, some 126, some 127, none, some 128, none] (by decide) ?_); refine draw_rule [(0, []), (1, []), (2, []), (3, []), (4, []), (5, []), (6, []), (7, []), (8, []), (9, []), (10, [9]), (11, [9]), (12, [9]), (13, [9]), (14, []), (15, []), (16, []), (17, [])] [[], [], [], [], [3], [], [], [6], [5, 6, 7], [5, 6, 7, 8], [], [], [10, 11], [10, 11, 12], [0, 1, 5, 6, 7, 8, 9, 10, 11, 12, 13], [0, 1, 5, 6, 7, 8, 9, 10, 11, 12, 13, 14], [0, 1, 2, 3, 4, 5, 6, 7, 8, 9, 10, 11, 12, 13, 14, 15], [0, 1, 2, 3, 4, 5, 6, 7, 8, 9, 10, 11, 12, 13, 14, 15, 16]] [113, 114, 115, 116, 117, 118, 119, 120, 121, 122, 123, 124, 125, 126, 127] [] (by kernel_rfl) (by kernel_rfl) (by kernel_rfl) (by kernel_rfl) (by exact trivial) ?_) | ((with_reducible refine isDraw [some 158, some 159, some 160, some 161, some 162, some 163, some 164, some 165, some 166, some 167, some 168, some 169, some 170, some 171] (by decide) ?_); refine draw_rule [(0, []), (1, []), (2, []), (3, []), (4, []), (5, []), (6, []), (7, [6]), (8, [6]), (9, [6]), (10, [6]), (11, []), (12, []), (13, [])] [[], [], [], [], [2, 3], [1, 2, 3, 4], [1, 2, 3, 4, 5], [], [], [7, 8], [7, 8, 9], [0, 1, 2, 3, 4, 5, 6, 7, 8, 9, 10], [0, 1, 2, 3, 4, 5, 6, 7, 8, 9, 10, 11], [0, 1, 2, 3, 4, 5, 6, 7, 8, 9, 10, 11, 12]] [158, 159, 160, 161, 162, 163, 164, 165, 166, 167, 168] [] (by kernel_rfl) (by kernel_rfl) (by kernel_rfl) (by kernel_rfl) (by exact trivial) ?_) | (refine And.intro ?_ ?_; (try simp only [sxO] at *); omega) | fail) <;> (try simp (maxSteps := 1000000) only [so_mcSt, d1, w2, w3, w4, w5, w6, w7, n1, n2, j1, j2, j3, j4, natV, cE_ment, cE_kill, cE_len, hasK_nil, Nat.mul_one, List.length_set, frC_len, frC_ment, frC_kill, ↓hold_pre, awayP, runOps, regK, step1, newK, genR, appR, obl, buildR, Value.cells, closeK, keepH, outV, retK, ret1, retC, RetV, Option.getD, runD, stepD, afterK, undef, simprocAttr, sxB, ↓sxD, sxE, sxTab]))
    have m2 : Mem.le M1 M2 := m2
    have hM2 := hM1.trans m2
    by_cases hcc : c (nt D m) (nt D h) < 0
    · have d3 : decide (c (nt D m) (nt D h) < 0) = true := decide_eq_true hcc
      refine Stop.go ?_
      refine Go1.mk ?_; repeat' ((first | (with_reducible refine Go1.go ?_) | ((with_reducible refine isDraw [some 40, some 41, some 42, some 43, some 44, some 45, some 46, some 47, some 48, some 49, some 50] (by decide) ?_); refine draw_rule [(0, []), (1, []), (2, []), (3, []), (4, []), (5, [4]), (6, [4]), (7, [4]), (8, [4]), (9, []), (10, [])] [[], [], [], [1, 2], [1, 2, 3], [], [], [5, 6], [5, 6, 7], [0, 1, 2, 3, 4, 5, 6, 7, 8], [0, 1, 2, 3, 4, 5, 6, 7, 8, 9]] [40, 41, 42, 43, 44, 45, 46, 47, 48] [] (by kernel_rfl) (by kernel_rfl) (by kernel_rfl) (by kernel_rfl) (by exact trivial) ?_) | ((with_reducible refine isDraw [some 61, some 62, some 63, some 64, some 65, some 66, some 67, some 68, some 69, some 70, some 71, some 72, some 73, some 74, some 75, none, some 76, none] (by decide) ?_); refine draw_rule [(0, []), (1, []), (2, []), (3, []), (4, []), (5, []), (6, []), (7, []), (8, []), (9, []), (10, [9]), (11, [9]), (12, [9]), (13, [9]), (14, []), (15, []), (16, []), (17, [])] [[], [], [], [], [3], [], [], [6], [5, 6, 7], [5, 6, 7, 8], [], [], [10, 11], [10, 11, 12], [0, 1, 5, 6, 7, 8, 9, 10, 11, 12, 13], [0, 1, 5, 6, 7, 8, 9, 10, 11, 12, 13, 14], [0, 1, 2, 3, 4, 5, 6, 7, 8, 9, 10, 11, 12, 13, 14, 15], [0, 1, 2, 3, 4, 5, 6, 7, 8, 9, 10, 11, 12, 13, 14, 15, 16]] [61, 62, 63, 64, 65, 66, 67, 68, 69, 70, 71, 72, 73, 74, 75] [] (by kernel_rfl) (by kernel_rfl) (by kernel_rfl) (by kernel_rfl) (by exact trivial) ?_) | ((with_reducible refine isDraw [some 92, some 93, some 94, some 95, some 96, some 97, some 98, some 99, some 100, some 101, some 102, some 103] (by decide) ?_); refine draw_rule [(0, []), (1, []), (2, []), (3, []), (4, []), (5, [4]), (6, [4]), (7, [4]), (8, [4]), (9, []), (10, []), (11, [])] [[], [], [], [1, 2], [1, 2, 3], [], [], [5, 6], [5, 6, 7], [0, 1, 2, 3, 4, 5, 6, 7, 8], [0, 1, 2, 3, 4, 5, 6, 7, 8, 9], [0, 1, 2, 3, 4, 5, 6, 7, 8, 9, 10]] [92, 93, 94, 95, 96, 97, 98, 99, 100] [] (by kernel_rfl) (by kernel_rfl) (by kernel_rfl) (by kernel_rfl) (by exact trivial) ?_) | ((with_reducible refine isDraw [some 113, some 114, some 115, some 116, some 117, some 118, some 119, some 120, some 121, some 122, some 123, some 124, some 125, some 126, some 127, none, some 128, none] (by decide) ?_); refine draw_rule [(0, []), (1, []), (2, []), (3, []), (4, []), (5, []), (6, []), (7, []), (8, []), (9, []), (10, [9]), (11, [9]), (12, [9]), (13, [9]), (14, []), (15, []), (16, []), (17, [])] [[], [], [], [], [3], [], [], [6], [5, 6, 7], [5, 6, 7, 8], [], [], [10, 11], [10, 11, 12], [0, 1, 5, 6, 7, 8, 9, 10, 11, 12, 13], [0, 1, 5, 6, 7, 8, 9, 10, 11, 12, 13, 14], [0, 1, 2, 3, 4, 5, 6, 7, 8, 9, 10, 11, 12, 13, 14, 15], [0, 1, 2, 3, 4, 5, 6, 7, 8, 9, 10, 11, 12, 13, 14, 15, 16]] [113, 114, 115, 116, 117, 118, 119, 120, 121, 122, 123, 124, 125, 126, 127] [] (by kernel_rfl) (by kernel_rfl) (by kernel_rfl) (by kernel_rfl) (by exact trivial) ?_) | ((with_reducible refine isDraw [some 158, some 159, some 160, some 161, some 162, some 163, some 164, some 165, some 166, some 167, some 168, some 169, some 170, some 171] (by decide) ?_); refine draw_rule [(0, []), (1, []), (2, []), (3, []), (4, []), (5, []), (6, []), (7, [6]), (8, [6]), (9, [6]), (10, [6]), (11, []), (12, []), (13, [])] [[], [], [], [], [2, 3], [1, 2, 3, 4], [1, 2, 3, 4, 5], [], [], [7, 8], [7, 8, 9], [0, 1, 2, 3, 4, 5, 6, 7, 8, 9, 10], [0, 1, 2, 3, 4, 5, 6, 7, 8, 9, 10, 11], [0, 1, 2, 3, 4, 5, 6, 7, 8, 9, 10, 11, 12]] [158, 159, 160, 161, 162, 163, 164, 165, 166, 167, 168] [] (by kernel_rfl) (by kernel_rfl) (by kernel_rfl) (by kernel_rfl) (by exact trivial) ?_) | (refine And.intro ?_ ?_; (try simp only [sxO] at *); omega) | fail) <;> (try simp (maxSteps := 1000000) only [d3, w7, natV, cE_ment, cE_kill, cE_len, hasK_nil, Nat.mul_one, List.length_set, frC_len, frC_ment, frC_kill, ↓hold_pre, awayP, runOps, regK, step1, newK, genR, appR, obl, buildR, Value.cells, closeK, keepH, outV, retK, ret1, retC, RetV, Option.getD, runD, stepD, afterK, undef, simprocAttr, sxB, ↓sxD, sxE, sxTab]))
      exact ⟨h - i, so_mcSt M2 ul nr R N D m i h, by omega, le_sub ⟨rfl, rfl, rfl, rfl, rfl, trivial⟩ ⟨by first | rfl | simp [lkH], by first | rfl | simp [lkH], by first | rfl | simp [lkH], by first | rfl | simp [lkH], trivial⟩ rfl rfl rfl (by simp [keepLt, so_mcSt, lkH]), M2, i, h, rfl, hM2, hmi, by omega, by omega, hI, .inr hcc, rfl⟩
    · have d3 : decide (c (nt D m) (nt D h) < 0) = false := decide_eq_false hcc
      refine Stop.go ?_
      refine Go1.mk ?_; repeat' ((first | (with_reducible refine Go1.go ?_) | ((with_reducible refine isDraw [some 40, some 41, some 42, some 43, some 44, some 45, some 46, some 47, some 48, some 49, some 50] (by decide) ?_); refine draw_rule [(0, []), (1, []), (2, []), (3, []), (4, []), (5, [4]), (6, [4]), (7, [4]), (8, [4]), (9, []), (10, [])] [[], [], [], [1, 2], [1, 2, 3], [], [], [5, 6], [5, 6, 7], [0, 1, 2, 3, 4, 5, 6, 7, 8], [0, 1, 2, 3, 4, 5, 6, 7, 8, 9]] [40, 41, 42, 43, 44, 45, 46, 47, 48] [] (by kernel_rfl) (by kernel_rfl) (by kernel_rfl) (by kernel_rfl) (by exact trivial) ?_) | ((with_reducible refine isDraw [some 61, some 62, some 63, some 64, some 65, some 66, some 67, some 68, some 69, some 70, some 71, some 72, some 73, some 74, some 75, none, some 76, none] (by decide) ?_); refine draw_rule [(0, []), (1, []), (2, []), (3, []), (4, []), (5, []), (6, []), (7, []), (8, []), (9, []), (10, [9]), (11, [9]), (12, [9]), (13, [9]), (14, []), (15, []), (16, []), (17, [])] [[], [], [], [], [3], [], [], [6], [5, 6, 7], [5, 6, 7, 8], [], [], [10, 11], [10, 11, 12], [0, 1, 5, 6, 7, 8, 9, 10, 11, 12, 13], [0, 1, 5, 6, 7, 8, 9, 10, 11, 12, 13, 14], [0, 1, 2, 3, 4, 5, 6, 7, 8, 9, 10, 11, 12, 13, 14, 15], [0, 1, 2, 3, 4, 5, 6, 7, 8, 9, 10, 11, 12, 13, 14, 15, 16]] [61, 62, 63, 64, 65, 66, 67, 68, 69, 70, 71, 72, 73, 74, 75] [] (by kernel_rfl) (by kernel_rfl) (by kernel_rfl) (by kernel_rfl) (by exact trivial) ?_) | ((with_reducible refine isDraw [some 92, some 93, some 94, some 95, some 96, some 97, some 98, some 99, some 100, some 101, some 102, some 103] (by decide) ?_); refine draw_rule [(0, []), (1, []), (2, []), (3, []), (4, []), (5, [4]), (6, [4]), (7, [4]), (8, [4]), (9, []), (10, []), (11, [])] [[], [], [], [1, 2], [1, 2, 3], [], [], [5, 6], [5, 6, 7], [0, 1, 2, 3, 4, 5, 6, 7, 8], [0, 1, 2, 3, 4, 5, 6, 7, 8, 9], [0, 1, 2, 3, 4, 5, 6, 7, 8, 9, 10]] [92, 93, 94, 95, 96, 97, 98, 99, 100] [] (by kernel_rfl) (by kernel_rfl) (by kernel_rfl) (by kernel_rfl) (by exact trivial) ?_) | ((with_reducible refine isDraw [some 113, some 114, some 115, some 116, some 117, some 118, some 119, some 120, some 121, some 122, some 123, some 124, some 125, some 126, some 127, none, some 128, none] (by decide) ?_); refine draw_rule [(0, []), (1, []), (2, []), (3, []), (4, []), (5, []), (6, []), (7, []), (8, []), (9, []), (10, [9]), (11, [9]), (12, [9]), (13, [9]), (14, []), (15, []), (16, []), (17, [])] [[], [], [], [], [3], [], [], [6], [5, 6, 7], [5, 6, 7, 8], [], [], [10, 11], [10, 11, 12], [0, 1, 5, 6, 7, 8, 9, 10, 11, 12, 13], [0, 1, 5, 6, 7, 8, 9, 10, 11, 12, 13, 14], [0, 1, 2, 3, 4, 5, 6, 7, 8, 9, 10, 11, 12, 13, 14, 15], [0, 1, 2, 3, 4, 5, 6, 7, 8, 9, 10, 11, 12, 13, 14, 15, 16]] [113, 114, 115, 116, 117, 118, 119, 120, 121, 122, 123, 124, 125, 126, 127] [] (by kernel_rfl) (by kernel_rfl) (by kernel_rfl) (by kernel_rfl) (by exact trivial) ?_) | ((with_reducible refine isDraw [some 158, some 159, some 160, some 161, some 162, some 163, some 164, some 165, some 166, some 167, some 168, some 169, some 170, some 171] (by decide) ?_); refine draw_rule [(0, []), (1, []), (2, []), (3, []), (4, []), (5, []), (6, []), (7, [6]), (8, [6]), (9, [6]), (10, [6]), (11, []), (12, []), (13, [])] [[], [], [], [], [2, 3], [1, 2, 3, 4], [1, 2, 3, 4, 5], [], [], [7, 8], [7, 8, 9], [0, 1, 2, 3, 4, 5, 6, 7, 8, 9, 10], [0, 1, 2, 3, 4, 5, 6, 7, 8, 9, 10, 11], [0, 1, 2, 3, 4, 5, 6, 7, 8, 9, 10, 11, 12]] [158, 159, 160, 161, 162, 163, 164, 165, 166, 167, 168] [] (by kernel_rfl) (by kernel_rfl) (by kernel_rfl) (by kernel_rfl) (by exact trivial) ?_) | (refine And.intro ?_ ?_; (try simp only [sxO] at *); omega) | fail) <;> (try simp (maxSteps := 1000000) only [d3, w7, natV, cE_ment, cE_kill, cE_len, hasK_nil, Nat.mul_one, List.length_set, frC_len, frC_ment, frC_kill, ↓hold_pre, awayP, runOps, regK, step1, newK, genR, appR, obl, buildR, Value.cells, closeK, keepH, outV, retK, ret1, retC, RetV, Option.getD, runD, stepD, afterK, undef, simprocAttr, sxB, ↓sxD, sxE, sxTab]))
      exact ⟨j - (h + 1), so_mcSt M2 ul nr R N D m (h + 1) j, by omega, le_sub ⟨rfl, rfl, rfl, rfl, rfl, trivial⟩ ⟨by first | rfl | simp [lkH], by first | rfl | simp [lkH], by first | rfl | simp [lkH], by first | rfl | simp [lkH], trivial⟩ rfl rfl rfl (by simp [keepLt, so_mcSt, lkH]), M2, h + 1, j, rfl, hM2, by omega, by omega, hjb, .inr hcc, hJ, rfl⟩
  obtain rfl : i = j := by omega
  have d1 : decide ((i : Int) < (i : Int)) = false := by simp
  obtain ⟨X1, X2, hXX, hX1⟩ : ∃ X1 X2, X = X1 ++ X2 ∧ X1.length = i - a := ⟨X.take (i - a), X.drop (i - a), (List.take_append_drop _ _).symm, by rw [List.length_take]; omega⟩
  have hXl : X.length = X1.length + X2.length := by rw [hXX, List.length_append]
  have hxx := hx
  rw [hXX] at hxx
  obtain ⟨x1, x2, x3⟩ := pw_app.1 hxx
  have g1 : ahead c X1 Y := ahead_nt ho x1 hy fun p1 _ => by
    rcases hI with hI | hI
    · omega
    rw [nt_mid A X1 (X2 ++ Y ++ B) (i := X1.length - 1) (j := i - 1) (by rw [hD, hXX]; simp) (by omega) (by omega), hy0] at hI
    exact ltS_not ho (hxy _ (by rw [hXX]; exact List.mem_append_left _ (nt_in (by omega))) _ (nt_in (by omega))) hI
  have g2 : ahead c Y X2 := ahead_nt ho hy x2 fun _ p2 => by
    rcases hJ with hJ | hJ
    · omega
    have e1 := nt_mid (D := D) (A ++ X1) X2 (Y ++ B) (i := 0) (j := i) (by rw [hD, hXX]; simp) p2 (by simp only [List.length_append]; omega)
    rw [hy0, e1] at hJ
    rw [hY]
    exact .inl hJ
  have hKz := hK (X1 ++ Y ++ X2) M1 hM1 (by rw [hXX, List.append_assoc, List.append_assoc]; exact List.Perm.append_left _ List.perm_append_comm) (pw_app.2 ⟨pw_app.2 ⟨x1, hy, g1⟩, x2, fun u hu v hv => by
    rcases List.mem_append.1 hu with hu | hu
    · exact x3 u hu v hv
    · exact g2 u hu v hv⟩)
  clear hK
  refine Go1.mk ?_; repeat' ((first | (with_reducible refine Go1.go ?_) | (refine And.intro ?_ ?_; (try simp only [sxO] at *); omega) | fail) <;> (try simp (maxSteps := 1000000) only [so_mcSt, d1, natV, cE_ment, cE_kill, cE_len, hasK_nil, Nat.mul_one, List.length_set, frC_len, frC_ment, frC_kill, ↓hold_pre, awayP, runOps, regK, step1, newK, genR, appR, obl, buildR, Value.cells, closeK, keepH, outV, retK, ret1, retC, RetV, Option.getD, runD, stepD, afterK, undef, simprocAttr, sxB, ↓sxD, sxE, sxTab]))
  refine ⟨fun d z => ∃ P Q E, d = P.length ∧ X2 = P ++ Q ∧ E = A ++ X1 ++ P ++ Y ++ Q ++ B ∧ z = so_mdSt M1 ul nr R N E i (i + P.length),
    ⟨X2.length, so_mdSt M1 ul nr R N D i m, le_sub ⟨rfl, rfl, rfl, trivial⟩ ⟨by first | rfl | simp [lkH], by first | rfl | simp [lkH], by first | rfl | simp [lkH], by first | rfl | simp [lkH], trivial⟩ rfl rfl rfl (by simp [keepLt, so_mdSt, lkH]), ⟨X2, [], D, rfl, by simp, by rw [hD, hXX]; simp, by rw [show m = i + X2.length by omega]⟩⟩, ?_⟩
  rintro d z ⟨P, Q, E, rfl, hPQ, hE, rfl⟩
  have hPl := congrArg List.length hPQ
  rw [List.length_append] at hPl
  have hEl : E.length = N := by rw [hE]; simp only [List.length_append]; omega
  rcases List.eq_nil_or_concat P with rfl | ⟨P1, p, hp⟩
  · have d2 : decide ((i : Int) < (i : Int)) = false := by simp
    refine Go1.mk ?_; repeat' ((first | (with_reducible refine Go1.go ?_) | (refine And.intro ?_ ?_; (try simp only [sxO] at *); omega) | fail) <;> (try simp (maxSteps := 1000000) only [so_mdSt, d2, natV, cE_ment, cE_kill, cE_len, hasK_nil, Nat.mul_one, List.length_set, frC_len, frC_ment, frC_kill, ↓hold_pre, awayP, runOps, regK, step1, newK, genR, appR, obl, buildR, Value.cells, closeK, keepH, outV, retK, ret1, retC, RetV, Option.getD, runD, stepD, afterK, undef, simprocAttr, sxB, ↓sxD, sxE, sxTab]))
    rw [List.nil_append] at hPQ
    rw [hE, ← hPQ]
    rw [show A ++ (X1 ++ Y ++ X2) ++ B = A ++ X1 ++ [] ++ Y ++ X2 ++ B by simp] at hKz
    exact hKz
  rw [List.concat_eq_append] at hp
  subst hp
  have hl1 : i + (P1 ++ [p]).length = i + P1.length + 1 := by rw [List.length_append]; rfl
  rw [hl1]
  rw [List.length_append, List.length_singleton] at hPl
  have d2 : decide ((i : Int) < ((i + P1.length + 1 : Nat) : Int)) = true := by rw [decide_eq_true_eq]; omega
  obtain ⟨y, hYy⟩ : ∃ y, Y = [y] := ⟨_, hY0⟩
  have e1 : E = (A ++ X1 ++ P1) ++ p :: ([] ++ y :: (Q ++ B)) := by rw [hE, hYy]; simp
  have e2 : E = (A ++ X1 ++ P1 ++ [p]) ++ y :: (Q ++ B) := by rw [e1]; simp
  have ai : i + P1.length = (A ++ X1 ++ P1).length := by simp only [List.length_append]; omega
  have h1 := at_mid (A ++ X1 ++ P1) p ([] ++ y :: (Q ++ B)) ai
  rw [← e1] at h1
  have h2 := at_mid (A ++ X1 ++ P1 ++ [p]) y (Q ++ B) (i := i + P1.length + 1) (by rw [List.length_append, ← ai]; rfl)
  rw [← e2] at h2
  have h3 := set_owt (A ++ X1 ++ P1) [] (Q ++ B) p y (i := i + P1.length) (j := i + P1.length + 1) ai (by rw [← ai]; simp)
  rw [← e1] at h3
  have w2 : IntKind.i64.wrap (((i + P1.length + 1 : Nat) : Int) - 1) = ((i + P1.length : Nat) : Int) := by rw [wrap_id (by omega) (by omega)]; omega
  have j1 : (0 : Int) ≤ ((i + P1.length : Nat) : Int) := by omega
  have j2 : ((i + P1.length : Nat) : Int) < (N : Int) := by omega
  have j3 : (0 : Int) ≤ ((i + P1.length + 1 : Nat) : Int) := by omega
  have j4 : ((i + P1.length + 1 : Nat) : Int) < (N : Int) := by omega
  have k1 := nat_set E (i + P1.length + 1) p
  have k2 := nat_set (E.set (i + P1.length + 1) p) (i + P1.length) y
  refine Go1.mk ?_; repeat' ((first | (with_reducible refine Go1.go ?_) | ((with_reducible refine isDraw [some 40, some 41, some 42, some 43, some 44, some 45, some 46, some 47, some 48, some 49, some 50] (by decide) ?_); refine draw_rule [(0, []), (1, []), (2, []), (3, []), (4, []), (5, [4]), (6, [4]), (7, [4]), (8, [4]), (9, []), (10, [])] [[], [], [], [1, 2], [1, 2, 3], [], [], [5, 6], [5, 6, 7], [0, 1, 2, 3, 4, 5, 6, 7, 8], [0, 1, 2, 3, 4, 5, 6, 7, 8, 9]] [40, 41, 42, 43, 44, 45, 46, 47, 48] [] (by kernel_rfl) (by kernel_rfl) (by kernel_rfl) (by kernel_rfl) (by exact trivial) ?_) | ((with_reducible refine isDraw [some 61, some 62, some 63, some 64, some 65, some 66, some 67, some 68, some 69, some 70, some 71, some 72, some 73, some 74, some 75, none, some 76, none] (by decide) ?_); refine draw_rule [(0, []), (1, []), (2, []), (3, []), (4, []), (5, []), (6, []), (7, []), (8, []), (9, []), (10, [9]), (11, [9]), (12, [9]), (13, [9]), (14, []), (15, []), (16, []), (17, [])] [[], [], [], [], [3], [], [], [6], [5, 6, 7], [5, 6, 7, 8], [], [], [10, 11], [10, 11, 12], [0, 1, 5, 6, 7, 8, 9, 10, 11, 12, 13], [0, 1, 5, 6, 7, 8, 9, 10, 11, 12, 13, 14], [0, 1, 2, 3, 4, 5, 6, 7, 8, 9, 10, 11, 12, 13, 14, 15], [0, 1, 2, 3, 4, 5, 6, 7, 8, 9, 10, 11, 12, 13, 14, 15, 16]] [61, 62, 63, 64, 65, 66, 67, 68, 69, 70, 71, 72, 73, 74, 75] [] (by kernel_rfl) (by kernel_rfl) (by kernel_rfl) (by kernel_rfl) (by exact trivial) ?_) | ((with_reducible refine isDraw [some 92, some 93, some 94, some 95, some 96, some 97, some 98, some 99, some 100, some 101, some 102, some 103] (by decide) ?_); refine draw_rule [(0, []), (1, []), (2, []), (3, []), (4, []), (5, [4]), (6, [4]), (7, [4]), (8, [4]), (9, []), (10, []), (11, [])] [[], [], [], [1, 2], [1, 2, 3], [], [], [5, 6], [5, 6, 7], [0, 1, 2, 3, 4, 5, 6, 7, 8], [0, 1, 2, 3, 4, 5, 6, 7, 8, 9], [0, 1, 2, 3, 4, 5, 6, 7, 8, 9, 10]] [92, 93, 94, 95, 96, 97, 98, 99, 100] [] (by kernel_rfl) (by kernel_rfl) (by kernel_rfl) (by kernel_rfl) (by exact trivial) ?_) | ((with_reducible refine isDraw [some 113, some 114, some 115, some 116, some 117, some 118, some 119, some 120, some 121, some 122, some 123, some 124, some 125, some 126, some 127, none, some 128, none] (by decide) ?_); refine draw_rule [(0, []), (1, []), (2, []), (3, []), (4, []), (5, []), (6, []), (7, []), (8, []), (9, []), (10, [9]), (11, [9]), (12, [9]), (13, [9]), (14, []), (15, []), (16, []), (17, [])] [[], [], [], [], [3], [], [], [6], [5, 6, 7], [5, 6, 7, 8], [], [], [10, 11], [10, 11, 12], [0, 1, 5, 6, 7, 8, 9, 10, 11, 12, 13], [0, 1, 5, 6, 7, 8, 9, 10, 11, 12, 13, 14], [0, 1, 2, 3, 4, 5, 6, 7, 8, 9, 10, 11, 12, 13, 14, 15], [0, 1, 2, 3, 4, 5, 6, 7, 8, 9, 10, 11, 12, 13, 14, 15, 16]] [113, 114, 115, 116, 117, 118, 119, 120, 121, 122, 123, 124, 125, 126, 127] [] (by kernel_rfl) (by kernel_rfl) (by kernel_rfl) (by kernel_rfl) (by exact trivial) ?_) | ((with_reducible refine isDraw [some 158, some 159, some 160, some 161, some 162, some 163, some 164, some 165, some 166, some 167, some 168, some 169, some 170, some 171] (by decide) ?_); refine draw_rule [(0, []), (1, []), (2, []), (3, []), (4, []), (5, []), (6, []), (7, [6]), (8, [6]), (9, [6]), (10, [6]), (11, []), (12, []), (13, [])] [[], [], [], [], [2, 3], [1, 2, 3, 4], [1, 2, 3, 4, 5], [], [], [7, 8], [7, 8, 9], [0, 1, 2, 3, 4, 5, 6, 7, 8, 9, 10], [0, 1, 2, 3, 4, 5, 6, 7, 8, 9, 10, 11], [0, 1, 2, 3, 4, 5, 6, 7, 8, 9, 10, 11, 12]] [158, 159, 160, 161, 162, 163, 164, 165, 166, 167, 168] [] (by kernel_rfl) (by kernel_rfl) (by kernel_rfl) (by kernel_rfl) (by exact trivial) ?_) | (refine And.intro ?_ ?_; (try simp only [sxO] at *); omega) | fail) <;> (try simp (maxSteps := 1000000) only [so_mdSt, d2, w2, h1, h2, k1, k2, h3, hEl, j1, j2, j3, j4, natV, cE_ment, cE_kill, cE_len, hasK_nil, Nat.mul_one, List.length_set, frC_len, frC_ment, frC_kill, ↓hold_pre, awayP, runOps, regK, step1, newK, genR, appR, obl, buildR, Value.cells, closeK, keepH, outV, retK, ret1, retC, RetV, Option.getD, runD, stepD, afterK, undef, simprocAttr, sxB, ↓sxD, sxE, sxTab]))
  exact ⟨P1.length, so_mdSt M1 ul nr R N ((A ++ X1 ++ P1) ++ y :: ([] ++ p :: (Q ++ B))) i (i + P1.length), by simp, le_sub ⟨rfl, rfl, rfl, trivial⟩ ⟨by first | rfl | simp [lkH], by first | rfl | simp [lkH], by first | rfl | simp [lkH], by first | rfl | simp [lkH], trivial⟩ rfl rfl rfl (by simp [keepLt, so_mdSt, lkH]), P1, p :: Q, (A ++ X1 ++ P1) ++ y :: ([] ++ p :: (Q ++ B)), rfl, by rw [hPQ]; simp, by rw [hYy]; simp, rfl⟩
end
end Go.Proofs.Ytjapnklocibgaaa.Sx
namespace Go.Proofs.Ytjapnklocibgaaa.Sx
open Go Go.RowKit
set_option linter.unusedVariables false
set_option linter.unusedSimpArgs false
set_option maxRecDepth 100000
set_option maxHeartbeats 8000000
attribute [local congr] fin_congr finG_congr stepG_congr step1_congr runOps_congr brv_congr obl_congr condK_congr LoopK_congr seqK_congr CutK_congr vc_congr DrawK_congr regK_congr CallK_congr AskK_congr newK_congr retC_congr ret1_congr retK_congr outV_congr closeK_congr genR_congr appR_congr finD_congr finGD_congr stepGD_congr stepD_congr CallK0_congr runD_congr okR_congr CallS_congr vcX_congr
attribute [local congr] Stop_congr
theorem CmpK.le {M M' : Mem} {ul : Value} {nr : Nat} {R : List FR} {c : Nat → Nat → Int} {NN : Nat} (h : CmpK M ul nr R c NN) (hm : Mem.le M M') : CmpK M' ul nr R c NN := fun x y M1 K a b d e => h x y M1 K a b (hm.trans d) e
def MrgK (M : Mem) (ul : Value) (nr : Nat) (R : List FR) (c : Nat → Nat → Int) (NN N nn : Nat) : Prop := ∀ (A X Y B D : List Nat) (a m b : Nat) (M1 : Mem) (K : AV → Hp → Mem → Prop), Mem.le M M1 → X.length + Y.length ≤ nn → D = A ++ X ++ Y ++ B → a = A.length → m = A.length + X.length → b = A.length + X.length + Y.length → 0 < X.length → 0 < Y.length → X.Pairwise (ltS c) → Y.Pairwise (ltS c) → (∀ x ∈ X, ∀ y ∈ Y, x < y) → (∀ x ∈ X ++ Y, x < NN) → D.length = N →
    (∀ Z M', Mem.le M1 M' → Z.Perm (X ++ Y) → Z.Pairwise (ltS c) → K (.ext (.tuple #[])) [(114, 3, cE natV (A ++ Z ++ B)), (1, 26, [.ext ul]), (4, 66, [.slo 12 0 nr 2]), (12, 34, frC R)] M') → CallS Try.prog 100 [.slo 114 0 N 1, .ext (.int .i64 (a : Int)), .ext (.int .i64 (m : Int)), .ext (.int .i64 (b : Int)), .fn 38 [.own 1 0, .own 4 0]] [(114, 3, cE natV (D)), (1, 26, [.ext ul]), (4, 66, [.slo 12 0 nr 2]), (12, 34, frC R)] M1 [] K
section
variable {M : Mem} {K : AV → Hp → Mem → Prop} (ul : Value) (nr : Nat) (R : List FR) {c : Nat → Nat → Int}
def so_gaSt (M : Mem) (ul : Value) (nr : Nat) (R : List FR) (N : Nat) (D : List Nat) (a m b h n lo hi : Nat) : St := { env := [(18, .ext (.int .i64 (h : Int))), (19, .ext (.int .i64 (n : Int))), (20, .ext (.int .i64 (lo : Int))), (21, .ext (.int .i64 (hi : Int))), (4, .fn 38 [.own 1 0, .own 4 0]), (3, .ext (.int .i64 (b : Int))), (2, .ext (.int .i64 (m : Int))), (1, .ext (.int .i64 (a : Int))), (0, .slo 114 0 N 1)], hp := [(114, 3, cE natV (D)), (1, 26, [.ext ul]), (4, 66, [.slo 12 0 nr 2]), (12, 34, frC R)], M := M, kb := 200, fx := [114, 1, 4, 12] }
def so_gbSt (M : Mem) (ul : Value) (nr : Nat) (R : List FR) (N : Nat) (D : List Nat) (a m b h n lo hi p : Nat) : St := { env := [(22, .ext (.int .i64 (p : Int))), (18, .ext (.int .i64 (h : Int))), (19, .ext (.int .i64 (n : Int))), (20, .ext (.int .i64 (lo : Int))), (21, .ext (.int .i64 (hi : Int))), (4, .fn 38 [.own 1 0, .own 4 0]), (3, .ext (.int .i64 (b : Int))), (2, .ext (.int .i64 (m : Int))), (1, .ext (.int .i64 (a : Int))), (0, .slo 114 0 N 1)], hp := [(114, 3, cE natV (D)), (1, 26, [.ext ul]), (4, 66, [.slo 12 0 nr 2]), (12, 34, frC R)], M := M, kb := 200, fx := [114, 1, 4, 12] }
def so_gcSt (M : Mem) (ul : Value) (nr : Nat) (R : List FR) (N : Nat) (D : List Nat) (a b h s e : Nat) : St := { env := [(18, .ext (.int .i64 (h : Int))), (24, .ext (.int .i64 (e : Int))), (20, .ext (.int .i64 (s : Int))), (4, .fn 38 [.own 1 0, .own 4 0]), (3, .ext (.int .i64 (b : Int))), (1, .ext (.int .i64 (a : Int))), (0, .slo 114 0 N 1)], hp := [(114, 3, cE natV (D)), (1, 26, [.ext ul]), (4, 66, [.slo 12 0 nr 2]), (12, 34, frC R)], M := M, kb := 200, fx := [114, 1, 4, 12] }
def so_gdSt (M : Mem) (ul : Value) (nr : Nat) (R : List FR) (N : Nat) (D : List Nat) (b h e : Nat) : St := { env := [(18, .ext (.int .i64 (h : Int))), (24, .ext (.int .i64 (e : Int))), (4, .fn 38 [.own 1 0, .own 4 0]), (3, .ext (.int .i64 (b : Int))), (0, .slo 114 0 N 1)], hp := [(114, 3, cE natV (D)), (1, 26, [.ext ul]), (4, 66, [.slo 12 0 nr 2]), (12, 34, frC R)], M := M, kb := 200, fx := [114, 1, 4, 12] }
theorem mrgG_ok (ho : CmpO c) (NN N nn : Nat) (ih : MrgK M ul nr R c NN N nn) (hc : CmpK M ul nr R c NN) (A X Y B D : List Nat) (a m b : Nat) (hD : D = A ++ X ++ Y ++ B) (ha : a = A.length) (hm : m = A.length + X.length) (hb : b = A.length + X.length + Y.length) (hX : 1 < X.length) (hY : 1 < Y.length) (hnn : X.length + Y.length ≤ nn + 1) (hx : X.Pairwise (ltS c)) (hy : Y.Pairwise (ltS c)) (hxy : ∀ x ∈ X, ∀ y ∈ Y, x < y) (hNN : ∀ x ∈ X ++ Y, x < NN) (hN : D.length = N) (hN2 : N < 1000000)
    (hK : ∀ Z M', Mem.le M M' → Z.Perm (X ++ Y) → Z.Pairwise (ltS c) → K (.ext (.tuple #[])) [(114, 3, cE natV (A ++ Z ++ B)), (1, 26, [.ext ul]), (4, 66, [.slo 12 0 nr 2]), (12, 34, frC R)] M') :
    CallS Try.prog 100 [.slo 114 0 N 1, .ext (.int .i64 (a : Int)), .ext (.int .i64 (m : Int)), .ext (.int .i64 (b : Int)), .fn 38 [.own 1 0, .own 4 0]] [(114, 3, cE natV (D)), (1, 26, [.ext ul]), (4, 66, [.slo 12 0 nr 2]), (12, 34, frC R)] M [] K := by
  refine inlS (cs := [32,41,43]) Try.mixed Try.func100 rfl (by kernel_rfl) 200 rfl rfl ?_
  simp only [Try.f100]
  have hL := congrArg List.length hD
  simp only [List.length_append] at hL
  have w0 : IntKind.i64.wrap ((m : Int) - (a : Int)) = (X.length : Int) := by rw [wrap_id (by omega) (by omega)]; omega
  have w1 : IntKind.i64.wrap ((b : Int) - (m : Int)) = (Y.length : Int) := by rw [wrap_id (by omega) (by omega)]; omega
  have d0 : decide ((X.length : Int) = 1) = false := by rw [decide_eq_false_iff_not]; omega
  have d1 : decide ((Y.length : Int) = 1) = false := by rw [decide_eq_false_iff_not]; omega
  have w2 : IntKind.i64.wrap ((a : Int) + (b : Int)) = ((a + b : Nat) : Int) := by rw [wrap_id (by omega) (by omega)]; omega
  have w3 : IntKind.u64.wrap ((a + b : Nat) : Int) = ((a + b : Nat) : Int) := wrap64_id (by omega)
  have w4 := sh_one (a + b)
  have h1 := Nat.div_add_mod (a + b) 2
  have h2 := Nat.mod_lt (a + b) (show 0 < 2 by decide)
  obtain ⟨h, hh⟩ : ∃ h, h = (a + b) / 2 := ⟨_, rfl⟩
  rw [← hh] at w4 h1
  have w5 : IntKind.i64.wrap (h : Int) = (h : Int) := wrap_id (by omega) (by omega)
  have w6 : IntKind.u64.wrap (h : Int) = (h : Int) := wrap64_id (by omega)
  obtain ⟨n, hn⟩ : ∃ n, n = h + m := ⟨_, rfl⟩
  have w7 : IntKind.i64.wrap ((h : Int) + (m : Int)) = (n : Int) := by rw [wrap_id (by omega) (by omega)]; omega
  refine Go1.mk ?_; repeat' ((first | (with_reducible refine Go1.go ?_) | (refine And.intro ?_ ?_; (try simp only [sxO] at *); omega) | fail) <;> (try simp (maxSteps := 1000000) only [w0, w1, w2, w3, w4, w5, w6, w7, d0, d1, natV, cE_ment, cE_kill, cE_len, hasK_nil, Nat.mul_one, List.length_set, frC_len, frC_ment, frC_kill, ↓hold_pre, awayP, runOps, regK, step1, newK, genR, appR, obl, buildR, Value.cells, closeK, keepH, outV, retK, ret1, retC, RetV, Option.getD, runD, stepD, afterK, undef, simprocAttr, sxB, ↓sxD, sxE, sxTab]))
  clear w0 w1 w2 w3 w4 d0 d1
  refine ⟨fun z => ∃ lo hi, (lo = a ∨ lo + b = n) ∧ (hi = h ∨ hi = m) ∧ a ≤ lo ∧ n ≤ lo + b ∧ hi ≤ h ∧ hi ≤ m ∧ lo ≤ hi ∧ z = so_gaSt M ul nr R N D a m b h n lo hi, ?_, ?_⟩
  · by_cases hmm : h < m
    · have d2 : decide ((h : Int) < (m : Int)) = true := by rw [decide_eq_true_eq]; omega
      obtain ⟨lo, hlo⟩ : ∃ lo, lo = n - b := ⟨_, rfl⟩
      have w8 : IntKind.i64.wrap ((n : Int) - (b : Int)) = (lo : Int) := by rw [wrap_id (by omega) (by omega)]; omega
      refine Go1.mk ?_; repeat' ((first | (with_reducible refine Go1.go ?_) | (refine And.intro ?_ ?_; (try simp only [sxO] at *); omega) | fail) <;> (try simp (maxSteps := 1000000) only [d2, w8, natV, cE_ment, cE_kill, cE_len, hasK_nil, Nat.mul_one, List.length_set, frC_len, frC_ment, frC_kill, ↓hold_pre, awayP, runOps, regK, step1, newK, genR, appR, obl, buildR, Value.cells, closeK, keepH, outV, retK, ret1, retC, RetV, Option.getD, runD, stepD, afterK, undef, simprocAttr, sxB, ↓sxD, sxE, sxTab]))
      exact ⟨so_gaSt M ul nr R N D a m b h n lo h, le_sub ⟨rfl, rfl, rfl, rfl, rfl, rfl, rfl, rfl, rfl, trivial⟩ ⟨by first | rfl | simp [lkH], by first | rfl | simp [lkH], by first | rfl | simp [lkH], by first | rfl | simp [lkH], trivial⟩ rfl rfl rfl (by simp [keepLt, so_gaSt, lkH]), lo, h, .inr (by omega), .inl rfl, by omega, by omega, by omega, by omega, by omega, rfl⟩
    · have d2 : decide ((h : Int) < (m : Int)) = false := by rw [decide_eq_false_iff_not]; omega
      refine Go1.mk ?_; repeat' ((first | (with_reducible refine Go1.go ?_) | (refine And.intro ?_ ?_; (try simp only [sxO] at *); omega) | fail) <;> (try simp (maxSteps := 1000000) only [d2, natV, cE_ment, cE_kill, cE_len, hasK_nil, Nat.mul_one, List.length_set, frC_len, frC_ment, frC_kill, ↓hold_pre, awayP, runOps, regK, step1, newK, genR, appR, obl, buildR, Value.cells, closeK, keepH, outV, retK, ret1, retC, RetV, Option.getD, runD, stepD, afterK, undef, simprocAttr, sxB, ↓sxD, sxE, sxTab]))
      exact ⟨so_gaSt M ul nr R N D a m b h n a m, le_sub ⟨rfl, rfl, rfl, rfl, rfl, rfl, rfl, rfl, rfl, trivial⟩ ⟨by first | rfl | simp [lkH], by first | rfl | simp [lkH], by first | rfl | simp [lkH], by first | rfl | simp [lkH], trivial⟩ rfl rfl rfl (by simp [keepLt, so_gaSt, lkH]), a, m, .inl rfl, .inr rfl, by omega, by omega, by omega, by omega, by omega, rfl⟩
  rintro z ⟨lo, hi, hlo, hhi, q1, q2, q3, q4, q5, rfl⟩
  obtain ⟨p, hp⟩ : ∃ p, p + 1 = n := ⟨n - 1, by omega⟩
  have w8 : IntKind.i64.wrap ((n : Int) - 1) = (p : Int) := by rw [wrap_id (by omega) (by omega)]; omega
  refine Go1.mk ?_; repeat' ((first | (with_reducible refine Go1.go ?_) | (refine And.intro ?_ ?_; (try simp only [sxO] at *); omega) | fail) <;> (try simp (maxSteps := 1000000) only [so_gaSt, w8, natV, cE_ment, cE_kill, cE_len, hasK_nil, Nat.mul_one, List.length_set, frC_len, frC_ment, frC_kill, ↓hold_pre, awayP, runOps, regK, step1, newK, genR, appR, obl, buildR, Value.cells, closeK, keepH, outV, retK, ret1, retC, RetV, Option.getD, runD, stepD, afterK, undef, simprocAttr, sxB, ↓sxD, sxE, sxTab]))
  refine ⟨fun d z => ∃ M' i j, d = j - i ∧ Mem.le M M' ∧ lo ≤ i ∧ i ≤ j ∧ j ≤ hi ∧ (i = lo ∨ ¬ c (nt D (n - i)) (nt D (i - 1)) < 0) ∧ (j = hi ∨ c (nt D (p - j)) (nt D j) < 0) ∧ z = so_gbSt M' ul nr R N D a m b h n i j p,
    ⟨hi - lo, so_gbSt M ul nr R N D a m b h n lo hi p, le_sub ⟨rfl, rfl, rfl, rfl, rfl, rfl, rfl, rfl, rfl, rfl, trivial⟩ ⟨by first | rfl | simp [lkH], by first | rfl | simp [lkH], by first | rfl | simp [lkH], by first | rfl | simp [lkH], trivial⟩ rfl rfl rfl (by simp [keepLt, so_gbSt, lkH]), ⟨M, lo, hi, rfl, Mem.le.refl _, Nat.le_refl _, q5, Nat.le_refl _, .inl rfl, .inl rfl, rfl⟩⟩, ?_⟩
  clear w8
  rintro d z ⟨M1, i, j, rfl, hM1, hmi, hij, hjb, hI, hJ, rfl⟩
  by_cases hlt : i < j
  · have d1 : decide ((i : Int) < (j : Int)) = true := by rw [decide_eq_true_eq]; omega
    have w2 : IntKind.i64.wrap ((i : Int) + (j : Int)) = ((i + j : Nat) : Int) := by rw [wrap_id (by omega) (by omega)]; omega
    have w3 : IntKind.u64.wrap ((i + j : Nat) : Int) = ((i + j : Nat) : Int) := wrap64_id (by omega)
    have w4 := sh_one (i + j)
    have h3 := Nat.div_add_mod (i + j) 2
    have h4 := Nat.mod_lt (i + j) (show 0 < 2 by decide)
    obtain ⟨g, hg⟩ : ∃ g, g = (i + j) / 2 := ⟨_, rfl⟩
    rw [← hg] at w4 h3
    obtain ⟨q, hq⟩ : ∃ q, q = p - g := ⟨_, rfl⟩
    have w5 : IntKind.i64.wrap (g : Int) = (g : Int) := wrap_id (by omega) (by omega)
    have w6 : IntKind.u64.wrap (g : Int) = (g : Int) := wrap64_id (by omega)
    have w7 : IntKind.i64.wrap ((g : Int) + 1) = ((g + 1 : Nat) : Int) := succ_i (by omega)
    have w8 : IntKind.i64.wrap ((p : Int) - (g : Int)) = (q : Int) := by rw [wrap_id (by omega) (by omega)]; omega
    have j1 : (0 : Int) ≤ (g : Int) := by omega
    have j2 : (g : Int) < (N : Int) := by omega
    have j3 : (0 : Int) ≤ (q : Int) := by omega
    have j4 : (q : Int) < (N : Int) := by omega
    have n1 := nt_at (D := D) (i := g) (by omega)
    have n2 := nt_at (D := D) (i := q) (by omega)
    have hyq : nt D q = nt Y (q - m) := nt_mid (A ++ X) Y B hD (by omega) (by rw [List.length_append]; omega)
    have hxg : nt D g = nt X (g - a) := nt_mid A X (Y ++ B) (by rw [hD]; simp) (by omega) (by omega)
    have b1 : nt D g < NN := hNN _ (by rw [hxg]; exact List.mem_append_left _ (nt_in (by omega)))
    have b2 : nt D q < NN := hNN _ (by rw [hyq]; exact List.mem_append_right _ (nt_in (by omega)))
    refine Go1.mk ?_; repeat' ((first | (with_reducible refine Go1.go ?_) | ((with_reducible refine isCall0 (f := 38) ?_); refine callA0 ?_) | ((with_reducible refine isCallS (f := 38) ?_); refine (hc (nt D q) (nt D g) _ _ b2 b1 hM1 (fun M2 m2 => Stop.mk ?_))) | ((with_reducible refine isDraw [some 40, some 41, some 42, some 43, some 44, some 45, some 46, some 47, some 48, some 49, some 50] (by decide) ?_); refine draw_rule [(0, []), (1, []), (2, []), (3, []), (4, []), (5, [4]), (6, [4]), (7, [4]), (8, [4]), (9, []), (10, [])] [[], [], [], [1, 2], [1, 2, 3], [], [], [5, 6], [5, 6, 7], [0, 1, 2, 3, 4, 5, 6, 7, 8], [0, 1, 2, 3, 4, 5, 6, 7, 8, 9]] [40, 41, 42, 43, 44, 45, 46, 47, 48] [] (by kernel_rfl) (by kernel_rfl) (by kernel_rfl) (by kernel_rfl) (by exact trivial) ?_) | ((with_reducible refine isDraw [some 61, some 62, some 63, some 64, some 65, some 66, some 67, some 68, some 69, some 70, some 71, some 72, some 73, some 74, some 75, none, some 76, none] (by decide) ?_); refine draw_rule [(0, []), (1, []), (2, []), (3, []), (4, []), (5, []), (6, []), (7, []), (8, []), (9, []), (10, [9]), (11, [9]), (12, [9]), (13, [9]), (14, []), (15, []), (16, []), (17, [])] [[], [], [], [], [3], [], [], [6], [5, 6, 7], [5, 6, 7, 8], [], [], [10, 11], [10, 11, 12], [0, 1, 5, 6, 7, 8, 9, 10, 11, 12, 13], [0, 1, 5, 6, 7, 8, 9, 10, 11, 12, 13, 14], [0, 1, 2, 3, 4, 5, 6, 7, 8, 9, 10, 11, 12, 13, 14, 15], [0, 1, 2, 3, 4, 5, 6, 7, 8, 9, 10, 11, 12, 13, 14, 15, 16]] [61, 62, 63, 64, 65, 66, 67, 68, 69, 70, 71, 72, 73, 74, 75] [] (by kernel_rfl) (by kernel_rfl) (by kernel_rfl) (by kernel_rfl) (by exact trivial) ?_) | ((with_reducible refine isDraw [some 92, some 93, some 94, some 95, some 96, some 97, some 98, some 99, some 100, some 101, some 102, some 103] (by decide) ?_); refine draw_rule [(0, []), (1, []), (2, []), (3, []), (4, []), (5, [4]), (6, [4]), (7, [4]), (8, [4]), (9, []), (10, []), (11, [])] [[], [], [], [1, 2], [1, 2, 3], [], [], [5, 6], [5, 6, 7], [0, 1, 2, 3, 4, 5, 6, 7, 8], [0, 1, 2, 3, 4, 5, 6, 7, 8, 9], [0, 1, 2, 3, 4, 5, 6, 7, 8, 9, 10]] [92, 93, 94, 95, 96, 97, 98, 99, 100] [] (by kernel_rfl) (by kernel_rfl) (by kernel_rfl) (by kernel_rfl) (by exact trivial) ?_) | ((with_reducible refine isDraw [some 113, some 114, some 115, some 116, some 117, some 118, some 119, some 120, some 121, some 122, some 123, some 124, some 125, some 126, some 127, none, some 128, none] (by decide) ?_); refine draw_rule [(0, []), (1, []), (2, []), (3, []), (4, []), (5, []), (6, []), (7, []), (8, []), (9, []), (10, [9]), (11, [9]), (12, [9]), (13, [9]), (14, []), (15, []), (16, []), (17, [])] [[], [], [], [], [3], [], [], [6], [5, 6, 7], [5, 6, 7, 8], [], [], [10, 11], [10, 11, 12], [0, 1, 5, 6, 7, 8, 9, 10, 11, 12, 13], [0, 1, 5, 6, 7, 8, 9, 10, 11, 12, 13, 14], [0, 1, 2, 3, 4, 5, 6, 7, 8, 9, 10, 11, 12, 13, 14, 15], [0, 1, 2, 3, 4, 5, 6, 7, 8, 9, 10, 11, 12, 13, 14, 15, 16]] [113, 114, 115, 116, 117, 118, 119, 120, 121, 122, 123, 124, 125, 126, 127] [] (by kernel_rfl) (by kernel_rfl) (by kernel_rfl) (by kernel_rfl) (by exact trivial) ?_) | ((with_reducible refine isDraw [some 158, some 159, some 160, some 161, some 162, some 163, some 164, some 165, some 166, some 167, some 168, some 169, some 170, some 171] (by decide) ?_); refine draw_rule [(0, []), (1, []), (2, []), (3, []), (4, []), (5, []), (6, []), (7, [6]), (8, [6]), (9, [6]), (10, [6]), (11, []), (12, []), (13, [])] [[], [], [], [], [2, 3], [1, 2, 3, 4], [1, 2, 3, 4, 5], [], [], [7, 8], [7, 8, 9], [0, 1, 2, 3, 4, 5, 6, 7, 8, 9, 10], [0, 1, 2, 3, 4, 5, 6, 7, 8, 9, 10, 11], [0, 1, 2, 3, 4, 5, 6, 7, 8, 9, 10, 11, 12]] [158, 159, 160, 161, 162, 163, 164, 165, 166, 167, 168] [] (by kernel_rfl) (by kernel_rfl) (by kernel_rfl) (by kernel_rfl) (by exact trivial) ?_) | (refine And.intro ?_ ?_; (try simp only [sxO] at *); omega) | fail) <;> (try simp (maxSteps := 1000000) only [so_gbSt, d1, w2, w3, w4, w5, w6, w7, w8, n1, n2, j1, j2, j3, j4, natV, cE_ment, cE_kill, cE_len, hasK_nil, Nat.mul_one, List.length_set, frC_len, frC_ment, frC_kill, ↓hold_pre, awayP, runOps, regK, step1, newK, genR, appR, obl, buildR, Value.cells, closeK, keepH, outV, retK, ret1, retC, RetV, Option.getD, runD, stepD, afterK, undef, simprocAttr, sxB, ↓sxD, sxE, sxTab]))
    have m2 : Mem.le M1 M2 := m2
    have hM2 := hM1.trans m2
    by_cases hcc : c (nt D q) (nt D g) < 0
    · have d3 : decide (c (nt D q) (nt D g) < 0) = true := decide_eq_true hcc
      refine Stop.go ?_
      refine Go1.mk ?_; repeat' ((first | (with_reducible refine Go1.go ?_) | ((with_reducible refine isDraw [some 40, some 41, some 42, some 43, some 44, some 45, some 46, some 47, some 48, some 49, some 50] (by decide) ?_); refine draw_rule [(0, []), (1, []), (2, []), (3, []), (4, []), (5, [4]), (6, [4]), (7, [4]), (8, [4]), (9, []), (10, [])] [[], [], [], [1, 2], [1, 2, 3], [], [], [5, 6], [5, 6, 7], [0, 1, 2, 3, 4, 5, 6, 7, 8], [0, 1, 2, 3, 4, 5, 6, 7, 8, 9]] [40, 41, 42, 43, 44, 45, 46, 47, 48] [] (by kernel_rfl) (by kernel_rfl) (by kernel_rfl) (by kernel_rfl) (by exact trivial) ?_) | ((with_reducible refine isDraw [some 61, some 62, some 63, some 64, some 65, some 66, some 67, some 68, some 69, some 70, some 71, some 72, some 73, some 74, some 75, none, some 76, none] (by decide) ?_); refine draw_rule [(0, []), (1, []), (2, []), (3, []), (4, []), (5, []), (6, []), (7, []), (8, []), (9, []), (10, [9]), (11, [9]), (12, [9]), (13, [9]), (14, []), (15, []), (16, []), (17, [])] [[], [], [], [], [3], [], [], [6], [5, 6, 7], [5, 6, 7, 8], [], [], [10, 11], [10, 11, 12], [0, 1, 5, 6, 7, 8, 9, 10, 11, 12, 13], [0, 1, 5, 6, 7, 8, 9, 10, 11, 12, 13, 14], [0, 1, 2, 3, 4, 5, 6, 7, 8, 9, 10, 11, 12, 13, 14, 15], [0, 1, 2, 3, 4, 5, 6, 7, 8, 9, 10, 11, 12, 13, 14, 15, 16]] [61, 62, 63, 64, 65, 66, 67, 68, 69, 70, 71, 72, 73, 74, 75] [] (by kernel_rfl) (by kernel_rfl) (by kernel_rfl) (by kernel_rfl) (by exact trivial) ?_) | ((with_reducible refine isDraw [some 92, some 93, some 94, some 95, some 96, some 97, some 98, some 99, some 100, some 101, some 102, some 103] (by decide) ?_); refine draw_rule [(0, []), (1, []), (2, []), (3, []), (4, []), (5, [4]), (6, [4]), (7, [4]), (8, [4]), (9, []), (10, []), (11, [])] [[], [], [], [1, 2], [1, 2, 3], [], [], [5, 6], [5, 6, 7], [0, 1, 2, 3, 4, 5, 6, 7, 8], [0, 1, 2, 3, 4, 5, 6, 7, 8, 9], [0, 1, 2, 3, 4, 5, 6, 7, 8, 9, 10]] [92, 93, 94, 95, 96, 97, 98, 99, 100] [] (by kernel_rfl) (by kernel_rfl) (by kernel_rfl) (by kernel_rfl) (by exact trivial) ?_) | ((with_reducible refine isDraw [some 113, some 114, some 115, some 116, some 117, some 118, some 119, some 120, some 121, some 122, some 123, some 124, some 125, some 126, some 127, none, some 128, none] (by decide) ?_); refine draw_rule [(0, []), (1, []), (2, []), (3, []), (4, []), (5, []), (6, []), (7, []), (8, []), (9, []), (10, [9]), (11, [9]), (12, [9]), (13, [9]), (14, []), (15, []), (16, []), (17, [])] [[], [], [], [], [3], [], [], [6], [5, 6, 7], [5, 6, 7, 8], [], [], [10, 11], [10, 11, 12], [0, 1, 5, 6, 7, 8, 9, 10, 11, 12, 13], [0, 1, 5, 6, 7, 8, 9, 10, 11, 12, 13, 14], [0, 1, 2, 3, 4, 5, 6, 7, 8, 9, 10, 11, 12, 13, 14, 15], [0, 1, 2, 3, 4, 5, 6, 7, 8, 9, 10, 11, 12, 13, 14, 15, 16]] [113, 114, 115, 116, 117, 118, 119, 120, 121, 122, 123, 124, 125, 126, 127] [] (by kernel_rfl) (by kernel_rfl) (by kernel_rfl) (by kernel_rfl) (by exact trivial) ?_) | ((with_reducible refine isDraw [some 158, some 159, some 160, some 161, some 162, some 163, some 164, some 165, some 166, some 167, some 168, some 169, some 170, some 171] (by decide) ?_); refine draw_rule [(0, []), (1, []), (2, []), (3, []), (4, []), (5, []), (6, []), (7, [6]), (8, [6]), (9, [6]), (10, [6]), (11, []), (12, []), (13, [])] [[], [], [], [], [2, 3], [1, 2, 3, 4], [1, 2, 3, 4, 5], [], [], [7, 8], [7, 8, 9], [0, 1, 2, 3, 4, 5, 6, 7, 8, 9, 10], [0, 1, 2, 3, 4, 5, 6, 7, 8, 9, 10, 11], [0, 1, 2, 3, 4, 5, 6, 7, 8, 9, 10, 11, 12]] [158, 159, 160, 161, 162, 163, 164, 165, 166, 167, 168] [] (by kernel_rfl) (by kernel_rfl) (by kernel_rfl) (by kernel_rfl) (by exact trivial) ?_) | (refine And.intro ?_ ?_; (try simp only [sxO] at *); omega) | fail) <;> (try simp (maxSteps := 1000000) only [d3, w7, natV, cE_ment, cE_kill, cE_len, hasK_nil, Nat.mul_one, List.length_set, frC_len, frC_ment, frC_kill, ↓hold_pre, awayP, runOps, regK, step1, newK, genR, appR, obl, buildR, Value.cells, closeK, keepH, outV, retK, ret1, retC, RetV, Option.getD, runD, stepD, afterK, undef, simprocAttr, sxB, ↓sxD, sxE, sxTab]))
      exact ⟨g - i, so_gbSt M2 ul nr R N D a m b h n i g p, by omega, le_sub ⟨rfl, rfl, rfl, rfl, rfl, rfl, rfl, rfl, rfl, rfl, trivial⟩ ⟨by first | rfl | simp [lkH], by first | rfl | simp [lkH], by first | rfl | simp [lkH], by first | rfl | simp [lkH], trivial⟩ rfl rfl rfl (by simp [keepLt, so_gbSt, lkH]), M2, i, g, rfl, hM2, hmi, by omega, by omega, hI, .inr (by rw [← hq]; exact hcc), rfl⟩
    · have d3 : decide (c (nt D q) (nt D g) < 0) = false := decide_eq_false hcc
      refine Stop.go ?_
      refine Go1.mk ?_; repeat' ((first | (with_reducible refine Go1.go ?_) | ((with_reducible refine isDraw [some 40, some 41, some 42, some 43, some 44, some 45, some 46, some 47, some 48, some 49, some 50] (by decide) ?_); refine draw_rule [(0, []), (1, []), (2, []), (3, []), (4, []), (5, [4]), (6, [4]), (7, [4]), (8, [4]), (9, []), (10, [])] [[], [], [], [1, 2], [1, 2, 3], [], [], [5, 6], [5, 6, 7], [0, 1, 2, 3, 4, 5, 6, 7, 8], [0, 1, 2, 3, 4, 5, 6, 7, 8, 9]] [40, 41, 42, 43, 44, 45, 46, 47, 48] [] (by kernel_rfl) (by kernel_rfl) (by kernel_rfl) (by kernel_rfl) (by exact trivial) ?_) | ((with_reducible refine isDraw [some 61, some 62, some 63, some 64, some 65, some 66, some 67, some 68, some 69, some 70, some 71, some 72, some 73, some 74, some 75, none, some 76, none] (by decide) ?_); refine draw_rule [(0, []), (1, []), (2, []), (3, []), (4, []), (5, []), (6, []), (7, []), (8, []), (9, []), (10, [9]), (11, [9]), (12, [9]), (13, [9]), (14, []), (15, []), (16, []), (17, [])] [[], [], [], [], [3], [], [], [6], [5, 6, 7], [5, 6, 7, 8], [], [], [10, 11], [10, 11, 12], [0, 1, 5, 6, 7, 8, 9, 10, 11, 12, 13], [0, 1, 5, 6, 7, 8, 9, 10, 11, 12, 13, 14], [0, 1, 2, 3, 4, 5, 6, 7, 8, 9, 10, 11, 12, 13, 14, 15], [0, 1, 2, 3, 4, 5, 6, 7, 8, 9, 10, 11, 12, 13, 14, 15, 16]] [61, 62, 63, 64, 65, 66, 67, 68, 69, 70, 71, 72, 73, 74, 75] [] (by kernel_rfl) (by kernel_rfl) (by kernel_rfl) (by kernel_rfl) (by exact trivial) ?_) | ((with_reducible refine isDraw [some 92, some 93, some 94, some 95, some 96, some 97, some 98, some 99, some 100, some 101, some 102, some 103] (by decide) ?_); refine draw_rule [(0, []), (1, []), (2, []), (3, []), (4, []), (5, [4]), (6, [4]), (7, [4]), (8, [4]), (9, []), (10, []), (11, [])] [[], [], [], [1, 2], [1, 2, 3], [], [], [5, 6], [5, 6, 7], [0, 1, 2, 3, 4, 5, 6, 7, 8], [0, 1, 2, 3, 4, 5, 6, 7, 8, 9], [0, 1, 2, 3, 4, 5, 6, 7, 8, 9, 10]] [92, 93, 94, 95, 96, 97, 98, 99, 100] [] (by kernel_rfl) (by kernel_rfl) (by kernel_rfl) (by kernel_rfl) (by exact trivial) ?_) | ((with_reducible refine isDraw [some 113, some 114, some 115, some 116, some 117, some 118, some 119, some 120, some 121, some 122, some 123, some 124, some 125, some 126, some 127, none, some 128, none] (by decide) ?_); refine draw_rule [(0, []), (1, []), (2, []), (3, []), (4, []), (5, []), (6, []), (7, []), (8, []), (9, []), (10, [9]), (11, [9]), (12, [9]), (13, [9]), (14, []), (15, []), (16, []), (17, [])] [[], [], [], [], [3], [], [], [6], [5, 6, 7], [5, 6, 7, 8], [], [], [10, 11], [10, 11, 12], [0, 1, 5, 6, 7, 8, 9, 10, 11, 12, 13], [0, 1, 5, 6, 7, 8, 9, 10, 11, 12, 13, 14], [0, 1, 2, 3, 4, 5, 6, 7, 8, 9, 10, 11, 12, 13, 14, 15], [0, 1, 2, 3, 4, 5, 6, 7, 8, 9, 10, 11, 12, 13, 14, 15, 16]] [113, 114, 115, 116, 117, 118, 119, 120, 121, 122, 123, 124, 125, 126, 127] [] (by kernel_rfl) (by kernel_rfl) (by kernel_rfl) (by kernel_rfl) (by exact trivial) ?_) | ((with_reducible refine isDraw [some 158, some 159, some 160, some 161, some 162, some 163, some 164, some 165, some 166, some 167, some 168, some 169, some 170, some 171] (by decide) ?_); refine draw_rule [(0, []), (1, []), (2, []), (3, []), (4, []), (5, []), (6, []), (7, [6]), (8, [6]), (9, [6]), (10, [6]), (11, []), (12, []), (13, [])] [[], [], [], [], [2, 3], [1, 2, 3, 4], [1, 2, 3, 4, 5], [], [], [7, 8], [7, 8, 9], [0, 1, 2, 3, 4, 5, 6, 7, 8, 9, 10], [0, 1, 2, 3, 4, 5, 6, 7, 8, 9, 10, 11], [0, 1, 2, 3, 4, 5, 6, 7, 8, 9, 10, 11, 12]] [158, 159, 160, 161, 162, 163, 164, 165, 166, 167, 168] [] (by kernel_rfl) (by kernel_rfl) (by kernel_rfl) (by kernel_rfl) (by exact trivial) ?_) | (refine And.intro ?_ ?_; (try simp only [sxO] at *); omega) | fail) <;> (try simp (maxSteps := 1000000) only [d3, w7, natV, cE_ment, cE_kill, cE_len, hasK_nil, Nat.mul_one, List.length_set, frC_len, frC_ment, frC_kill, ↓hold_pre, awayP, runOps, regK, step1, newK, genR, appR, obl, buildR, Value.cells, closeK, keepH, outV, retK, ret1, retC, RetV, Option.getD, runD, stepD, afterK, undef, simprocAttr, sxB, ↓sxD, sxE, sxTab]))
      exact ⟨j - (g + 1), so_gbSt M2 ul nr R N D a m b h n (g + 1) j p, by omega, le_sub ⟨rfl, rfl, rfl, rfl, rfl, rfl, rfl, rfl, rfl, rfl, trivial⟩ ⟨by first | rfl | simp [lkH], by first | rfl | simp [lkH], by first | rfl | simp [lkH], by first | rfl | simp [lkH], trivial⟩ rfl rfl rfl (by simp [keepLt, so_gbSt, lkH]), M2, g + 1, j, rfl, hM2, by omega, by omega, hjb, .inr (by rw [show n - (g + 1) = q by omega]; exact hcc), hJ, rfl⟩
  obtain rfl : i = j := by omega
  have d1 : decide ((i : Int) < (i : Int)) = false := by simp
  obtain ⟨X1, X2, hXX, hX1⟩ : ∃ X1 X2, X = X1 ++ X2 ∧ X1.length = i - a := ⟨X.take (i - a), X.drop (i - a), (List.take_append_drop _ _).symm, by rw [List.length_take]; omega⟩
  obtain ⟨Y1, Y2, hYY, hY1⟩ : ∃ Y1 Y2, Y = Y1 ++ Y2 ∧ Y1.length = h - i := ⟨Y.take (h - i), Y.drop (h - i), (List.take_append_drop _ _).symm, by rw [List.length_take]; omega⟩
  have hXl : X.length = X1.length + X2.length := by rw [hXX, List.length_append]
  have hYl : Y.length = Y1.length + Y2.length := by rw [hYY, List.length_append]
  have hxx := hx
  rw [hXX] at hxx
  obtain ⟨x1, x2, x3⟩ := pw_app.1 hxx
  have hyy := hy
  rw [hYY] at hyy
  obtain ⟨y1, y2, y3⟩ := pw_app.1 hyy
  have inX : ∀ z, z ∈ X1 ∨ z ∈ X2 → z ∈ X := fun z hz => by rw [hXX]; exact List.mem_append.2 hz
  have inY : ∀ z, z ∈ Y1 ∨ z ∈ Y2 → z ∈ Y := fun z hz => by rw [hYY]; exact List.mem_append.2 hz
  have g1 : ahead c X1 Y2 := ahead_nt ho x1 y2 fun p1 p2 => by
    rcases hI with hI | hI
    · omega
    rw [nt_mid A X1 (X2 ++ Y ++ B) (i := X1.length - 1) (j := i - 1) (by rw [hD, hXX]; simp) (by omega) (by omega), nt_mid (A ++ X ++ Y1) Y2 B (i := 0) (j := n - i) (by rw [hD, hYY]; simp) p2 (by simp only [List.length_append]; omega)] at hI
    exact ltS_not ho (hxy _ (inX _ (.inl (nt_in (by omega)))) _ (inY _ (.inr (nt_in p2)))) hI
  have g2 : ahead c Y1 X2 := ahead_nt ho y1 x2 fun p1 p2 => by
    rcases hJ with hJ | hJ
    · omega
    rw [nt_mid (A ++ X) Y1 (Y2 ++ B) (i := Y1.length - 1) (j := p - i) (by rw [hD, hYY]; simp) (by omega) (by simp only [List.length_append]; omega), nt_mid (A ++ X1) X2 (Y ++ B) (i := 0) (j := i) (by rw [hD, hXX]; simp) p2 (by simp only [List.length_append]; omega)] at hJ
    exact .inl hJ
  obtain ⟨e, he⟩ : ∃ e, e = n - i := ⟨_, rfl⟩
  have w9 : IntKind.i64.wrap ((n : Int) - (i : Int)) = (e : Int) := by rw [wrap_id (by omega) (by omega)]; omega
  clear hI hJ hlo hhi
  refine Go1.mk ?_; repeat' ((first | (with_reducible refine Go1.go ?_) | (refine And.intro ?_ ?_; (try simp only [sxO] at *); omega) | fail) <;> (try simp (maxSteps := 1000000) only [so_gbSt, d1, w9, natV, cE_ment, cE_kill, cE_len, hasK_nil, Nat.mul_one, List.length_set, frC_len, frC_ment, frC_kill, ↓hold_pre, awayP, runOps, regK, step1, newK, genR, appR, obl, buildR, Value.cells, closeK, keepH, outV, retK, ret1, retC, RetV, Option.getD, runD, stepD, afterK, undef, simprocAttr, sxB, ↓sxD, sxE, sxTab]))
  refine ⟨fun z => z = so_gcSt M1 ul nr R N (A ++ X1 ++ Y1 ++ X2 ++ Y2 ++ B) a b h i e, ?_, ?_⟩
  · by_cases c1 : i < m
    · have d2 : decide ((i : Int) < (m : Int)) = true := by rw [decide_eq_true_eq]; omega
      by_cases c2 : m < e
      · have d3 : decide ((m : Int) < (e : Int)) = true := by rw [decide_eq_true_eq]; omega
        refine Go1.mk ?_; repeat' ((first | (with_reducible refine Go1.go ?_) | ((with_reducible refine isCall (f := 107) ?_); refine callA ?_) | ((with_reducible refine isCall0 (f := 107) ?_); refine callA0 ?_) | ((with_reducible refine isCallS (f := 107) ?_); refine (rot_ok ul nr R (A ++ X1) X2 Y1 (Y2 ++ B) D (A ++ X1 ++ Y1 ++ X2 ++ Y2 ++ B) _ _ _ N (by rw [hD, hXX, hYY]; simp) (by simp) (by rw [List.length_append]; omega) (by rw [List.length_append]; omega) (by rw [List.length_append]; omega) (by omega) (by omega) hN hN2 ?_)) | (refine And.intro ?_ ?_; (try simp only [sxO] at *); omega) | fail) <;> (try simp (maxSteps := 1000000) only [d2, d3, natV, cE_ment, cE_kill, cE_len, hasK_nil, Nat.mul_one, List.length_set, frC_len, frC_ment, frC_kill, ↓hold_pre, awayP, runOps, regK, step1, newK, genR, appR, obl, buildR, Value.cells, closeK, keepH, outV, retK, ret1, retC, RetV, Option.getD, runD, stepD, afterK, undef, simprocAttr, sxB, ↓sxD, sxE, sxTab]))
        exact ⟨so_gcSt M1 ul nr R N (A ++ X1 ++ Y1 ++ X2 ++ Y2 ++ B) a b h i e, le_sub ⟨rfl, rfl, rfl, rfl, rfl, rfl, rfl, trivial⟩ ⟨by first | rfl | simp [lkH], by first | rfl | simp [lkH], by first | rfl | simp [lkH], by first | rfl | simp [lkH], trivial⟩ rfl rfl rfl (by simp [keepLt, so_gcSt, lkH]), rfl⟩
      · have d3 : decide ((m : Int) < (e : Int)) = false := by rw [decide_eq_false_iff_not]; omega
        have hY0 : Y1 = [] := List.length_eq_zero_iff.1 (by omega)
        have hDD : D = A ++ X1 ++ Y1 ++ X2 ++ Y2 ++ B := by rw [hD, hXX, hYY, hY0]; simp
        refine Go1.mk ?_; repeat' ((first | (with_reducible refine Go1.go ?_) | (refine And.intro ?_ ?_; (try simp only [sxO] at *); omega) | fail) <;> (try simp (maxSteps := 1000000) only [d2, d3, natV, cE_ment, cE_kill, cE_len, hasK_nil, Nat.mul_one, List.length_set, frC_len, frC_ment, frC_kill, ↓hold_pre, awayP, runOps, regK, step1, newK, genR, appR, obl, buildR, Value.cells, closeK, keepH, outV, retK, ret1, retC, RetV, Option.getD, runD, stepD, afterK, undef, simprocAttr, sxB, ↓sxD, sxE, sxTab]))
        rw [← hDD]
        exact ⟨so_gcSt M1 ul nr R N D a b h i e, le_sub ⟨rfl, rfl, rfl, rfl, rfl, rfl, rfl, trivial⟩ ⟨by first | rfl | simp [lkH], by first | rfl | simp [lkH], by first | rfl | simp [lkH], by first | rfl | simp [lkH], trivial⟩ rfl rfl rfl (by simp [keepLt, so_gcSt, lkH]), rfl⟩
    · have d2 : decide ((i : Int) < (m : Int)) = false := by rw [decide_eq_false_iff_not]; omega
      have hX0 : X2 = [] := List.length_eq_zero_iff.1 (by omega)
      have hDD : D = A ++ X1 ++ Y1 ++ X2 ++ Y2 ++ B := by rw [hD, hXX, hYY, hX0]; simp
      refine Go1.mk ?_; repeat' ((first | (with_reducible refine Go1.go ?_) | (refine And.intro ?_ ?_; (try simp only [sxO] at *); omega) | fail) <;> (try simp (maxSteps := 1000000) only [d2, natV, cE_ment, cE_kill, cE_len, hasK_nil, Nat.mul_one, List.length_set, frC_len, frC_ment, frC_kill, ↓hold_pre, awayP, runOps, regK, step1, newK, genR, appR, obl, buildR, Value.cells, closeK, keepH, outV, retK, ret1, retC, RetV, Option.getD, runD, stepD, afterK, undef, simprocAttr, sxB, ↓sxD, sxE, sxTab]))
      rw [← hDD]
      exact ⟨so_gcSt M1 ul nr R N D a b h i e, le_sub ⟨rfl, rfl, rfl, rfl, rfl, rfl, rfl, trivial⟩ ⟨by first | rfl | simp [lkH], by first | rfl | simp [lkH], by first | rfl | simp [lkH], by first | rfl | simp [lkH], trivial⟩ rfl rfl rfl (by simp [keepLt, so_gcSt, lkH]), rfl⟩
  rintro z rfl
  have hDl : (A ++ X1 ++ Y1 ++ X2 ++ Y2 ++ B).length = N := by simp only [List.length_append]; omega
  refine Go1.mk ?_; repeat' ((first | (with_reducible refine Go1.go ?_) | (refine And.intro ?_ ?_; (try simp only [sxO] at *); omega) | fail) <;> (try simp (maxSteps := 1000000) only [so_gcSt, natV, cE_ment, cE_kill, cE_len, hasK_nil, Nat.mul_one, List.length_set, frC_len, frC_ment, frC_kill, ↓hold_pre, awayP, runOps, regK, step1, newK, genR, appR, obl, buildR, Value.cells, closeK, keepH, outV, retK, ret1, retC, RetV, Option.getD, runD, stepD, afterK, undef, simprocAttr, sxB, ↓sxD, sxE, sxTab]))
  refine ⟨fun z => ∃ M2 Z1, Mem.le M M2 ∧ Z1.Perm (X1 ++ Y1) ∧ Z1.Pairwise (ltS c) ∧ z = so_gdSt M2 ul nr R N (A ++ Z1 ++ X2 ++ Y2 ++ B) b h e, ?_, ?_⟩
  · by_cases c1 : a < i
    · have d2 : decide ((a : Int) < (i : Int)) = true := by rw [decide_eq_true_eq]; omega
      by_cases c2 : i < h
      · have d3 : decide ((i : Int) < (h : Int)) = true := by rw [decide_eq_true_eq]; omega
        refine Go1.mk ?_; repeat' ((first | (with_reducible refine Go1.go ?_) | ((with_reducible refine isCall (f := 100) ?_); refine callA ?_) | ((with_reducible refine isCall0 (f := 100) ?_); refine callA0 ?_) | ((with_reducible refine isCallS (f := 100) ?_); refine (ih A X1 Y1 (X2 ++ Y2 ++ B) (A ++ X1 ++ Y1 ++ X2 ++ Y2 ++ B) _ _ _ _ _ hM1 (by omega) (by simp) ha (by omega) (by omega) (by omega) (by omega) x1 y1 (fun x hx y hy => hxy x (inX x (.inl hx)) y (inY y (.inl hy))) (fun x hx => hNN x (by rcases List.mem_append.1 hx with hx | hx; exact List.mem_append_left _ (inX x (.inl hx)); exact List.mem_append_right _ (inY x (.inl hx)))) hDl (fun Z M2 z1 z2 z3 => Stop.mk ?_))) | (refine And.intro ?_ ?_; (try simp only [sxO] at *); omega) | fail) <;> (try simp (maxSteps := 1000000) only [d2, d3, natV, cE_ment, cE_kill, cE_len, hasK_nil, Nat.mul_one, List.length_set, frC_len, frC_ment, frC_kill, ↓hold_pre, awayP, runOps, regK, step1, newK, genR, appR, obl, buildR, Value.cells, closeK, keepH, outV, retK, ret1, retC, RetV, Option.getD, runD, stepD, afterK, undef, simprocAttr, sxB, ↓sxD, sxE, sxTab]))
        refine Stop.go ?_
        refine Go1.mk ?_; repeat' ((first | (with_reducible refine Go1.go ?_) | (refine And.intro ?_ ?_; (try simp only [sxO] at *); omega) | fail) <;> (try simp (maxSteps := 1000000) only [natV, cE_ment, cE_kill, cE_len, hasK_nil, Nat.mul_one, List.length_set, frC_len, frC_ment, frC_kill, ↓hold_pre, awayP, runOps, regK, step1, newK, genR, appR, obl, buildR, Value.cells, closeK, keepH, outV, retK, ret1, retC, RetV, Option.getD, runD, stepD, afterK, undef, simprocAttr, sxB, ↓sxD, sxE, sxTab]))
        exact ⟨so_gdSt M2 ul nr R N (A ++ Z ++ X2 ++ Y2 ++ B) b h e, le_sub ⟨rfl, rfl, rfl, rfl, rfl, trivial⟩ ⟨by simp [lkH, so_gdSt], by simp [lkH, so_gdSt], by simp [lkH, so_gdSt], by simp [lkH, so_gdSt], trivial⟩ rfl rfl rfl (by simp [keepLt, so_gdSt, lkH]), M2, Z, hM1.trans z1, z2, z3, rfl⟩
      · have d3 : decide ((i : Int) < (h : Int)) = false := by rw [decide_eq_false_iff_not]; omega
        have hY0 : Y1 = [] := List.length_eq_zero_iff.1 (by omega)
        refine Go1.mk ?_; repeat' ((first | (with_reducible refine Go1.go ?_) | (refine And.intro ?_ ?_; (try simp only [sxO] at *); omega) | fail) <;> (try simp (maxSteps := 1000000) only [d2, d3, natV, cE_ment, cE_kill, cE_len, hasK_nil, Nat.mul_one, List.length_set, frC_len, frC_ment, frC_kill, ↓hold_pre, awayP, runOps, regK, step1, newK, genR, appR, obl, buildR, Value.cells, closeK, keepH, outV, retK, ret1, retC, RetV, Option.getD, runD, stepD, afterK, undef, simprocAttr, sxB, ↓sxD, sxE, sxTab]))
        exact ⟨so_gdSt M1 ul nr R N (A ++ (X1 ++ Y1) ++ X2 ++ Y2 ++ B) b h e, le_sub ⟨rfl, rfl, rfl, rfl, rfl, trivial⟩ ⟨by simp [lkH, so_gdSt], by simp [lkH, so_gdSt], by simp [lkH, so_gdSt], by simp [lkH, so_gdSt], trivial⟩ rfl rfl rfl (by simp [keepLt, so_gdSt, lkH]), M1, X1 ++ Y1, hM1, List.Perm.refl _, by rw [hY0, List.append_nil]; exact x1, rfl⟩
    · have d2 : decide ((a : Int) < (i : Int)) = false := by rw [decide_eq_false_iff_not]; omega
      have hX0 : X1 = [] := List.length_eq_zero_iff.1 (by omega)
      refine Go1.mk ?_; repeat' ((first | (with_reducible refine Go1.go ?_) | (refine And.intro ?_ ?_; (try simp only [sxO] at *); omega) | fail) <;> (try simp (maxSteps := 1000000) only [d2, natV, cE_ment, cE_kill, cE_len, hasK_nil, Nat.mul_one, List.length_set, frC_len, frC_ment, frC_kill, ↓hold_pre, awayP, runOps, regK, step1, newK, genR, appR, obl, buildR, Value.cells, closeK, keepH, outV, retK, ret1, retC, RetV, Option.getD, runD, stepD, afterK, undef, simprocAttr, sxB, ↓sxD, sxE, sxTab]))
      exact ⟨so_gdSt M1 ul nr R N (A ++ (X1 ++ Y1) ++ X2 ++ Y2 ++ B) b h e, le_sub ⟨rfl, rfl, rfl, rfl, rfl, trivial⟩ ⟨by simp [lkH, so_gdSt], by simp [lkH, so_gdSt], by simp [lkH, so_gdSt], by simp [lkH, so_gdSt], trivial⟩ rfl rfl rfl (by simp [keepLt, so_gdSt, lkH]), M1, X1 ++ Y1, hM1, List.Perm.refl _, by rw [hX0, List.nil_append]; exact y1, rfl⟩
  rintro z ⟨M2, Z1, hM2, zp, zs, rfl⟩
  have hZl := zp.length_eq
  rw [List.length_append] at hZl
  have fin : ∀ Z2 M3, Mem.le M M3 → Z2.Perm (X2 ++ Y2) → Z2.Pairwise (ltS c) → K (.ext (.tuple #[])) [(114, 3, cE natV (A ++ (Z1 ++ Z2) ++ B)), (1, 26, [.ext ul]), (4, 66, [.slo 12 0 nr 2]), (12, 34, frC R)] M3 := fun Z2 M3 m3 p2 s2 => hK (Z1 ++ Z2) M3 m3 (by
      rw [hXX, hYY]
      refine (zp.append p2).trans ?_
      rw [List.append_assoc, List.append_assoc]
      refine List.Perm.append_left _ ?_
      rw [← List.append_assoc, ← List.append_assoc]
      exact List.Perm.append_right _ List.perm_append_comm) (pw_app.2 ⟨zs, s2, fun u hu v hv => by
      rcases List.mem_append.1 (zp.subset hu) with hu | hu
      · rcases List.mem_append.1 (p2.subset hv) with hv | hv
        · exact x3 u hu v hv
        · exact g1 u hu v hv
      · rcases List.mem_append.1 (p2.subset hv) with hv | hv
        · exact g2 u hu v hv
        · exact y3 u hu v hv⟩)
  by_cases c1 : h < e
  · have d2 : decide ((h : Int) < (e : Int)) = true := by rw [decide_eq_true_eq]; omega
    by_cases c2 : e < b
    · have d3 : decide ((e : Int) < (b : Int)) = true := by rw [decide_eq_true_eq]; omega
      refine Go1.mk ?_; repeat' ((first | (with_reducible refine Go1.go ?_) | ((with_reducible refine isCall (f := 100) ?_); refine callA ?_) | ((with_reducible refine isCall0 (f := 100) ?_); refine callA0 ?_) | ((with_reducible refine isCallS (f := 100) ?_); refine (ih (A ++ Z1) X2 Y2 B (A ++ Z1 ++ X2 ++ Y2 ++ B) _ _ _ _ _ hM2 (by omega) (by simp) (by rw [List.length_append]; omega) (by rw [List.length_append]; omega) (by rw [List.length_append]; omega) (by omega) (by omega) x2 y2 (fun x hx y hy => hxy x (inX x (.inr hx)) y (inY y (.inr hy))) (fun x hx => hNN x (by rcases List.mem_append.1 hx with hx | hx; exact List.mem_append_left _ (inX x (.inr hx)); exact List.mem_append_right _ (inY x (.inr hx)))) (by simp only [List.length_append]; omega) (fun Z M3 z1 z2 z3 => Stop.mk ?_))) | (refine And.intro ?_ ?_; (try simp only [sxO] at *); omega) | fail) <;> (try simp (maxSteps := 1000000) only [so_gdSt, d2, d3, natV, cE_ment, cE_kill, cE_len, hasK_nil, Nat.mul_one, List.length_set, frC_len, frC_ment, frC_kill, ↓hold_pre, awayP, runOps, regK, step1, newK, genR, appR, obl, buildR, Value.cells, closeK, keepH, outV, retK, ret1, retC, RetV, Option.getD, runD, stepD, afterK, undef, simprocAttr, sxB, ↓sxD, sxE, sxTab]))
      have hf := fin Z M3 (hM2.trans z1) z2 z3
      refine Stop.go ?_
      refine Go1.mk ?_; repeat' ((first | (with_reducible refine Go1.go ?_) | (refine And.intro ?_ ?_; (try simp only [sxO] at *); omega) | fail) <;> (try simp (maxSteps := 1000000) only [natV, cE_ment, cE_kill, cE_len, hasK_nil, Nat.mul_one, List.length_set, frC_len, frC_ment, frC_kill, ↓hold_pre, awayP, runOps, regK, step1, newK, genR, appR, obl, buildR, Value.cells, closeK, keepH, outV, retK, ret1, retC, RetV, Option.getD, runD, stepD, afterK, undef, simprocAttr, sxB, ↓sxD, sxE, sxTab]))
      rw [← List.append_assoc] at hf
      exact hf
    · have d3 : decide ((e : Int) < (b : Int)) = false := by rw [decide_eq_false_iff_not]; omega
      have hY0 : Y2 = [] := List.length_eq_zero_iff.1 (by omega)
      have hf := fin (X2 ++ Y2) M2 hM2 (List.Perm.refl _) (by rw [hY0, List.append_nil]; exact x2)
      refine Go1.mk ?_; repeat' ((first | (with_reducible refine Go1.go ?_) | (refine And.intro ?_ ?_; (try simp only [sxO] at *); omega) | fail) <;> (try simp (maxSteps := 1000000) only [so_gdSt, d2, d3, natV, cE_ment, cE_kill, cE_len, hasK_nil, Nat.mul_one, List.length_set, frC_len, frC_ment, frC_kill, ↓hold_pre, awayP, runOps, regK, step1, newK, genR, appR, obl, buildR, Value.cells, closeK, keepH, outV, retK, ret1, retC, RetV, Option.getD, runD, stepD, afterK, undef, simprocAttr, sxB, ↓sxD, sxE, sxTab]))
      rw [show A ++ (Z1 ++ (X2 ++ Y2)) ++ B = A ++ Z1 ++ X2 ++ Y2 ++ B by simp] at hf
      exact hf
  · have d2 : decide ((h : Int) < (e : Int)) = false := by rw [decide_eq_false_iff_not]; omega
    have hX0 : X2 = [] := List.length_eq_zero_iff.1 (by omega)
    have hf := fin (X2 ++ Y2) M2 hM2 (List.Perm.refl _) (by rw [hX0, List.nil_append]; exact y2)
    refine Go1.mk ?_; repeat' ((first | (with_reducible refine Go1.go ?_) | (refine And.intro ?_ ?_; (try simp only [sxO] at *); omega) | fail) <;> (try simp (maxSteps := 1000000) only [so_gdSt, d2, natV, cE_ment, cE_kill, cE_len, hasK_nil, Nat.mul_one, List.length_set, frC_len, frC_ment, frC_kill, ↓hold_pre, awayP, runOps, regK, step1, newK, genR, appR, obl, buildR, Value.cells, closeK, keepH, outV, retK, ret1, retC, RetV, Option.getD, runD, stepD, afterK, undef, simprocAttr, sxB, ↓sxD, sxE, sxTab]))
    rw [show A ++ (Z1 ++ (X2 ++ Y2)) ++ B = A ++ Z1 ++ X2 ++ Y2 ++ B by simp] at hf
    exact hf
theorem mrg_all (ho : CmpO c) (NN N : Nat) (hN2 : N < 1000000) : ∀ nn M, CmpK M ul nr R c NN → MrgK M ul nr R c NN N nn := by
  intro nn
  induction nn with
  | zero => intro M hc A X Y B D a m b M1 K hM hn hD ha hm hb hX hY; omega
  | succ nn ih =>
    intro M hc A X Y B D a m b M1 K hM hn hD ha hm hb hX hY hx hy hxy hNN hN hK
    have hc1 := hc.le hM
    by_cases h1 : X.length = 1
    · exact mrgA_ok ul nr R ho NN hc1 A X Y B D a m b N hD ha hm hb h1 hY hx hy hxy hNN hN hN2 hK
    by_cases h2 : Y.length = 1
    · exact mrgB_ok ul nr R ho NN hc1 A X Y B D a m b N hD ha hm hb (by omega) h2 hx hy hxy hNN hN hN2 hK
    · exact mrgG_ok ul nr R ho NN N nn (ih M1 hc1) hc1 A X Y B D a m b hD ha hm hb (by omega) (by omega) hn hx hy hxy hNN hN hN2 hK
end
end Go.Proofs.Ytjapnklocibgaaa.Sx
namespace Go.Proofs.Ytjapnklocibgaaa.Sx
open Go Go.RowKit
set_option linter.unusedVariables false
set_option linter.unusedSimpArgs false
set_option maxRecDepth 100000
set_option maxHeartbeats 8000000
attribute [local congr] fin_congr finG_congr stepG_congr step1_congr runOps_congr brv_congr obl_congr condK_congr LoopK_congr seqK_congr CutK_congr vc_congr DrawK_congr regK_congr CallK_congr AskK_congr newK_congr retC_congr ret1_congr retK_congr outV_congr closeK_congr genR_congr appR_congr finD_congr finGD_congr stepGD_congr stepD_congr CallK0_congr runD_congr okR_congr CallS_congr vcX_congr
attribute [local congr] Stop_congr
inductive InBlk (c : Nat → Nat → Int) (k : Nat) : List Nat → Prop
  | last (X : List Nat) : X.length ≤ k → X.Pairwise (ltS c) → InBlk c k X
  | cons (X R : List Nat) : X.length = k → X.Pairwise (ltS c) → (∀ x ∈ X, ∀ y ∈ R, x < y) → InBlk c k R → InBlk c k (X ++ R)
theorem blk_small {c : Nat → Nat → Int} {k : Nat} {R : List Nat} (h : InBlk c k R) (hl : R.length ≤ k) : R.Pairwise (ltS c) := by
  cases h with
  | last _ _ h => exact h
  | cons X R h1 h2 h3 h4 =>
    rw [List.length_append] at hl
    have : R = [] := List.length_eq_zero_iff.1 (by omega)
    rw [this, List.append_nil]; exact h2
theorem blk_one {c : Nat → Nat → Int} {k : Nat} {R : List Nat} (h : InBlk c k R) (hl : k < R.length) : ∃ X Y, R = X ++ Y ∧ X.length = k ∧ X.Pairwise (ltS c) ∧ (∀ x ∈ X, ∀ y ∈ Y, x < y) ∧ InBlk c k Y := by
  cases h with
  | last _ h _ => omega
  | cons X R h1 h2 h3 h4 => exact ⟨X, R, rfl, h1, h2, h3, h4⟩
theorem blk_two {c : Nat → Nat → Int} {k : Nat} {R : List Nat} (hk : 0 < k) (h : InBlk c k R) (hl : 2 * k ≤ R.length) : ∃ X Y R', R = X ++ Y ++ R' ∧ X.length = k ∧ Y.length = k ∧ X.Pairwise (ltS c) ∧ Y.Pairwise (ltS c) ∧ (∀ x ∈ X, ∀ y ∈ Y, x < y) ∧ (∀ x ∈ X ++ Y, ∀ y ∈ R', x < y) ∧ InBlk c k R' := by
  obtain ⟨X, R1, rfl, h1, h2, h3, h4⟩ := blk_one h (by omega)
  rw [List.length_append] at hl
  by_cases h5 : R1.length = k
  · exact ⟨X, R1, [], by simp, h1, h5, h2, blk_small h4 (by omega), h3, by simp, InBlk.last [] (by simp) List.Pairwise.nil⟩
  · obtain ⟨Y, R2, rfl, h6, h7, h8, h9⟩ := blk_one h4 (by omega)
    exact ⟨X, Y, R2, by simp, h1, h6, h2, h7, fun x hx y hy => h3 x hx y (List.mem_append_left _ hy), fun x hx y hy => by
      rcases List.mem_append.1 hx with hx | hx
      · exact h3 x hx y (List.mem_append_right _ hy)
      · exact h8 x hx y hy, h9⟩
section
variable {M : Mem} {K : AV → Hp → Mem → Prop} (ul : Value) (nr : Nat) (R : List FR) {c : Nat → Nat → Int}
def so_s1St (M : Mem) (ul : Value) (nr : Nat) (R : List FR) (N : Nat) (D : List Nat) (k a b : Nat) : St := { env := [(6, .ext (.int .i64 (k : Int))), (7, .ext (.int .i64 (a : Int))), (8, .ext (.int .i64 (b : Int))), (2, .fn 38 [.own 1 0, .own 4 0]), (1, .ext (.int .i64 (N : Int))), (0, .slo 114 0 N 1)], hp := [(114, 3, cE natV (D)), (1, 26, [.ext ul]), (4, 66, [.slo 12 0 nr 2]), (12, 34, frC R)], M := M, kb := 200, fx := [114, 1, 4, 12] }
def so_s2St (M : Mem) (ul : Value) (nr : Nat) (R : List FR) (N : Nat) (D : List Nat) (k : Nat) : St := { env := [(6, .ext (.int .i64 (k : Int))), (2, .fn 38 [.own 1 0, .own 4 0]), (1, .ext (.int .i64 (N : Int))), (0, .slo 114 0 N 1)], hp := [(114, 3, cE natV (D)), (1, 26, [.ext ul]), (4, 66, [.slo 12 0 nr 2]), (12, 34, frC R)], M := M, kb := 200, fx := [114, 1, 4, 12] }
theorem stab_ok (ho : CmpO c) (NN : Nat) (hc : CmpK M ul nr R c NN) (D : List Nat) (N : Nat) (hS : D.Pairwise (· < ·)) (hSN : ∀ x ∈ D, x < NN) (hN : D.length = N) (hN2 : N < 1000000)
    (hK : ∀ Z M', Mem.le M M' → Z.Perm D → Z.Pairwise (ltS c) → K (.ext (.tuple #[])) [(114, 3, cE natV (Z)), (1, 26, [.ext ul]), (4, 66, [.slo 12 0 nr 2]), (12, 34, frC R)] M') :
    CallS Try.prog 80 [.slo 114 0 N 1, .ext (.int .i64 (N : Int)), .fn 38 [.own 1 0, .own 4 0]] [(114, 3, cE natV (D)), (1, 26, [.ext ul]), (4, 66, [.slo 12 0 nr 2]), (12, 34, frC R)] M [] K := by
  refine inlS (cs := []) Try.mixed Try.func80 rfl (by kernel_rfl) 200 rfl rfl ?_
  simp only [Try.f80]
  refine Go1.mk ?_; repeat' ((first | (with_reducible refine Go1.go ?_) | (refine And.intro ?_ ?_; (try simp only [sxO] at *); omega) | fail) <;> (try simp (maxSteps := 1000000) only [natV, cE_ment, cE_kill, cE_len, hasK_nil, Nat.mul_one, List.length_set, frC_len, frC_ment, frC_kill, ↓hold_pre, awayP, runOps, regK, step1, newK, genR, appR, obl, buildR, Value.cells, closeK, keepH, outV, retK, ret1, retC, RetV, Option.getD, runD, stepD, afterK, undef, simprocAttr, sxB, ↓sxD, sxE, sxTab]))
  refine ⟨fun d z => ∃ M' P R9 a, d = R9.length ∧ a = P.length ∧ Mem.le M M' ∧ (P ++ R9).Perm D ∧ (∀ x ∈ P, ∀ y ∈ R9, x < y) ∧ R9.Pairwise (· < ·) ∧ (∀ R', R'.Perm R9 → InBlk c 20 R' → InBlk c 20 (P ++ R')) ∧ z = so_s1St M' ul nr R N (P ++ R9) 20 a (a + 20),
    ⟨N, so_s1St M ul nr R N D 20 0 20, le_sub ⟨rfl, rfl, rfl, rfl, rfl, rfl, trivial⟩ ⟨by first | rfl | simp [lkH], by first | rfl | simp [lkH], by first | rfl | simp [lkH], by first | rfl | simp [lkH], trivial⟩ rfl rfl rfl (by simp [keepLt, so_s1St, lkH]), ⟨M, [], D, 0, hN.symm, rfl, Mem.le.refl _, List.Perm.refl _, by simp, hS, fun R' _ h => h, rfl⟩⟩, ?_⟩
  rintro d z ⟨M1, P, R0, a, rfl, ha, hM1, hp, hlt, hR, hdone, rfl⟩
  have hpl := hp.length_eq
  rw [List.length_append] at hpl
  have hRN : ∀ x ∈ R0, x < NN := fun x hx => hSN x (hp.subset (List.mem_append_right _ hx))
  by_cases c1 : a + 20 ≤ N
  · have d1 : decide (((a + 20 : Nat) : Int) ≤ (N : Int)) = true := by rw [decide_eq_true_eq]; omega
    have w1 : IntKind.i64.wrap (((a + 20 : Nat) : Int) + 20) = ((a + 20 + 20 : Nat) : Int) := by rw [wrap_id (by omega) (by omega)]; omega
    obtain ⟨S1, R1, hSR, hS1⟩ : ∃ S1 R1, R0 = S1 ++ R1 ∧ S1.length = 20 := ⟨R0.take 20, R0.drop 20, (List.take_append_drop _ _).symm, by rw [List.length_take]; omega⟩
    subst hSR
    obtain ⟨r1, r2, r3⟩ := List.pairwise_append.1 hR
    refine Go1.mk ?_; repeat' ((first | (with_reducible refine Go1.go ?_) | ((with_reducible refine isCall (f := 99) ?_); refine callA ?_) | ((with_reducible refine isCallS (f := 99) ?_); refine (ins_ok ul nr R ho NN (hc.le hM1) P S1 R1 (P ++ (S1 ++ R1)) _ _ N (by simp) ha (by omega) r1 (fun x hx => hRN x (List.mem_append_left _ hx)) (by rw [List.length_append]; omega) hN2 (fun S2 M2 m2 p2 q2 => Stop.mk ?_))) | (refine And.intro ?_ ?_; (try simp only [sxO] at *); omega) | fail) <;> (try simp (maxSteps := 1000000) only [so_s1St, d1, w1, natV, cE_ment, cE_kill, cE_len, hasK_nil, Nat.mul_one, List.length_set, frC_len, frC_ment, frC_kill, ↓hold_pre, awayP, runOps, regK, step1, newK, genR, appR, obl, buildR, Value.cells, closeK, keepH, outV, retK, ret1, retC, RetV, Option.getD, runD, stepD, afterK, undef, simprocAttr, sxB, ↓sxD, sxE, sxTab]))
    have m2 : Mem.le M1 M2 := m2
    have l2 := p2.length_eq
    refine Stop.go ?_
    refine Go1.mk ?_; repeat' ((first | (with_reducible refine Go1.go ?_) | (refine And.intro ?_ ?_; (try simp only [sxO] at *); omega) | fail) <;> (try simp (maxSteps := 1000000) only [w1, natV, cE_ment, cE_kill, cE_len, hasK_nil, Nat.mul_one, List.length_set, frC_len, frC_ment, frC_kill, ↓hold_pre, awayP, runOps, regK, step1, newK, genR, appR, obl, buildR, Value.cells, closeK, keepH, outV, retK, ret1, retC, RetV, Option.getD, runD, stepD, afterK, undef, simprocAttr, sxB, ↓sxD, sxE, sxTab]))
    rw [List.length_append] at hpl
    exact ⟨R1.length, so_s1St M2 ul nr R N (P ++ S2 ++ R1) 20 (a + 20) (a + 20 + 20), by rw [List.length_append]; omega, le_sub ⟨rfl, rfl, rfl, rfl, rfl, rfl, trivial⟩ ⟨by first | rfl | simp [lkH], by first | rfl | simp [lkH], by first | rfl | simp [lkH], by first | rfl | simp [lkH], trivial⟩ rfl rfl rfl (by simp [keepLt, so_s1St, lkH]), M2, P ++ S2, R1, a + 20, rfl, by rw [List.length_append]; omega, hM1.trans m2, by
      refine List.Perm.trans ?_ hp
      rw [List.append_assoc]
      exact List.Perm.append_left _ (List.Perm.append_right _ p2), fun x hx y hy => by
      rcases List.mem_append.1 hx with hx | hx
      · exact hlt x hx y (List.mem_append_right _ hy)
      · exact r3 x (p2.subset hx) y hy, r2, fun R' h1 h2 => by
      rw [List.append_assoc]
      exact hdone _ (p2.append h1) (InBlk.cons S2 R' (by omega) q2 (fun x hx y hy => r3 x (p2.subset hx) y (h1.subset hy)) h2), rfl⟩
  have d1 : decide (((a + 20 : Nat) : Int) ≤ (N : Int)) = false := by rw [decide_eq_false_iff_not]; omega
  refine Go1.mk ?_; repeat' ((first | (with_reducible refine Go1.go ?_) | ((with_reducible refine isCall (f := 99) ?_); refine callA ?_) | ((with_reducible refine isCallS (f := 99) ?_); refine (ins_ok ul nr R ho NN (hc.le hM1) P R0 [] (P ++ R0) _ _ N (by simp) ha (by omega) hR hRN (by rw [List.length_append]; omega) hN2 (fun S2 M2 m2 p2 q2 => Stop.mk ?_))) | (refine And.intro ?_ ?_; (try simp only [sxO] at *); omega) | fail) <;> (try simp (maxSteps := 1000000) only [so_s1St, d1, natV, cE_ment, cE_kill, cE_len, hasK_nil, Nat.mul_one, List.length_set, frC_len, frC_ment, frC_kill, ↓hold_pre, awayP, runOps, regK, step1, newK, genR, appR, obl, buildR, Value.cells, closeK, keepH, outV, retK, ret1, retC, RetV, Option.getD, runD, stepD, afterK, undef, simprocAttr, sxB, ↓sxD, sxE, sxTab]))
  have m2 : Mem.le M1 M2 := m2
  have l2 := p2.length_eq
  have hbk : InBlk c 20 (P ++ S2) := hdone S2 p2 (InBlk.last S2 (by omega) q2)
  have hM2 := hM1.trans m2
  have hpp : (P ++ S2).Perm D := (List.Perm.append_left _ p2).trans hp
  refine Stop.go ?_
  refine Go1.mk ?_; repeat' ((first | (with_reducible refine Go1.go ?_) | (refine And.intro ?_ ?_; (try simp only [sxO] at *); omega) | fail) <;> (try simp (maxSteps := 1000000) only [natV, cE_ment, cE_kill, cE_len, hasK_nil, Nat.mul_one, List.length_set, frC_len, frC_ment, frC_kill, ↓hold_pre, awayP, runOps, regK, step1, newK, genR, appR, obl, buildR, Value.cells, closeK, keepH, outV, retK, ret1, retC, RetV, Option.getD, runD, stepD, afterK, undef, simprocAttr, sxB, ↓sxD, sxE, sxTab]))
  refine ⟨fun d z => ∃ M' E k, d = N - k ∧ 0 < k ∧ Mem.le M M' ∧ E.Perm D ∧ InBlk c k E ∧ z = so_s2St M' ul nr R N E k,
    ⟨N - 20, so_s2St M2 ul nr R N (P ++ S2) 20, le_sub ⟨rfl, rfl, rfl, rfl, trivial⟩ ⟨by simp [lkH, so_s2St], by simp [lkH, so_s2St], by simp [lkH, so_s2St], by simp [lkH, so_s2St], trivial⟩ rfl rfl rfl (by simp [keepLt, so_s2St, lkH]), ⟨M2, _, 20, rfl, by omega, hM2, hpp, hbk, rfl⟩⟩, ?_⟩
  clear hp hlt hR hdone hRN hpp hbk hM2 d1
  rintro d z ⟨M3, E, k, rfl, hk, hM3, hE, hB, rfl⟩
  have hEl := hE.length_eq
  have hEN : ∀ x ∈ E, x < NN := fun x hx => hSN x (hE.subset hx)
  by_cases c2 : k < N
  · have d2 : decide ((k : Int) < (N : Int)) = true := by rw [decide_eq_true_eq]; omega
    have w2 : IntKind.i64.wrap (2 * (k : Int)) = ((2 * k : Nat) : Int) := by rw [wrap_id (by omega) (by omega)]; omega
    have w3 : IntKind.i64.wrap ((k : Int) * 2) = ((2 * k : Nat) : Int) := by rw [wrap_id (by omega) (by omega)]; omega
    refine Go1.mk ?_; repeat' ((first | (with_reducible refine Go1.go ?_) | (refine And.intro ?_ ?_; (try simp only [sxO] at *); omega) | fail) <;> (try simp (maxSteps := 1000000) only [so_s2St, d2, w2, natV, cE_ment, cE_kill, cE_len, hasK_nil, Nat.mul_one, List.length_set, frC_len, frC_ment, frC_kill, ↓hold_pre, awayP, runOps, regK, step1, newK, genR, appR, obl, buildR, Value.cells, closeK, keepH, outV, retK, ret1, retC, RetV, Option.getD, runD, stepD, afterK, undef, simprocAttr, sxB, ↓sxD, sxE, sxTab]))
    refine ⟨fun d z => ∃ M' P R9 a, d = R9.length ∧ a = P.length ∧ Mem.le M M' ∧ (P ++ R9).Perm D ∧ (∀ x ∈ P, ∀ y ∈ R9, x < y) ∧ InBlk c k R9 ∧ (∀ R', R'.Perm R9 → InBlk c (2 * k) R' → InBlk c (2 * k) (P ++ R')) ∧ z = so_s1St M' ul nr R N (P ++ R9) k a (a + 2 * k),
      ⟨N, so_s1St M3 ul nr R N E k 0 (0 + 2 * k), le_sub ⟨rfl, rfl, by rw [Nat.zero_add]; rfl, rfl, rfl, rfl, trivial⟩ ⟨by first | rfl | simp [lkH], by first | rfl | simp [lkH], by first | rfl | simp [lkH], by first | rfl | simp [lkH], trivial⟩ rfl rfl rfl (by simp [keepLt, so_s1St, lkH]), ⟨M3, [], E, 0, by omega, rfl, hM3, hE, by simp, hB, fun R' _ h => h, rfl⟩⟩, ?_⟩
    clear hE hB hEl hEN hM3 d2
    rintro d z ⟨M4, P, R0, a, rfl, ha, hM4, hp, hlt, hR, hdone, rfl⟩
    have hpl := hp.length_eq
    rw [List.length_append] at hpl
    have hRN : ∀ x ∈ R0, x < NN := fun x hx => hSN x (hp.subset (List.mem_append_right _ hx))
    have w4 : IntKind.i64.wrap ((a : Int) + (k : Int)) = ((a + k : Nat) : Int) := by rw [wrap_id (by omega) (by omega)]; omega
    by_cases c3 : a + 2 * k ≤ N
    · have d3 : decide (((a + 2 * k : Nat) : Int) ≤ (N : Int)) = true := by rw [decide_eq_true_eq]; omega
      have w5 : IntKind.i64.wrap (((a + 2 * k : Nat) : Int) + ((2 * k : Nat) : Int)) = ((a + 2 * k + 2 * k : Nat) : Int) := by rw [wrap_id (by omega) (by omega)]; omega
      obtain ⟨X, Y, R1, hXY, x1, y1, x2, y2, h3, h4, h5⟩ := blk_two hk hR (by omega)
      subst hXY
      simp only [List.length_append] at hpl
      refine Go1.mk ?_; repeat' ((first | (with_reducible refine Go1.go ?_) | ((with_reducible refine isCall (f := 100) ?_); refine callA ?_) | ((with_reducible refine isCallS (f := 100) ?_); refine (mrg_all ul nr R ho NN N hN2 (2 * k) M4 (hc.le hM4) P X Y R1 (P ++ (X ++ Y ++ R1)) _ _ _ _ _ (Mem.le.refl _) (by omega) (by simp) ha (by omega) (by omega) (by omega) (by omega) x2 y2 h3 (fun x hx => hRN x (List.mem_append_left _ hx)) (by simp only [List.length_append]; omega) (fun Z M5 m5 p5 q5 => Stop.mk ?_))) | (refine And.intro ?_ ?_; (try simp only [sxO] at *); omega) | fail) <;> (try simp (maxSteps := 1000000) only [so_s1St, d3, w2, w4, w5, natV, cE_ment, cE_kill, cE_len, hasK_nil, Nat.mul_one, List.length_set, frC_len, frC_ment, frC_kill, ↓hold_pre, awayP, runOps, regK, step1, newK, genR, appR, obl, buildR, Value.cells, closeK, keepH, outV, retK, ret1, retC, RetV, Option.getD, runD, stepD, afterK, undef, simprocAttr, sxB, ↓sxD, sxE, sxTab]))
      have m5 : Mem.le M4 M5 := m5
      have l5 := p5.length_eq
      rw [List.length_append] at l5
      refine Stop.go ?_
      refine Go1.mk ?_; repeat' ((first | (with_reducible refine Go1.go ?_) | (refine And.intro ?_ ?_; (try simp only [sxO] at *); omega) | fail) <;> (try simp (maxSteps := 1000000) only [w2, w5, natV, cE_ment, cE_kill, cE_len, hasK_nil, Nat.mul_one, List.length_set, frC_len, frC_ment, frC_kill, ↓hold_pre, awayP, runOps, regK, step1, newK, genR, appR, obl, buildR, Value.cells, closeK, keepH, outV, retK, ret1, retC, RetV, Option.getD, runD, stepD, afterK, undef, simprocAttr, sxB, ↓sxD, sxE, sxTab]))
      exact ⟨R1.length, so_s1St M5 ul nr R N (P ++ Z ++ R1) k (a + 2 * k) (a + 2 * k + 2 * k), by simp only [List.length_append]; omega, le_sub ⟨rfl, rfl, rfl, rfl, rfl, rfl, trivial⟩ ⟨by first | rfl | simp [lkH], by first | rfl | simp [lkH], by first | rfl | simp [lkH], by first | rfl | simp [lkH], trivial⟩ rfl rfl rfl (by simp [keepLt, so_s1St, lkH]), M5, P ++ Z, R1, a + 2 * k, rfl, by rw [List.length_append]; omega, hM4.trans m5, by
        refine List.Perm.trans ?_ hp
        rw [List.append_assoc]
        exact List.Perm.append_left _ (List.Perm.append_right _ p5), fun x hx y hy => by
        rcases List.mem_append.1 hx with hx | hx
        · exact hlt x hx y (List.mem_append_right _ hy)
        · exact h4 x (p5.subset hx) y hy, h5, fun R' h1 h2 => by
        rw [List.append_assoc]
        exact hdone _ (p5.append h1) (InBlk.cons Z R' (by omega) q5 (fun x hx y hy => h4 x (p5.subset hx) y (h1.subset hy)) h2), rfl⟩
    have d3 : decide (((a + 2 * k : Nat) : Int) ≤ (N : Int)) = false := by rw [decide_eq_false_iff_not]; omega
    by_cases c4 : a + k < N
    · have d4 : decide (((a + k : Nat) : Int) < (N : Int)) = true := by rw [decide_eq_true_eq]; omega
      obtain ⟨X, Y, hXY, x1, x2, h3, h5⟩ := blk_one hR (by omega)
      subst hXY
      rw [List.length_append] at hpl
      have y2 := blk_small h5 (by omega)
      refine Go1.mk ?_; repeat' ((first | (with_reducible refine Go1.go ?_) | ((with_reducible refine isCall (f := 100) ?_); refine callA ?_) | ((with_reducible refine isCallS (f := 100) ?_); refine (mrg_all ul nr R ho NN N hN2 (2 * k) M4 (hc.le hM4) P X Y [] (P ++ (X ++ Y)) _ _ _ _ _ (Mem.le.refl _) (by omega) (by simp) ha (by omega) (by omega) (by omega) (by omega) x2 y2 h3 hRN (by simp only [List.length_append]; omega) (fun Z M5 m5 p5 q5 => Stop.mk ?_))) | (refine And.intro ?_ ?_; (try simp only [sxO] at *); omega) | fail) <;> (try simp (maxSteps := 1000000) only [so_s1St, d3, d4, w4, natV, cE_ment, cE_kill, cE_len, hasK_nil, Nat.mul_one, List.length_set, frC_len, frC_ment, frC_kill, ↓hold_pre, awayP, runOps, regK, step1, newK, genR, appR, obl, buildR, Value.cells, closeK, keepH, outV, retK, ret1, retC, RetV, Option.getD, runD, stepD, afterK, undef, simprocAttr, sxB, ↓sxD, sxE, sxTab]))
      have m5 : Mem.le M4 M5 := m5
      have l5 := p5.length_eq
      rw [List.length_append] at l5
      refine Stop.go ?_
      refine Go1.mk ?_; repeat' ((first | (with_reducible refine Go1.go ?_) | (refine And.intro ?_ ?_; (try simp only [sxO] at *); omega) | fail) <;> (try simp (maxSteps := 1000000) only [w3, natV, cE_ment, cE_kill, cE_len, hasK_nil, Nat.mul_one, List.length_set, frC_len, frC_ment, frC_kill, ↓hold_pre, awayP, runOps, regK, step1, newK, genR, appR, obl, buildR, Value.cells, closeK, keepH, outV, retK, ret1, retC, RetV, Option.getD, runD, stepD, afterK, undef, simprocAttr, sxB, ↓sxD, sxE, sxTab]))
      exact ⟨N - 2 * k, so_s2St M5 ul nr R N (P ++ Z) (2 * k), by omega, le_sub ⟨rfl, rfl, rfl, rfl, trivial⟩ ⟨by simp [lkH, so_s2St], by simp [lkH, so_s2St], by simp [lkH, so_s2St], by simp [lkH, so_s2St], trivial⟩ rfl rfl rfl (by simp [keepLt, so_s2St, lkH]), M5, P ++ Z, 2 * k, rfl, by omega, hM4.trans m5, (List.Perm.append_left _ p5).trans hp, hdone Z p5 (InBlk.last Z (by omega) q5), rfl⟩
    · have d4 : decide (((a + k : Nat) : Int) < (N : Int)) = false := by rw [decide_eq_false_iff_not]; omega
      refine Go1.mk ?_; repeat' ((first | (with_reducible refine Go1.go ?_) | (refine And.intro ?_ ?_; (try simp only [sxO] at *); omega) | fail) <;> (try simp (maxSteps := 1000000) only [so_s1St, d3, d4, w4, w3, natV, cE_ment, cE_kill, cE_len, hasK_nil, Nat.mul_one, List.length_set, frC_len, frC_ment, frC_kill, ↓hold_pre, awayP, runOps, regK, step1, newK, genR, appR, obl, buildR, Value.cells, closeK, keepH, outV, retK, ret1, retC, RetV, Option.getD, runD, stepD, afterK, undef, simprocAttr, sxB, ↓sxD, sxE, sxTab]))
      exact ⟨N - 2 * k, so_s2St M4 ul nr R N (P ++ R0) (2 * k), by omega, le_sub ⟨rfl, rfl, rfl, rfl, trivial⟩ ⟨by simp [lkH, so_s2St], by simp [lkH, so_s2St], by simp [lkH, so_s2St], by simp [lkH, so_s2St], trivial⟩ rfl rfl rfl (by simp [keepLt, so_s2St, lkH]), M4, P ++ R0, 2 * k, rfl, by omega, hM4, hp, hdone R0 (List.Perm.refl _) (InBlk.last R0 (by omega) (blk_small hR (by omega))), rfl⟩
  · have d2 : decide ((k : Int) < (N : Int)) = false := by rw [decide_eq_false_iff_not]; omega
    refine Go1.mk ?_; repeat' ((first | (with_reducible refine Go1.go ?_) | (refine And.intro ?_ ?_; (try simp only [sxO] at *); omega) | fail) <;> (try simp (maxSteps := 1000000) only [so_s2St, d2, natV, cE_ment, cE_kill, cE_len, hasK_nil, Nat.mul_one, List.length_set, frC_len, frC_ment, frC_kill, ↓hold_pre, awayP, runOps, regK, step1, newK, genR, appR, obl, buildR, Value.cells, closeK, keepH, outV, retK, ret1, retC, RetV, Option.getD, runD, stepD, afterK, undef, simprocAttr, sxB, ↓sxD, sxE, sxTab]))
    exact hK E M3 hM3 hE (blk_small hB (by omega))
theorem sort_ok (ho : CmpO c) (NN : Nat) (hc : CmpK M ul nr R c NN) (D : List Nat) (N : Nat) (hS : D.Pairwise (· < ·)) (hSN : ∀ x ∈ D, x < NN) (hN : D.length = N) (hN2 : N < 1000000)
    (hK : ∀ Z M', Mem.le M M' → Z.Perm D → Z.Pairwise (ltS c) → K (.ext (.tuple #[])) [(114, 3, cE natV (Z)), (1, 26, [.ext ul]), (4, 66, [.slo 12 0 nr 2]), (12, 34, frC R)] M') :
    CallS Try.prog 59 [.slo 114 0 N 1, .fn 38 [.own 1 0, .own 4 0]] [(114, 3, cE natV (D)), (1, 26, [.ext ul]), (4, 66, [.slo 12 0 nr 2]), (12, 34, frC R)] M [] K := by
  refine inlS (cs := []) Try.mixed Try.func59 rfl (by kernel_rfl) 200 rfl rfl ?_
  simp only [Try.f59]
  refine Go1.mk ?_; repeat' ((first | (with_reducible refine Go1.go ?_) | ((with_reducible refine isCall (f := 80) ?_); refine callA ?_) | ((with_reducible refine isCallS (f := 80) ?_); refine (stab_ok ul nr R ho NN hc D N hS hSN hN hN2 (fun Z M2 m2 p2 q2 => Stop.mk ?_))) | (refine And.intro ?_ ?_; (try simp only [sxO] at *); omega) | fail) <;> (try simp (maxSteps := 1000000) only [natV, cE_ment, cE_kill, cE_len, hasK_nil, Nat.mul_one, List.length_set, frC_len, frC_ment, frC_kill, ↓hold_pre, awayP, runOps, regK, step1, newK, genR, appR, obl, buildR, Value.cells, closeK, keepH, outV, retK, ret1, retC, RetV, Option.getD, runD, stepD, afterK, undef, simprocAttr, sxB, ↓sxD, sxE, sxTab]))
  have hk := hK Z M2 m2 p2 q2
  refine Stop.go ?_
  refine Go1.mk ?_; repeat' ((first | (with_reducible refine Go1.go ?_) | (refine And.intro ?_ ?_; (try simp only [sxO] at *); omega) | fail) <;> (try simp (maxSteps := 1000000) only [natV, cE_ment, cE_kill, cE_len, hasK_nil, Nat.mul_one, List.length_set, frC_len, frC_ment, frC_kill, ↓hold_pre, awayP, runOps, regK, step1, newK, genR, appR, obl, buildR, Value.cells, closeK, keepH, outV, retK, ret1, retC, RetV, Option.getD, runD, stepD, afterK, undef, simprocAttr, sxB, ↓sxD, sxE, sxTab]))
  exact hk
end
end Go.Proofs.Ytjapnklocibgaaa.Sx
namespace Go.Proofs.Ytjapnklocibgaaa.Sx
open Go Go.RowKit
set_option linter.unusedVariables false
set_option linter.unusedSimpArgs false
set_option maxRecDepth 100000
set_option maxHeartbeats 8000000
attribute [local congr] fin_congr finG_congr stepG_congr step1_congr runOps_congr brv_congr obl_congr condK_congr LoopK_congr seqK_congr CutK_congr vc_congr DrawK_congr regK_congr CallK_congr AskK_congr newK_congr retC_congr ret1_congr retK_congr outV_congr closeK_congr genR_congr appR_congr finD_congr finGD_congr stepGD_congr stepD_congr CallK0_congr runD_congr okR_congr CallS_congr vcX_congr
attribute [local congr] Stop_congr
def okFL (M : Mem) (L : List FR) : Prop := ∀ x ∈ L, IsF M x.u1 x.u2 x.l1 x.l2
theorem okFL.le {M M' : Mem} {L : List FR} (h : okFL M L) (hM : Mem.le M M') : okFL M' L := fun x hx => (h x hx).le hM
theorem exF_len' (n d : Nat) : (ofN (exF n d).2.1).length ≤ 128 ∧ (ofN (exF n d).2.2).length ≤ 128 := by
  unfold exF
  split
  · assumption
  · simp only [ofN_zero]; simp
section
variable {M : Mem} {K : AV → Hp → Mem → Prop} {u u1 u2 v1 v2 : Value} {l1 l2 k1 k2 : List Nat} {L : List FR}
end
end Go.Proofs.Ytjapnklocibgaaa.Sx
namespace Go.Proofs.Ytjapnklocibgaaa.Sx
open Go Go.RowKit
set_option linter.unusedVariables false
set_option linter.unusedSimpArgs false
set_option maxRecDepth 100000
set_option maxHeartbeats 8000000
attribute [local congr] fin_congr finG_congr stepG_congr step1_congr runOps_congr brv_congr obl_congr condK_congr LoopK_congr seqK_congr CutK_congr vc_congr DrawK_congr regK_congr CallK_congr AskK_congr newK_congr retC_congr ret1_congr retK_congr outV_congr closeK_congr genR_congr appR_congr finD_congr finGD_congr stepGD_congr stepD_congr CallK0_congr runD_congr okR_congr CallS_congr vcX_congr
attribute [local congr] Stop_congr
theorem frC_at {R : List FR} {i : Nat} (h : i < R.length) : ((frC R).drop (i * 2)).take 2 = [.ext R[i].u1, .ext R[i].u2] := by
  unfold frC
  rw [← List.map_drop, ← List.map_take, flat_part (z := 2) (fun _ => rfl) R i h]; rfl
theorem IsR.part {α : Type} {P : Program} {M : Mem} {z : Nat} {f : α → List Value} {u : Value} {l : List α} (h : IsR M z f u l) (hf : ∀ x, (f x).length = z) {T : TypeId} (hk : kindT P T = some true) {zz : Nat} (hz : szO P T = some zz) {i o : Nat} (hi : i < l.length) (ho : o + zz ≤ z) : lookM P T M (addP (elemP u z i) o) = some (.agg (((f l[i]).drop o).take zz).toArray) := by
  rw [SlM.atFS h hk hz hi ho, ← flat_part hf l i hi, List.drop_take, List.drop_drop, List.take_take, Nat.min_eq_left (by omega)]
structure PreO (c : Nat → Nat → Int) : Prop where
  anti : ∀ x y, c x y = - c y x
  tr : ∀ x y z, c x y ≤ 0 → c y z ≤ 0 → c x z ≤ 0
theorem PreO.cmp {c : Nat → Nat → Int} (h : PreO c) : CmpO c := ⟨fun x y => by have := h.anti x y; omega, h.tr⟩
theorem PreO.lex {c d : Nat → Nat → Int} (h : PreO c) (k : PreO d) : PreO (fun x y => if c x y = 0 then d x y else c x y) where
  anti := fun x y => by
    have h1 := h.anti x y
    have h2 := k.anti x y
    by_cases e : c x y = 0
    · rw [if_pos e, if_pos (by omega), h2]
    · rw [if_neg e, if_neg (by omega), h1]
  tr := fun x y z => by
    have h1 := h.anti x y
    have h2 := h.anti y z
    have h3 := h.anti x z
    have t1 := h.tr x y z
    have t2 := h.tr y z x
    have t3 := h.tr z x y
    have k1 := k.tr x y z
    intro g1 g2
    by_cases e1 : c x y = 0 <;> by_cases e2 : c y z = 0 <;> by_cases e3 : c x z = 0 <;> simp only [e1, e2, e3, if_true, if_false] at g1 g2 ⊢ <;> omega
theorem PreO.of {α : Type} {c : α → α → Int} (f : Nat → α) (h1 : ∀ a b, c a b = - c b a) (h2 : ∀ x y z, c (f x) (f y) ≤ 0 → c (f y) (f z) ≤ 0 → c (f x) (f z) ≤ 0) : PreO (fun x y => c (f x) (f y)) := ⟨fun x y => h1 _ _, h2⟩
theorem Cmp.pre {α : Type} {c : α → α → Int} (h : Cmp c) (f : Nat → α) : PreO (fun x y => c (f x) (f y)) := PreO.of f h.anti fun x y z h1 h2 => by
  by_cases e1 : c (f x) (f y) = 0
  · rw [(h.zero _ _).1 e1]; exact h2
  · by_cases e2 : c (f y) (f z) = 0
    · rw [← (h.zero _ _).1 e2]; exact h1
    · have := h.trans (f x) (f y) (f z) (by omega) (by omega); omega
def itD : IR := ⟨[], [], .slice none 0 0, .slice none 0 0, [], [1], 1⟩
def frD : FR := ⟨.slice none 0 0, .slice none 0 0, [], [1]⟩
def itA (L : List IR) (x : Nat) : IR := L[x]?.getD itD
def frA (R : List FR) (x : Nat) : FR := R[x]?.getD frD
theorem itA_in {L : List IR} {x : Nat} (h : x < L.length) : itA L x = L[x] := by unfold itA; rw [List.getElem?_eq_getElem h]; rfl
theorem frA_in {R : List FR} {x : Nat} (h : x < R.length) : frA R x = R[x] := by unfold frA; rw [List.getElem?_eq_getElem h]; rfl
def ordC (L : List IR) (R : List FR) (x y : Nat) : Int := or3 (cmpF (frA R y).l1 (frA R y).l2 (frA R x).l1 (frA R x).l2) (cmpS (itA L x).pk (itA L y).pk) (cmpS (itA L x).ts (itA L y).ts)
section
variable {M : Mem} {ul : Value} {L : List IR} {R : List FR}
theorem ocmp_ok (hu : IsR M 5 IR.c ul L) (hL : okIL M L) (hb : L.length < 1000000) (hR : okFL M R) (hl : R.length = L.length) : CmpK M ul L.length R (ordC L R) L.length := by
  intro x y M1 K hx hy hM hK
  refine inlS (cs := []) Try.mixed Try.func38 rfl (by kernel_rfl) 100 rfl rfl ?_
  simp only [Try.f38]
  have hu1 := hu.le hM
  have hR1 := hR.le hM
  have p1 := hu1.pt hx
  have p2 := hu1.pt hy
  have hnn := hu1.nn hx
  have a1 := hu1.part (P := Try.prog) (fun _ => rfl) tk44 tz44 (o := 0) hx (by decide)
  have a2 := hu1.part (P := Try.prog) (fun _ => rfl) tk44 tz44 (o := 0) hy (by decide)
  have b1 : (0 : Int) ≤ (x : Int) := by omega
  have b2 : (x : Int) < (L.length : Int) := by omega
  have b3 : (0 : Int) ≤ (y : Int) := by omega
  have b4 : (y : Int) < (L.length : Int) := by omega
  have r1 := frC_at (R := R) (i := x) (by omega)
  have r2 := frC_at (R := R) (i := y) (by omega)
  have f1 := hR1 _ (List.getElem_mem (show x < R.length by omega))
  have f2 := hR1 _ (List.getElem_mem (show y < R.length by omega))
  have hc : ordC L R x y = or3 (cmpF R[y].l1 R[y].l2 R[x].l1 R[x].l2) (cmpS L[x].pk L[y].pk) (cmpS L[x].ts L[y].ts) := by
    unfold ordC
    rw [itA_in hx, itA_in hy, frA_in (by omega), frA_in (by omega)]
  rw [hc] at hK
  clear hc hu hL hR
  generalize L[x] = lx at *
  generalize L[y] = ly at *
  generalize R[x] = rx at *
  generalize R[y] = ry at *
  obtain ⟨pk1, ts1, x1, x2, k1, k2, co1⟩ := lx
  obtain ⟨pk2, ts2, y1, y2, m1, m2, co2⟩ := ly
  obtain ⟨q1, q2, n1, n2⟩ := rx
  obtain ⟨s1, s2, o1, o2⟩ := ry
  have a1 : lookM Try.prog 44 M1 (addP (elemP ul 5 x) 0) = some (.agg #[.string (bs pk1), .string (bs ts1)]) := a1
  have a2 : lookM Try.prog 44 M1 (addP (elemP ul 5 y) 0) = some (.agg #[.string (bs pk2), .string (bs ts2)]) := a2
  simp only at r1 r2 f1 f2 hK
  have hfl := frC_len R
  have j1 : x * 2 + 2 ≤ R.length * 2 := by omega
  have j2 : y * 2 + 2 ≤ R.length * 2 := by omega
  refine Go1.mk ?_; repeat' ((first | (with_reducible refine Go1.go ?_) | (((with_reducible refine isCall0 (f := 14) ?_); refine callA0_nil (by kernel_rfl) ?_; refine (fcmp_ok f2 f1 (fun M2 m2 => Stop.mk ?_)))) | ((with_reducible refine isDraw [some 9, some 10, some 11, some 12, some 13, some 14, some 15, some 16, some 17, some 18, some 7, some 8, none, none] (by decide) ?_); refine draw_rule [(0, []), (1, [0]), (2, []), (3, []), (4, []), (5, [0, 4]), (6, [0, 4, 5]), (7, [0, 4]), (8, [0, 4]), (9, [0, 4]), (10, [0, 4, 5, 9]), (11, [0, 4, 5, 9]), (12, [5, 9]), (13, [])] [[], [], [0, 1], [0, 1, 2], [0, 1, 2, 3], [], [], [5, 6], [5, 6, 7], [5, 6, 7, 8], [], [], [0, 1, 2, 3, 4, 10, 11], [0, 1, 2, 3, 4, 5, 6, 7, 8, 9, 10, 11, 12]] [9, 10, 11, 12, 13, 14, 15, 16, 17, 18, 7, 8] [] (by kernel_rfl) (by kernel_rfl) (by kernel_rfl) (by kernel_rfl) (by exact trivial) ?_) | ((with_reducible refine isDraw [some 19, some 20, some 21, some 22, some 23, some 24, some 25, some 26, some 27, some 28, some 29, some 30, some 31, some 32, some 33, some 34, some 35, some 36, some 37, some 38, some 39, some 6] (by decide) ?_); refine draw_rule [(0, []), (1, [0]), (2, []), (3, []), (4, [0, 3]), (5, [0, 3, 4]), (6, [0, 3]), (7, [0, 3]), (9, [0, 3, 4, 7]), (10, [0, 3, 4, 7]), (11, [0, 3, 4, 7, 10]), (12, [0, 3, 4, 7, 10]), (14, [0, 3, 4, 7, 10, 12]), (15, [0, 3, 4, 7, 10, 12]), (16, [0, 3, 4, 7, 10, 12, 15]), (17, [0, 3, 4, 7, 10, 12, 15]), (8, [10, 12, 15, 17]), (13, [15, 17]), (18, []), (19, []), (20, []), (21, [])] [[], [], [0, 1], [0, 1, 2], [], [], [4, 5], [4, 5, 6], [0, 1, 2, 3, 4, 5, 6, 7], [], [9], [], [11], [0, 1, 2, 3, 4, 5, 6, 7, 8, 9, 10, 11, 12], [], [14], [], [16], [0, 1, 2, 3, 4, 5, 6, 7, 8, 9, 10, 11, 12, 13, 14, 15, 16, 17], [0, 1, 2, 3, 4, 5, 6, 7, 8, 9, 10, 11, 12, 13, 14, 15, 16, 17, 18], [0, 1, 2, 3, 4, 5, 6, 7, 8, 9, 10, 11, 12, 13, 14, 15, 16, 17, 18, 19], [0, 1, 2, 3, 4, 5, 6, 7, 8, 9, 10, 11, 12, 13, 14, 15, 16, 17, 18, 19, 20]] [19, 20, 21, 22, 23, 24, 25, 26, 27, 28, 29, 30, 31, 32, 33, 34, 35, 36] [] (by kernel_rfl) (by kernel_rfl) (by kernel_rfl) (by kernel_rfl) (by exact trivial) ?_) | (refine And.intro ?_ ?_; (try simp only [sxO] at *); omega) | fail) <;> (try simp (maxSteps := 1000000) only [hu1.one, hu1.len, hu1.sl, hnn, p1, p2, a1, a2, b1, b2, b3, b4, r1, r2, hfl, j1, j2, frC_ment, frC_kill, hasK_nil, f1.n.one, f1.d.one, f2.n.one, f2.d.one, bs_mk, bs_app, bs_ext, bs_size, bs_toList, bs_at, bs_cells, List.take_length, imp_ga, guard_pk, guard_pk2, ↓hold_pre, awayP, runOps, regK, step1, newK, genR, appR, obl, buildR, Value.cells, closeK, keepH, outV, retK, ret1, retC, RetV, Option.getD, runD, stepD, afterK, undef, simprocAttr, sxB, ↓sxD, sxE, sxTab]))
  have m2 : Mem.le M1 M2 := m2
  have hk := hK M2 m2
  refine Stop.go ?_
  refine Go1.mk ?_; repeat' ((first | (with_reducible refine Go1.go ?_) | (((with_reducible refine isCall0 (f := 40) ?_); refine callA0_nil (by kernel_rfl) ?_; refine (cmpS_ok pk1 pk2 ?_))) | (((with_reducible refine isCall0 (f := 40) ?_); refine callA0_nil (by kernel_rfl) ?_; refine (cmpS_ok ts1 ts2 ?_))) | ((with_reducible refine isCall0 (f := 39) ?_); refine callA0 ?_) | ((with_reducible refine isCallS (f := 39) ?_); refine (or3_ok 138 _ _ _ _ ?_)) | ((with_reducible refine isDraw [some 9, some 10, some 11, some 12, some 13, some 14, some 15, some 16, some 17, some 18, some 7, some 8, none, none] (by decide) ?_); refine draw_rule [(0, []), (1, [0]), (2, []), (3, []), (4, []), (5, [0, 4]), (6, [0, 4, 5]), (7, [0, 4]), (8, [0, 4]), (9, [0, 4]), (10, [0, 4, 5, 9]), (11, [0, 4, 5, 9]), (12, [5, 9]), (13, [])] [[], [], [0, 1], [0, 1, 2], [0, 1, 2, 3], [], [], [5, 6], [5, 6, 7], [5, 6, 7, 8], [], [], [0, 1, 2, 3, 4, 10, 11], [0, 1, 2, 3, 4, 5, 6, 7, 8, 9, 10, 11, 12]] [9, 10, 11, 12, 13, 14, 15, 16, 17, 18, 7, 8] [] (by kernel_rfl) (by kernel_rfl) (by kernel_rfl) (by kernel_rfl) (by exact trivial) ?_) | ((with_reducible refine isDraw [some 19, some 20, some 21, some 22, some 23, some 24, some 25, some 26, some 27, some 28, some 29, some 30, some 31, some 32, some 33, some 34, some 35, some 36, some 37, some 38, some 39, some 6] (by decide) ?_); refine draw_rule [(0, []), (1, [0]), (2, []), (3, []), (4, [0, 3]), (5, [0, 3, 4]), (6, [0, 3]), (7, [0, 3]), (9, [0, 3, 4, 7]), (10, [0, 3, 4, 7]), (11, [0, 3, 4, 7, 10]), (12, [0, 3, 4, 7, 10]), (14, [0, 3, 4, 7, 10, 12]), (15, [0, 3, 4, 7, 10, 12]), (16, [0, 3, 4, 7, 10, 12, 15]), (17, [0, 3, 4, 7, 10, 12, 15]), (8, [10, 12, 15, 17]), (13, [15, 17]), (18, []), (19, []), (20, []), (21, [])] [[], [], [0, 1], [0, 1, 2], [], [], [4, 5], [4, 5, 6], [0, 1, 2, 3, 4, 5, 6, 7], [], [9], [], [11], [0, 1, 2, 3, 4, 5, 6, 7, 8, 9, 10, 11, 12], [], [14], [], [16], [0, 1, 2, 3, 4, 5, 6, 7, 8, 9, 10, 11, 12, 13, 14, 15, 16, 17], [0, 1, 2, 3, 4, 5, 6, 7, 8, 9, 10, 11, 12, 13, 14, 15, 16, 17, 18], [0, 1, 2, 3, 4, 5, 6, 7, 8, 9, 10, 11, 12, 13, 14, 15, 16, 17, 18, 19], [0, 1, 2, 3, 4, 5, 6, 7, 8, 9, 10, 11, 12, 13, 14, 15, 16, 17, 18, 19, 20]] [19, 20, 21, 22, 23, 24, 25, 26, 27, 28, 29, 30, 31, 32, 33, 34, 35, 36] [] (by kernel_rfl) (by kernel_rfl) (by kernel_rfl) (by kernel_rfl) (by exact trivial) ?_) | (refine And.intro ?_ ?_; (try simp only [sxO] at *); omega) | fail) <;> (try simp (maxSteps := 1000000) only [frC_ment, frC_kill, hasK_nil, bs_mk, bs_app, bs_ext, bs_size, bs_toList, bs_at, bs_cells, List.take_length, imp_ga, guard_pk, guard_pk2, ↓hold_pre, awayP, runOps, regK, step1, newK, genR, appR, obl, buildR, Value.cells, closeK, keepH, outV, retK, ret1, retC, RetV, Option.getD, runD, stepD, afterK, undef, simprocAttr, sxB, ↓sxD, sxE, sxTab]))
  exact hk
end
end Go.Proofs.Ytjapnklocibgaaa.Sx
namespace Go.Proofs.Ytjapnklocibgaaa.Sx
open Go Go.RowKit
set_option linter.unusedVariables false
set_option linter.unusedSimpArgs false
set_option maxRecDepth 100000
set_option maxHeartbeats 8000000
attribute [local congr] fin_congr finG_congr stepG_congr step1_congr runOps_congr brv_congr obl_congr condK_congr LoopK_congr seqK_congr CutK_congr vc_congr DrawK_congr regK_congr CallK_congr AskK_congr newK_congr retC_congr ret1_congr retK_congr outV_congr closeK_congr genR_congr appR_congr finD_congr finGD_congr stepGD_congr stepD_congr CallK0_congr runD_congr okR_congr CallS_congr vcX_congr
attribute [local congr] Stop_congr
theorem FrzF.keep {K : AV → Hp → Mem → Prop} {H H2 : Hp} {M' : Mem} {k n : Nat} {T : TypeId} (cs : List Value) (h1 : lkH H k = none) (h2 : cs.length = n) (h3 : hasK k (mentH H2) = false) (h4 : lkH H2 k = none) (h : ∀ u M'', Mem.le M' M'' → SlM M'' 1 u n cs → FreshS M' u → K (.ext u) H2 M'') : FrzF K H (.slo k 0 n 1) ((k, T, cs.map .ext) :: H2) M' :=
  .inr ⟨none, [], [], k, n, 1, T, cs, H2, rfl, rfl, h4, h1, by omega, by simpa [mentL] using h3, h⟩
section
variable {M : Mem} {K : AV → Hp → Mem → Prop} {ul : Value} {nr : Nat} {R : List FR} {c : Nat → Nat → Int}
def osSt (M : Mem) (ul : Value) (nr : Nat) (R : List FR) (n i m : Nat) (D : List Nat) : St := { env := [(8, .ext (.int .i64 (i : Int))), (7, .ext (.int .i64 (n : Int))), (5, .slo 114 0 m 1), (4, .ext (.slice none 0 0)), (1, .fn 38 [.own 1 0, .own 4 0])], hp := [(114, 3, cE natV D), (1, 26, [.ext ul]), (4, 66, [.slo 12 0 nr 2]), (12, 34, frC R)], M := M, kb := 100, fx := [1, 4, 12] }
theorem sorted_ok (ho : CmpO c) (NN : Nat) (hc : CmpK M ul nr R c NN) (N : Nat) (hN : N ≤ NN) (hN2 : N < 1000000) (hK : ∀ v Z M', Mem.le M M' → Z.Perm (List.range N) → Z.Pairwise (ltS c) → IsL M' natV v Z → FreshS M v → K (.ext v) [(1, 26, [.ext ul]), (4, 66, [.slo 12 0 nr 2]), (12, 34, frC R)] M') :
    CallS Try.prog 37 [.ext (.int .i64 (N : Int)), .fn 38 [.own 1 0, .own 4 0]] [(1, 26, [.ext ul]), (4, 66, [.slo 12 0 nr 2]), (12, 34, frC R)] M [] K := by
  refine CallS.frzF ?_
  refine inlS (cs := []) Try.mixed Try.func37 rfl (by kernel_rfl) 100 rfl rfl ?_
  simp only [Try.f37]
  refine Go1.mk ?_; repeat' ((first | (with_reducible refine Go1.go ?_) | (refine And.intro ?_ ?_; (try simp only [sxO] at *); omega) | fail) <;> (try simp (maxSteps := 1000000) only [frC_ment, frC_kill, hasK_nil, ↓hold_pre, awayP, runOps, regK, step1, newK, genR, appR, obl, buildR, Value.cells, closeK, keepH, outV, retK, ret1, retC, RetV, Option.getD, runD, stepD, afterK, undef, simprocAttr, sxB, ↓sxD, sxE, sxTab]))
  refine ⟨fun d z => ∃ i, i ≤ N ∧ d = N - i ∧ z = osSt M ul nr R N i i (List.range i), ⟨N, osSt M ul nr R N 0 0 [], (le_nil 5 114 3 1 rfl (.inl (by simp [awayB, frC_ment, mentE, mentH, mentL, AV.ment, hasK]))).trans (le_sub ⟨rfl, rfl, rfl, rfl, rfl, trivial⟩ ⟨by simp [lkH, osSt, cE], by simp [lkH, osSt], by simp [lkH, osSt], by simp [lkH, osSt], trivial⟩ rfl rfl rfl (by simp [keepLt, osSt, lkH])), ⟨0, by omega, by omega, rfl⟩⟩, ?_⟩
  rintro d z ⟨i, hi, rfl, rfl⟩
  by_cases hlt : i < N
  · have d1 : decide ((i : Int) < (N : Int)) = true := by rw [decide_eq_true_eq]; omega
    have hw : IntKind.i64.wrap ((i : Int) + 1) = ((i + 1 : Nat) : Int) := succ_i (by omega)
    have hlen2 : (cE natV (List.range i)).length = i := by rw [cE_len, List.length_range]
    have hsn : cE natV (List.range i) ++ [.ext (.int .i64 (i : Int))] = cE natV (List.range (i + 1)) := by
      rw [List.range_succ]; exact cE_snoc natV _ i
    refine Go1.mk ?_; repeat' ((first | (with_reducible refine Go1.go ?_) | (refine And.intro ?_ ?_; (try simp only [sxO] at *); omega) | fail) <;> (try simp (maxSteps := 1000000) only [osSt, d1, hw, hlen2, hsn, cE_ment, cE_kill, frC_ment, frC_kill, hasK_nil, ↓hold_pre, awayP, runOps, regK, step1, newK, genR, appR, obl, buildR, Value.cells, closeK, keepH, outV, retK, ret1, retC, RetV, Option.getD, runD, stepD, afterK, undef, simprocAttr, sxB, ↓sxD, sxE, sxTab]))
    exact ⟨N - (i + 1), osSt M ul nr R N (i + 1) (i + 1) (List.range (i + 1)), by omega, le_sub ⟨rfl, rfl, rfl, rfl, rfl, trivial⟩ ⟨by simp [lkH, osSt], by simp [lkH, osSt], by simp [lkH, osSt], by simp [lkH, osSt], trivial⟩ rfl rfl rfl (by simp [keepLt, osSt, lkH]), i + 1, by omega, rfl, rfl⟩
  · obtain rfl : i = N := by omega
    have d1 : decide ((i : Int) < (i : Int)) = false := by simp
    refine Go1.mk ?_; repeat' ((first | (with_reducible refine Go1.go ?_) | ((with_reducible refine isCall (f := 59) ?_); refine callA ?_) | ((with_reducible refine isCallS (f := 59) ?_); refine (sort_ok ul nr R ho NN hc (List.range i) i (List.pairwise_lt_range) (fun x hx => by rw [List.mem_range] at hx; omega) List.length_range hN2 (fun Z M2 z1 z2 z3 => Stop.mk ?_))) | (refine And.intro ?_ ?_; (try simp only [sxO] at *); omega) | fail) <;> (try simp (maxSteps := 1000000) only [osSt, d1, cE_ment, cE_kill, frC_ment, frC_kill, hasK_nil, ↓hold_pre, awayP, runOps, regK, step1, newK, genR, appR, obl, buildR, Value.cells, closeK, keepH, outV, retK, ret1, retC, RetV, Option.getD, runD, stepD, afterK, undef, simprocAttr, sxB, ↓sxD, sxE, sxTab]))
    have hk := fun v M3 h1 h2 h3 => hK v Z M3 h1 z2 z3 h2 h3
    have zl : (Z.map natV).length = i := by rw [List.length_map, z2.length_eq, List.length_range]
    refine Stop.go ?_
    refine Go1.mk ?_; repeat' ((first | (with_reducible refine Go1.go ?_) | (refine And.intro ?_ ?_; (try simp only [sxO] at *); omega) | fail) <;> (try simp (maxSteps := 1000000) only [cE_ment, cE_kill, frC_ment, frC_kill, hasK_nil, ↓hold_pre, awayP, runOps, regK, step1, newK, genR, appR, obl, buildR, Value.cells, closeK, keepH, outV, retK, ret1, retC, RetV, Option.getD, runD, stepD, afterK, undef, simprocAttr, sxB, ↓sxD, sxE, sxTab]))
    refine FrzF.keep (Z.map natV) rfl zl (by simp [mentH, mentL, AV.ment, frC_ment, hasK]) rfl fun v M3 h1 h2 h3 => hk v M3 (z1.trans h1) ?_ (h3.le z1)
    rw [← zl, List.length_map] at h2
    exact h2
end
end Go.Proofs.Ytjapnklocibgaaa.Sx
namespace Go.Proofs.Ytjapnklocibgaaa.Sx
open Go Go.RowKit
set_option linter.unusedVariables false
set_option linter.unusedSimpArgs false
set_option maxRecDepth 100000
set_option maxHeartbeats 8000000
attribute [local congr] fin_congr finG_congr stepG_congr step1_congr runOps_congr brv_congr obl_congr condK_congr LoopK_congr seqK_congr CutK_congr vc_congr DrawK_congr regK_congr CallK_congr AskK_congr newK_congr retC_congr ret1_congr retK_congr outV_congr closeK_congr genR_congr appR_congr finD_congr finGD_congr stepGD_congr stepD_congr CallK0_congr runD_congr okR_congr CallS_congr vcX_congr
attribute [local congr] Stop_congr
theorem cmpN_anti (a b : Nat) : cmpN a b = - cmpN b a := by
  unfold cmpN
  (repeat' split) <;> omega
theorem cmpN_le0 {a b : Nat} : cmpN a b ≤ 0 ↔ a ≤ b := by
  unfold cmpN
  (repeat' split) <;> omega
theorem cmpN_mul {a b k : Nat} (hk : 0 < k) : cmpN (a * k) (b * k) = cmpN a b := by
  unfold cmpN
  have h1 : a * k < b * k ↔ a < b := Nat.mul_lt_mul_right hk
  have h2 : a * k = b * k ↔ a = b := Nat.mul_left_inj (by omega)
  simp only [h1, h2]
theorem cmpF_pos {a b c d : List Nat} (h1 : chkF a b = true) (h2 : chkF c d = true) : cmpF a b c d = cmpN (valN a * valN d) (valN c * valN b) := by
  unfold cmpF; rw [h1, h2, Bool.and_self, if_pos rfl]
theorem cmpF_anti (a b c d : List Nat) : cmpF a b c d = - cmpF c d a b := by
  unfold cmpF
  rw [Bool.and_comm (chkF c d)]
  split
  · exact cmpN_anti _ _
  · rfl
theorem chkF_pos {a b : List Nat} (h : chkF a b = true) : 0 < valN b := by
  unfold chkF at h
  simp only [Bool.and_eq_true, Bool.not_eq_true', decide_eq_false_iff_not] at h
  omega
theorem cmpF_tr {a b c d e f : List Nat} (h1 : chkF a b = true) (h2 : chkF c d = true) (h3 : chkF e f = true) (g1 : cmpF a b c d ≤ 0) (g2 : cmpF c d e f ≤ 0) : cmpF a b e f ≤ 0 := by
  rw [cmpF_pos h1 h2, cmpN_le0] at g1
  rw [cmpF_pos h2 h3, cmpN_le0] at g2
  rw [cmpF_pos h1 h3, cmpN_le0]
  have p2 := chkF_pos h2
  have q1 := Nat.mul_le_mul_right (valN f) g1
  have q2 := Nat.mul_le_mul_right (valN b) g2
  refine Nat.le_of_mul_le_mul_right (c := valN d) ?_ p2
  calc valN a * valN f * valN d = valN a * valN d * valN f := by rw [Nat.mul_right_comm]
    _ ≤ valN c * valN b * valN f := q1
    _ = valN c * valN f * valN b := by rw [Nat.mul_right_comm]
    _ ≤ valN e * valN d * valN b := q2
    _ = valN e * valN b * valN d := by rw [Nat.mul_right_comm]
structure RateOK (r : FR) (x : IR) : Prop where
  chk : chkF r.l1 r.l2 = true
  eq : valN r.l1 * (x.cost.toNat * valN x.l2) = valN x.l1 * valN r.l2
def ratC (L : List IR) (x y : Nat) : Int := or3 (cmpN (valN (itA L y).l1 * ((itA L x).cost.toNat * valN (itA L x).l2)) (valN (itA L x).l1 * ((itA L y).cost.toNat * valN (itA L y).l2))) (cmpS (itA L x).pk (itA L y).pk) (cmpS (itA L x).ts (itA L y).ts)
theorem chk_frD : chkF frD.l1 frD.l2 = true := by decide +kernel
theorem ordC_pre {L : List IR} {R : List FR} (hR : ∀ r ∈ R, chkF r.l1 r.l2 = true) : PreO (ordC L R) := by
  have h : ∀ x, chkF (frA R x).l1 (frA R x).l2 = true := fun x => by
    by_cases hx : x < R.length
    · rw [frA_in hx]; exact hR _ (List.getElem_mem hx)
    · have : frA R x = frD := by unfold frA; rw [List.getElem?_eq_none (by omega)]; rfl
      rw [this]; exact chk_frD
  have h1 : PreO (fun x y => cmpF (frA R y).l1 (frA R y).l2 (frA R x).l1 (frA R x).l2) := ⟨fun x y => cmpF_anti _ _ _ _, fun x y z g1 g2 => cmpF_tr (h z) (h y) (h x) g2 g1⟩
  exact h1.lex ((cmp_S.pre fun x => (itA L x).pk).lex (cmp_S.pre fun x => (itA L x).ts))
theorem ordC_rat {L : List IR} {R : List FR} (hl : R.length = L.length) (hR : ∀ i (h : i < L.length), RateOK (R[i]'(by omega)) L[i]) (hc : ∀ x ∈ L, chkI x = true) {x y : Nat} (hx : x < L.length) (hy : y < L.length) : ordC L R x y = ratC L x y := by
  unfold ordC ratC
  rw [frA_in (by omega), frA_in (by omega)]
  have r1 := hR x hx
  have r2 := hR y hy
  have e1 := r1.eq
  have e2 := r2.eq
  rw [← itA_in hx] at e1
  rw [← itA_in hy] at e2
  rw [cmpF_pos r2.chk r1.chk]
  have c1 := hc _ (List.getElem_mem hx)
  have c2 := hc _ (List.getElem_mem hy)
  rw [← itA_in hx] at c1
  rw [← itA_in hy] at c2
  have pos : ∀ z : IR, chkI z = true → 0 < z.cost.toNat * valN z.l2 := fun z hz => by
    unfold chkI at hz
    simp only [Bool.and_eq_true, decide_eq_true_eq] at hz
    exact Nat.mul_pos (by omega) (chkF_pos hz.1.1.1.1)
  have p1 := pos _ c1
  have p2 := pos _ c2
  generalize (itA L x).cost.toNat * valN (itA L x).l2 = kx at *
  generalize (itA L y).cost.toNat * valN (itA L y).l2 = ky at *
  congr 1
  rw [← cmpN_mul (a := valN (R[y]'(by omega)).l1 * valN (R[x]'(by omega)).l2) (Nat.mul_pos p1 p2), ← cmpN_mul (a := valN (itA L y).l1 * kx) (Nat.mul_pos (chkF_pos r1.chk) (chkF_pos r2.chk))]
  generalize valN (R[x]'(by omega)).l1 = n1 at *
  generalize valN (R[y]'(by omega)).l1 = n2 at *
  generalize valN (R[x]'(by omega)).l2 = d1 at *
  generalize valN (R[y]'(by omega)).l2 = d2 at *
  have a1 : n2 * d1 * (kx * ky) = valN (itA L y).l1 * kx * (d1 * d2) := by
    calc n2 * d1 * (kx * ky) = (n2 * ky) * (d1 * kx) := by ac_rfl
      _ = (valN (itA L y).l1 * d2) * (d1 * kx) := by rw [e2]
      _ = _ := by ac_rfl
  have a2 : n1 * d2 * (kx * ky) = valN (itA L x).l1 * ky * (d1 * d2) := by
    calc n1 * d2 * (kx * ky) = (n1 * kx) * (d2 * ky) := by ac_rfl
      _ = (valN (itA L x).l1 * d1) * (d2 * ky) := by rw [e1]
      _ = _ := by ac_rfl
  rw [a1, a2]
end Go.Proofs.Ytjapnklocibgaaa.Sx
namespace Go.Proofs.Ytjapnklocibgaaa.Sx
open Go Go.RowKit
set_option linter.unusedVariables false
set_option linter.unusedSimpArgs false
set_option maxRecDepth 100000
set_option maxHeartbeats 8000000
attribute [local congr] fin_congr finG_congr stepG_congr step1_congr runOps_congr brv_congr obl_congr condK_congr LoopK_congr seqK_congr CutK_congr vc_congr DrawK_congr regK_congr CallK_congr AskK_congr newK_congr retC_congr ret1_congr retK_congr outV_congr closeK_congr genR_congr appR_congr finD_congr finGD_congr stepGD_congr stepD_congr CallK0_congr runD_congr okR_congr CallS_congr vcX_congr
attribute [local congr] Stop_congr
theorem cells_sl {u : Value} (h : isSl u = true) : u.cells = #[u] := by
  cases u <;> first | rfl | (simp [isSl] at h)
def frN : FR := ⟨.slice none 0 0, .slice none 0 0, [], []⟩
theorem repN_fr : ∀ n : Nat, (repN [.slice none 0 0, .slice none 0 0] n).map AV.ext = frC (List.replicate n frN)
  | 0 => rfl
  | n + 1 => by
    have ih := repN_fr n
    rw [List.replicate_succ]
    unfold frC at ih ⊢
    rw [List.flatMap_cons, List.map_append, ← ih]
    rfl
theorem frC_set {R : List FR} {i : Nat} (h : i < R.length) (x : FR) : (frC R).take (i * 2) ++ ([.ext x.u1, .ext x.u2] ++ (frC R).drop (i * 2 + 2)) = frC (R.set i x) := by
  have e : R = R.take i ++ R[i] :: R.drop (i + 1) := by rw [← List.drop_eq_getElem_cons h, List.take_append_drop]
  have hl : (R.take i).length = i := by rw [List.length_take]; omega
  have e2 : R.set i x = R.take i ++ x :: R.drop (i + 1) := by rw [List.set_eq_take_append_cons_drop, if_pos h]
  have e3 : frC R = frC (R.take i) ++ (.ext R[i].u1 :: .ext R[i].u2 :: frC (R.drop (i + 1))) := by
    refine (congrArg frC e).trans ?_
    unfold frC; simp only [List.flatMap_append, List.flatMap_cons, List.map_append, FR.c]; rfl
  have e4 : (frC (R.take i)).length = i * 2 := by rw [frC_len, hl]
  rw [e2, e3, List.take_left' e4, show i * 2 + 2 = (frC (R.take i)).length + 2 by omega, List.drop_append, List.drop_eq_nil_of_le (by omega), Nat.add_sub_cancel_left]
  unfold frC; simp [FR.c]
def ordE (L : List IR) : Int := if chkIL L then 0 else 1
def ordS (L : List IR) (Z : List Nat) : Prop := if chkIL L then Z.Perm (List.range L.length) ∧ Z.Pairwise (ltS (ratC L)) else Z = []
theorem chkI_parts {x : IR} (h : chkI x = true) : chkF x.l1 x.l2 = true ∧ x.l1.length ≤ 1 ∧ x.l2.length ≤ 1 ∧ 1 ≤ x.cost ∧ x.cost ≤ 1048576 := by
  unfold chkI at h
  simp only [Bool.and_eq_true, decide_eq_true_eq] at h
  exact ⟨h.1.1.1.1, h.1.1.1.2, h.1.1.2, h.1.2, h.2⟩
theorem rate_is {x : IR} {M : Mem} (hx : x.ok M) (h : chkI x = true) : ∃ n d, divF x.l1 x.l2 (ofN x.cost.toNat) (ofN 1) = (0, n, d) ∧ (∀ r : FR, r.l1 = ofN n → r.l2 = ofN d → RateOK r x) ∧ (ofN n).length ≤ 128 ∧ (ofN d).length ≤ 128 := by
  obtain ⟨h1, h2, h3, h4, h5⟩ := chkI_parts h
  obtain ⟨e1, e2, b1, b2, p, hg⟩ := chkF_ok hx.f.on hx.f.od h1
  have hk : (ofN x.cost.toNat).length ≤ 1 := ofN_len_le (by rw [show wN 1 = 4294967296 from rfl]; omega)
  have h1' : (ofN 1).length ≤ 1 := by rw [ofN_u32 (by decide) (by decide)]; decide
  have hc : chkF (ofN x.cost.toNat) (ofN 1) = true := by
    unfold chkF
    rw [chkN_ofN (by omega), chkN_ofN (by omega), valN_ofN, valN_ofN, Nat.gcd_one_right]; rfl
  have hl := mul_len x.cost.toNat (valN x.l2)
  rw [← e2] at hl
  have hn1 : (ofN (valN x.l1)).length ≤ 2 := by rw [← e1]; omega
  obtain ⟨n, d, q1, q2, q3, q4, q5, q6⟩ := exF_low (x := valN x.l1 * 1) (y := x.cost.toNat * valN x.l2) (k := 2) (Nat.mul_pos (by omega) p) (by rw [Nat.mul_one]; exact hn1) (by omega) (by decide)
  refine ⟨n, d, ?_, fun r r1 r2 => ⟨?_, ?_⟩, by omega, by omega⟩
  · unfold divF
    rw [h1, hc, Bool.and_self, if_pos rfl, valN_ofN, valN_ofN, if_neg (by omega), q1]
  · rw [r1, r2]
    unfold chkF
    rw [chkN_ofN (by omega), chkN_ofN (by omega), valN_ofN, valN_ofN, q3, decide_eq_false (by omega)]; rfl
  · rw [r1, r2, valN_ofN, valN_ofN, q2, Nat.mul_one]
section
variable {M : Mem} {K : AV → Hp → Mem → Prop} {u : Value} {L : List IR}
def orSt (M : Mem) (u : Value) (n i : Nat) (R : List FR) : St := { env := [(15, .ext (.int .i64 (i : Int))), (14, .ext (.int .i64 (n : Int))), (13, .ext u), (4, .own 4 0), (1, .own 1 0)], hp := [(1, 26, [.ext u]), (4, 66, [.slo 12 0 n 2]), (12, 34, frC R)], M := M, kb := 0, fx := [] }
theorem order_ok (hu : IsR M 5 IR.c u L) (hL : okIL M L) (hb : L.length < 1000000) (hK : ∀ v Z M', Mem.le M M' → ordS L Z → IsL M' natV v Z → FreshS M v → K (.ext (.tuple #[v, .int .i64 (ordE L)])) [] M') : CallS Try.prog 11 [.ext u] [] M [] K := by
  have hce : u.cells = #[u] := cells_sl hu.sl
  unfold Value.cells at hce
  refine inlS (cs := []) Try.mixed Try.func11 rfl (by kernel_rfl) 0 rfl rfl ?_
  simp only [Try.f11]
  refine Go1.mk ?_; repeat' ((first | (with_reducible refine Go1.go ?_) | (((with_reducible refine isCall (f := 28) ?_); refine callA_nil (by kernel_rfl) ?_; refine (ocheck_ok hu hL hb (fun M1 m1 => Stop.mk ?_)))) | (refine And.intro ?_ ?_; (try simp only [sxO] at *); omega) | fail) <;> (try simp (maxSteps := 1000000) only [hu.one, hce, ↓hold_pre, awayP, runOps, regK, step1, newK, genR, appR, obl, buildR, Value.cells, closeK, keepH, outV, retK, ret1, retC, RetV, Option.getD, runD, stepD, afterK, undef, simprocAttr, sxB, ↓sxD, sxE, sxTab]))
  have m1 : Mem.le M M1 := m1
  unfold ordE ordS at hK
  cases hc : chkIL L with
  | false =>
    rw [hc] at hK
    have hk := hK (.slice none 0 0) [] M1 m1 (by simp) (isL_nil _ _ _) (freshS_nil _ _)
    refine Stop.go ?_
    refine Go1.mk ?_; repeat' ((first | (with_reducible refine Go1.go ?_) | (refine And.intro ?_ ?_; (try simp only [sxO] at *); omega) | fail) <;> (try simp (maxSteps := 1000000) only [↓hold_pre, awayP, runOps, regK, step1, newK, genR, appR, obl, buildR, Value.cells, closeK, keepH, outV, retK, ret1, retC, RetV, Option.getD, runD, stepD, afterK, undef, simprocAttr, sxB, ↓sxD, sxE, sxTab]))
    exact hk
  | true =>
    rw [hc] at hK
    simp only [if_true] at hK
    have hu1 := hu.le m1
    have hL1 := hL.le m1
    have hcc := hc
    unfold chkIL at hcc
    simp only [Bool.and_eq_true, decide_eq_true_eq] at hcc
    obtain ⟨h64, hall⟩ := hcc
    have hall := List.all_eq_true.1 hall
    have t1 := Int.toNat_natCast L.length
    have t2 := repN_fr L.length
    refine Stop.go ?_
    refine Go1.mk ?_; repeat' ((first | (with_reducible refine Go1.go ?_) | (refine And.intro ?_ ?_; (try simp only [sxO] at *); omega) | fail) <;> (try simp (maxSteps := 1000000) only [hu1.one, hu1.len, hu1.sl, t1, t2, frC_ment, frC_kill, hasK_nil, List.nil_append, ↓hold_pre, awayP, runOps, regK, step1, newK, genR, appR, obl, buildR, Value.cells, closeK, keepH, outV, retK, ret1, retC, RetV, Option.getD, runD, stepD, afterK, undef, simprocAttr, sxB, ↓sxD, sxE, sxTab]))
    refine ⟨fun m z => ∃ M' R i, m = L.length - i ∧ i ≤ L.length ∧ Mem.le M M' ∧ okFL M' R ∧ R.length = L.length ∧ (∀ j (h : j < L.length) (h2 : j < R.length), j < i → RateOK R[j] L[j]) ∧ z = orSt M' u L.length i R,
      ⟨L.length, orSt M1 u L.length 0 (List.replicate L.length frN), le_sub ⟨rfl, rfl, rfl, rfl, rfl, trivial⟩ ⟨rfl, rfl, rfl, trivial⟩ rfl rfl rfl (keepLt0 _), ⟨M1, _, 0, by omega, by omega, m1, fun x hx => by
        obtain rfl := (List.mem_replicate.1 hx).2
        exact ⟨isL_nil _ _ _, isL_nil _ _ _, by simp [okN, frN], by simp [okN, frN], by simp [frN], by simp [frN]⟩, List.length_replicate, fun j _ _ h => by omega, rfl⟩⟩, ?_⟩
    clear t1 t2 hu1 hL1 m1
    rintro m z ⟨M2, R, i, rfl, hi, hM, hR, hRl, hrate, rfl⟩
    have hu2 := hu.le hM
    have hL2 := hL.le hM
    have hfl := frC_len R
    by_cases hlt : i < L.length
    case neg =>
      obtain rfl : i = L.length := by omega
      have e1 : decide ((L.length : Int) < (L.length : Int)) = false := by simp
      have hr : ∀ j (h : j < L.length), RateOK (R[j]'(by omega)) L[j] := fun j h => hrate j h (by omega) h
      have ho : CmpO (ordC L R) := (ordC_pre fun r hr2 => by
        obtain ⟨j, hj, rfl⟩ := List.getElem_of_mem hr2
        exact (hr j (by omega)).chk).cmp
      refine Go1.mk ?_; repeat' ((first | (with_reducible refine Go1.go ?_) | ((with_reducible refine isCall (f := 37) ?_); refine callA ?_) | ((with_reducible refine isCallS (f := 37) ?_); refine (sorted_ok ho L.length (ocmp_ok hu2 hL2 hb hR hRl) L.length (Nat.le_refl _) hb (fun v Z M3 z1 z2 z3 z4 z5 => Stop.mk ?_))) | (refine And.intro ?_ ?_; (try simp only [sxO] at *); omega) | fail) <;> (try simp (maxSteps := 1000000) only [orSt, hu2.one, hu2.len, hu2.sl, e1, frC_ment, frC_kill, hasK_nil, ↓hold_pre, awayP, runOps, regK, step1, newK, genR, appR, obl, buildR, Value.cells, closeK, keepH, outV, retK, ret1, retC, RetV, Option.getD, runD, stepD, afterK, undef, simprocAttr, sxB, ↓sxD, sxE, sxTab]))
      have hk := hK v Z M3 (hM.trans z1) ⟨z2, z3.imp_of_mem fun {x y} hx hy h => by
        have hx := List.mem_range.1 (z2.subset hx)
        have hy := List.mem_range.1 (z2.subset hy)
        unfold ltS at h ⊢
        rw [← ordC_rat hRl hr hall hx hy]; exact h⟩ z4 (z5.le hM)
      refine Stop.go ?_
      refine Go1.mk ?_; repeat' ((first | (with_reducible refine Go1.go ?_) | (refine And.intro ?_ ?_; (try simp only [sxO] at *); omega) | fail) <;> (try simp (maxSteps := 1000000) only [z4.one, frC_ment, frC_kill, hasK_nil, ↓hold_pre, awayP, runOps, regK, step1, newK, genR, appR, obl, buildR, Value.cells, closeK, keepH, outV, retK, ret1, retC, RetV, Option.getD, runD, stepD, afterK, undef, simprocAttr, sxB, ↓sxD, sxE, sxTab]))
      exact hk
    have e1 : decide ((i : Int) < (L.length : Int)) = true := by rw [decide_eq_true_eq]; omega
    have b1 : (0 : Int) ≤ (i : Int) := by omega
    have b2 : (i : Int) < (L.length : Int) := by omega
    have hnn := hu2.nn hlt
    have hat := hu2.at (P := Try.prog) (T := 46) (fun _ => rfl) tk46 tz46 hlt
    have hmem := List.getElem_mem hlt
    have hF := hL2 _ hmem
    have hci := hall _ hmem
    obtain ⟨n, d, q1, q2, q3, q4⟩ := rate_is hF hci
    obtain ⟨_, _, _, p1, p2⟩ := chkI_parts hci
    have hnext : ∀ r : FR, r.l1 = ofN n → r.l2 = ofN d → ∀ j (h : j < L.length) (h2 : j < (R.set i r).length), j < i + 1 → RateOK (R.set i r)[j] L[j] := fun r r1 r2 j h h2 h3 => by
      rw [List.getElem_set]
      by_cases hj : i = j
      · subst hj
        rw [if_pos rfl]; exact q2 r r1 r2
      · rw [if_neg hj]
        exact hrate j h (by omega) (by omega)
    have wi : IntKind.i64.wrap ((i : Int) + 1) = ((i + 1 : Nat) : Int) := succ_i (by omega)
    generalize L[i] = x at *
    obtain ⟨pk, ts, x1, x2, y1, y2, co⟩ := x
    have hat : lookM Try.prog 46 M2 (elemP u 5 i) = some (.agg #[.string (bs pk), .string (bs ts), x1, x2, .int .i64 co]) := hat
    have hF1 : IsF M2 x1 x2 y1 y2 := hF.f
    simp only at q1 p1 p2
    obtain ⟨k, rfl⟩ := Int.eq_ofNat_of_zero_le (show 0 ≤ co by omega)
    rw [Int.toNat_natCast] at q1
    have hkl : (ofN k).length ≤ 2 := ofN_len_le (by rw [show wN 2 = 18446744073709551616 from rfl]; omega)
    have h1l : (ofN 1).length ≤ 2 := by rw [ofN_u32 (by decide) (by decide)]; decide
    have j1 : i * 2 + 2 ≤ R.length * 2 := by omega
    clear hK
    refine Go1.mk ?_; repeat' ((first | (with_reducible refine Go1.go ?_) | (((with_reducible refine isCall0 (f := 36) ?_); refine callA0_nil (by kernel_rfl) ?_; refine (whole_ok k (by omega) (fun w1 w2 M3 c1 c2 c3 c4 c5 => Stop.mk ?_)))) | ((with_reducible refine isDraw [some 21, some 22, some 23, some 24, some 25, some 26, some 27, some 28, some 20, some 29, some 30, some 31, none] (by decide) ?_); refine draw_rule [(0, []), (1, [0]), (2, [0]), (3, [0]), (4, [0, 3]), (5, [0, 3]), (6, [0, 3]), (7, [0]), (8, [0]), (9, [0]), (10, [0]), (11, []), (12, [])] [[], [], [], [2], [], [4], [4, 5], [2, 3, 4, 5, 6], [2, 3, 4, 5, 6, 7], [2, 3, 4, 5, 6, 7, 8], [2, 3, 4, 5, 6, 7, 8], [0, 1, 2, 3, 4, 5, 6, 7, 8, 9], [0, 1, 2, 3, 4, 5, 6, 7, 8, 9, 11]] [21, 22, 23, 24, 25, 26, 27, 28, 20, 29, 30, 31] [] (by kernel_rfl) (by kernel_rfl) (by kernel_rfl) (by kernel_rfl) (by exact trivial) ?_) | (refine And.intro ?_ ?_; (try simp only [sxO] at *); omega) | fail) <;> (try simp (maxSteps := 1000000) only [orSt, hu2.one, hu2.len, hu2.sl, hnn, e1, b1, b2, hat, hF1.n.one, hF1.d.one, frC_ment, frC_kill, hasK_nil, hfl, hRl, bs_mk, bs_app, bs_ext, bs_size, bs_toList, bs_at, bs_cells, List.take_length, imp_ga, guard_pk, guard_pk2, ↓hold_pre, awayP, runOps, regK, step1, newK, genR, appR, obl, buildR, Value.cells, closeK, keepH, outV, retK, ret1, retC, RetV, Option.getD, runD, stepD, afterK, undef, simprocAttr, sxB, ↓sxD, sxE, sxTab]))
    have c1 : Mem.le M2 M3 := c1
    have hF3 := hF1.le c1
    refine Stop.go ?_
    refine Go1.mk ?_; repeat' ((first | (with_reducible refine Go1.go ?_) | (((with_reducible refine isCall0 (f := 35) ?_); refine callA0_nil (by kernel_rfl) ?_; refine (fdiv_ok hF3 ⟨c2, c3, okN_ofN _, okN_ofN _, by omega, by omega⟩ (fun v1 v2 M4 f1 f2 f3 f4 f5 => Stop.mk ?_)))) | ((with_reducible refine isDraw [some 21, some 22, some 23, some 24, some 25, some 26, some 27, some 28, some 20, some 29, some 30, some 31, none] (by decide) ?_); refine draw_rule [(0, []), (1, [0]), (2, [0]), (3, [0]), (4, [0, 3]), (5, [0, 3]), (6, [0, 3]), (7, [0]), (8, [0]), (9, [0]), (10, [0]), (11, []), (12, [])] [[], [], [], [2], [], [4], [4, 5], [2, 3, 4, 5, 6], [2, 3, 4, 5, 6, 7], [2, 3, 4, 5, 6, 7, 8], [2, 3, 4, 5, 6, 7, 8], [0, 1, 2, 3, 4, 5, 6, 7, 8, 9], [0, 1, 2, 3, 4, 5, 6, 7, 8, 9, 11]] [21, 22, 23, 24, 25, 26, 27, 28, 20, 29, 30, 31] [] (by kernel_rfl) (by kernel_rfl) (by kernel_rfl) (by kernel_rfl) (by exact trivial) ?_) | (refine And.intro ?_ ?_; (try simp only [sxO] at *); omega) | fail) <;> (try simp (maxSteps := 1000000) only [hF3.n.one, hF3.d.one, c2.one, c3.one, frC_ment, frC_kill, hasK_nil, hfl, hRl, bs_mk, bs_app, bs_ext, bs_size, bs_toList, bs_at, bs_cells, List.take_length, imp_ga, guard_pk, guard_pk2, ↓hold_pre, awayP, runOps, regK, step1, newK, genR, appR, obl, buildR, Value.cells, closeK, keepH, outV, retK, ret1, retC, RetV, Option.getD, runD, stepD, afterK, undef, simprocAttr, sxB, ↓sxD, sxE, sxTab]))
    have f1 : Mem.le M3 M4 := f1
    rw [q1] at f2 f3
    have hset : (frC R).take (i * 2) ++ (.ext v1 :: .ext v2 :: (frC R).drop (i * 2 + 2)) = frC (R.set i ⟨v1, v2, ofN n, ofN d⟩) := frC_set (R := R) (i := i) (by omega) ⟨v1, v2, ofN n, ofN d⟩
    refine Stop.go ?_
    refine Go1.mk ?_; repeat' ((first | (with_reducible refine Go1.go ?_) | ((with_reducible refine isDraw [some 21, some 22, some 23, some 24, some 25, some 26, some 27, some 28, some 20, some 29, some 30, some 31, none] (by decide) ?_); refine draw_rule [(0, []), (1, [0]), (2, [0]), (3, [0]), (4, [0, 3]), (5, [0, 3]), (6, [0, 3]), (7, [0]), (8, [0]), (9, [0]), (10, [0]), (11, []), (12, [])] [[], [], [], [2], [], [4], [4, 5], [2, 3, 4, 5, 6], [2, 3, 4, 5, 6, 7], [2, 3, 4, 5, 6, 7, 8], [2, 3, 4, 5, 6, 7, 8], [0, 1, 2, 3, 4, 5, 6, 7, 8, 9], [0, 1, 2, 3, 4, 5, 6, 7, 8, 9, 11]] [21, 22, 23, 24, 25, 26, 27, 28, 20, 29, 30, 31] [] (by kernel_rfl) (by kernel_rfl) (by kernel_rfl) (by kernel_rfl) (by exact trivial) ?_) | (refine And.intro ?_ ?_; (try simp only [sxO] at *); omega) | fail) <;> (try simp (maxSteps := 1000000) only [f2.one, f3.one, wi, hset, frC_ment, frC_kill, hasK_nil, hfl, hRl, j1, b1, b2, bs_mk, bs_app, bs_ext, bs_size, bs_toList, bs_at, bs_cells, List.take_length, imp_ga, guard_pk, guard_pk2, ↓hold_pre, awayP, runOps, regK, step1, newK, genR, appR, obl, buildR, Value.cells, closeK, keepH, outV, retK, ret1, retC, RetV, Option.getD, runD, stepD, afterK, undef, simprocAttr, sxB, ↓sxD, sxE, sxTab]))
    exact ⟨L.length - (i + 1), orSt M4 u L.length (i + 1) (R.set i ⟨v1, v2, ofN n, ofN d⟩), by omega, le_sub ⟨rfl, rfl, rfl, rfl, rfl, trivial⟩ ⟨rfl, rfl, rfl, trivial⟩ rfl rfl rfl (keepLt0 _), M4, R.set i ⟨v1, v2, ofN n, ofN d⟩, i + 1, rfl, by omega, (hM.trans c1).trans f1, fun r hr => by
      rcases List.mem_or_eq_of_mem_set hr with h | rfl
      · exact ((hR _ h).le c1).le f1
      · exact ⟨f2, f3, okN_ofN _, okN_ofN _, by simp only; omega, by simp only; omega⟩, by rw [List.length_set]; exact hRl, hnext _ rfl rfl, rfl⟩
end
end Go.Proofs.Ytjapnklocibgaaa.Sx
namespace Go.Proofs.Ytjapnklocibgaaa.Sx
open Go Go.RowKit
set_option linter.unusedVariables false
set_option linter.unusedSimpArgs false
set_option maxRecDepth 100000
set_option maxHeartbeats 8000000
attribute [local congr] fin_congr finG_congr stepG_congr step1_congr runOps_congr brv_congr obl_congr condK_congr LoopK_congr seqK_congr CutK_congr vc_congr DrawK_congr regK_congr CallK_congr AskK_congr newK_congr retC_congr ret1_congr retK_congr outV_congr closeK_congr genR_congr appR_congr finD_congr finGD_congr stepGD_congr stepD_congr CallK0_congr runD_congr okR_congr CallS_congr vcX_congr
attribute [local congr] Stop_congr
theorem nodup_part {α : Type} [DecidableEq α] : ∀ {A o : List α}, A.Nodup → (∀ x ∈ A, x ∈ o) → ∃ r, o.Perm (A ++ r)
  | [], o, _, _ => ⟨o, List.Perm.refl _⟩
  | a :: A, o, hn, hs => by
    have ha := hs a List.mem_cons_self
    have hn2 := List.nodup_cons.1 hn
    obtain ⟨r, hr⟩ := nodup_part (A := A) (o := o.erase a) hn2.2 fun x hx => by
      have hne : x ≠ a := fun e => hn2.1 (e ▸ hx)
      exact (List.mem_erase_of_ne hne).2 (hs x (List.mem_cons_of_mem _ hx))
    exact ⟨r, (List.perm_cons_erase ha).trans (hr.cons a)⟩
theorem nodup_full {α : Type} [DecidableEq α] {A o : List α} (hn : A.Nodup) (hs : ∀ x ∈ A, x ∈ o) (hl : o.length ≤ A.length) : o.Perm A := by
  obtain ⟨r, hr⟩ := nodup_part hn hs
  have h1 := hr.length_eq
  rw [List.length_append] at h1
  have : r = [] := List.length_eq_zero_iff.1 (by omega)
  rw [this, List.append_nil] at hr
  exact hr
def placesI (n : Nat) : List Int := (List.range n).map Int.ofNat
theorem placesI_nodup (n : Nat) : (placesI n).Nodup := List.Pairwise.map _ (fun a b h e => h (Int.ofNat.inj e)) List.nodup_range
theorem mem_placesI {n : Nat} {x : Int} : x ∈ placesI n ↔ 0 ≤ x ∧ x < n := by
  unfold placesI
  rw [List.mem_map]
  constructor
  · rintro ⟨a, h1, rfl⟩
    have := List.mem_range.1 h1
    exact ⟨Int.natCast_nonneg _, by simpa using this⟩
  · rintro ⟨h1, h2⟩
    obtain ⟨k, rfl⟩ := Int.eq_ofNat_of_zero_le h1
    exact ⟨k, List.mem_range.2 (by omega), rfl⟩
theorem placesI_len (n : Nat) : (placesI n).length = n := by unfold placesI; simp
def permB (n : Nat) (o : List Int) : Bool := decide (o.length = n) && (placesI n).all fun i => o.contains i
theorem permB_iff {n : Nat} {o : List Int} : permB n o = true ↔ o.Perm (placesI n) := by
  unfold permB
  rw [Bool.and_eq_true, decide_eq_true_eq, List.all_eq_true]
  constructor
  · rintro ⟨h1, h2⟩
    exact nodup_full (placesI_nodup n) (fun x hx => by simpa using h2 x hx) (by rw [placesI_len]; omega)
  · intro h
    exact ⟨by rw [h.length_eq, placesI_len], fun x hx => by simpa using h.symm.subset hx⟩
theorem permB_of {n : Nat} {o : List Int} (h1 : o.Nodup) (h2 : ∀ x ∈ o, 0 ≤ x ∧ x < n) (h3 : o.length = n) : permB n o = true := permB_iff.2 (nodup_full h1 (fun x hx => mem_placesI.2 (h2 x hx)) (by rw [placesI_len]; omega)).symm
theorem permB_bad {n : Nat} {o : List Int} (h : ¬ (o.Nodup ∧ ∀ x ∈ o, 0 ≤ x ∧ x < n)) : permB n o = false := by
  cases hb : permB n o with
  | false => rfl
  | true =>
    have hp := permB_iff.1 hb
    exact absurd ⟨hp.symm.nodup (placesI_nodup n), fun x hx => mem_placesI.1 (hp.subset hx)⟩ h
def errO (L : List IR) (o : List Int) : Int := if chkIL L then (if permB L.length o then 0 else 40) else 1
def boV (b : Bool) : Value := .bool b
def seenL (n i : Nat) (o : List Int) : List Bool := (List.range n).map fun (k : Nat) => (o.take i).contains (k : Int)
theorem seenL_len (n i : Nat) (o : List Int) : (seenL n i o).length = n := by unfold seenL; simp
theorem seenL_at {n i k : Nat} {o : List Int} (h : k < n) : (cE boV (seenL n i o))[k]? = some (.ext (.bool ((o.take i).contains (k : Int)))) := by
  rw [cE_at boV (by rw [seenL_len]; exact h)]; unfold seenL; simp [boV]
theorem seenL_get {n i j : Nat} {o : List Int} (h : j < (seenL n i o).length) : (seenL n i o)[j] = (o.take i).contains (j : Int) := by simp [seenL]
theorem seenL_set {n i k : Nat} {o : List Int} (hi : i < o.length) (hk : o[i] = (k : Int)) : (cE boV (seenL n i o)).set k (.ext (.bool true)) = cE boV (seenL n (i + 1) o) := by
  have h1 := cE_set boV (seenL n i o) k true
  refine h1.trans ?_
  congr 1
  refine List.ext_getElem (by simp [seenL]) fun j h2 h3 => ?_
  rw [List.getElem_set, seenL_get h3]
  have e : o.take (i + 1) = o.take i ++ [(k : Int)] := by rw [List.take_add_one, List.getElem?_eq_getElem hi, hk]; rfl
  rw [e]
  by_cases e : k = j
  · subst e; simp
  · have : ¬ ((j : Int) = (k : Int)) := by omega
    rw [if_neg e, seenL_get]; simp [this]
theorem repN_bool (n : Nat) : ∀ (o : List Int), (repN [.bool false] n).map AV.ext = cE boV (seenL n 0 o) := fun o => by
  have h : ∀ m, (repN [.bool false] m).map AV.ext = List.replicate m (.ext (.bool false)) := fun m => by
    induction m with
    | zero => rfl
    | succ m ih => rw [List.replicate_succ, ← ih]; rfl
  rw [h]
  unfold cE seenL
  refine List.ext_getElem (by simp) fun j h2 h3 => by simp [boV]
section
variable {M : Mem} {K : AV → Hp → Mem → Prop} {u v : Value} {L : List IR} {o : List Int}
def ocSt (M : Mem) (v w : Value) (n i l : Nat) (o : List Int) : St := { env := [(16, .ext (.int .i64 (i : Int))), (15, .ext (.int .i64 (l : Int))), (14, .ext v), (5, .slo 13 0 n 1), (4, .ext (.int .i64 0)), (1, .ext v), (0, .ext w)], hp := [(13, 4, cE boV (seenL n i o))], M := M, kb := 0, fx := [] }
theorem ocheckO_ok (hu : IsR M 5 IR.c u L) (hL : okIL M L) (hb : L.length < 1000000) (hv : IsL M intV64 v o) (hb2 : o.length < 1000000) (hK : ∀ M', Mem.le M M' → K (.ext (.int .i64 (errO L o))) [] M') : CallS Try.prog 41 [.ext u, .ext v] [] M [] K := by
  refine inlS (cs := []) Try.mixed Try.func41 rfl (by kernel_rfl) 0 rfl rfl ?_
  simp only [Try.f41]
  refine Go1.mk ?_; repeat' ((first | (with_reducible refine Go1.go ?_) | (((with_reducible refine isCall (f := 28) ?_); refine callA_nil (by kernel_rfl) ?_; refine (ocheck_ok hu hL hb (fun M1 m1 => Stop.mk ?_)))) | (refine And.intro ?_ ?_; (try simp only [sxO] at *); omega) | fail) <;> (try simp (maxSteps := 1000000) only [hu.one, hv.one, ↓hold_pre, awayP, runOps, regK, step1, newK, genR, appR, obl, buildR, Value.cells, closeK, keepH, outV, retK, ret1, retC, RetV, Option.getD, runD, stepD, afterK, undef, simprocAttr, sxB, ↓sxD, sxE, sxTab]))
  have m1 : Mem.le M M1 := m1
  unfold errO at hK
  cases hc : chkIL L with
  | false =>
    rw [hc] at hK
    have hk := hK M1 m1
    refine Stop.go ?_
    refine Go1.mk ?_; repeat' ((first | (with_reducible refine Go1.go ?_) | (refine And.intro ?_ ?_; (try simp only [sxO] at *); omega) | fail) <;> (try simp (maxSteps := 1000000) only [↓hold_pre, awayP, runOps, regK, step1, newK, genR, appR, obl, buildR, Value.cells, closeK, keepH, outV, retK, ret1, retC, RetV, Option.getD, runD, stepD, afterK, undef, simprocAttr, sxB, ↓sxD, sxE, sxTab]))
    exact hk
  | true =>
    rw [hc] at hK
    simp only [if_true] at hK
    have hu1 := hu.le m1
    have hv1 := hv.le m1
    have t1 := Int.toNat_natCast L.length
    have t2 := repN_bool L.length o
    refine Stop.go ?_
    refine Go1.mk ?_; repeat' ((first | (with_reducible refine Go1.go ?_) | (refine And.intro ?_ ?_; (try simp only [sxO] at *); omega) | fail) <;> (try simp (maxSteps := 1000000) only [hu1.one, hu1.len, hu1.sl, hv1.one, hv1.len, hv1.sl, t1, t2, cE_ment, cE_kill, hasK_nil, List.nil_append, ↓hold_pre, awayP, runOps, regK, step1, newK, genR, appR, obl, buildR, Value.cells, closeK, keepH, outV, retK, ret1, retC, RetV, Option.getD, runD, stepD, afterK, undef, simprocAttr, sxB, ↓sxD, sxE, sxTab]))
    refine ⟨fun m z => ∃ i, m = o.length - i ∧ i ≤ o.length ∧ (o.take i).Nodup ∧ (∀ x ∈ o.take i, 0 ≤ x ∧ x < (L.length : Int)) ∧ z = ocSt M1 v u L.length i o.length o,
      ⟨o.length, ocSt M1 v u L.length 0 o.length o, le_sub ⟨rfl, rfl, rfl, rfl, rfl, rfl, rfl, trivial⟩ ⟨rfl, trivial⟩ rfl rfl rfl (keepLt0 _), ⟨0, by omega, by omega, by simp, by simp, rfl⟩⟩, ?_⟩
    clear t1 t2
    rintro m z ⟨i, rfl, hi, hnd, hin, rfl⟩
    have hsl := seenL_len L.length i o
    by_cases hlt : i < o.length
    case neg =>
      obtain rfl : i = o.length := by omega
      have e1 : decide ((o.length : Int) < (o.length : Int)) = false := by simp
      rw [List.take_length] at hnd hin
      have hk := hK M1 m1
      by_cases hn : o.length = L.length
      · have e2 : decide ((o.length : Int) = (L.length : Int)) = true := by rw [decide_eq_true_eq]; omega
        rw [permB_of hnd hin hn] at hk
        refine Go1.mk ?_; repeat' ((first | (with_reducible refine Go1.go ?_) | (refine And.intro ?_ ?_; (try simp only [sxO] at *); omega) | fail) <;> (try simp (maxSteps := 1000000) only [ocSt, hu1.one, hu1.len, hu1.sl, hv1.one, hv1.len, hv1.sl, e1, e2, cE_ment, cE_kill, hasK_nil, ↓hold_pre, awayP, runOps, regK, step1, newK, genR, appR, obl, buildR, Value.cells, closeK, keepH, outV, retK, ret1, retC, RetV, Option.getD, runD, stepD, afterK, undef, simprocAttr, sxB, ↓sxD, sxE, sxTab]))
        exact hk
      · have e2 : decide ((o.length : Int) = (L.length : Int)) = false := by rw [decide_eq_false_iff_not]; omega
        have : permB L.length o = false := by unfold permB; rw [decide_eq_false hn]; rfl
        rw [this] at hk
        refine Go1.mk ?_; repeat' ((first | (with_reducible refine Go1.go ?_) | (refine And.intro ?_ ?_; (try simp only [sxO] at *); omega) | fail) <;> (try simp (maxSteps := 1000000) only [ocSt, hu1.one, hu1.len, hu1.sl, hv1.one, hv1.len, hv1.sl, e1, e2, cE_ment, cE_kill, hasK_nil, ↓hold_pre, awayP, runOps, regK, step1, newK, genR, appR, obl, buildR, Value.cells, closeK, keepH, outV, retK, ret1, retC, RetV, Option.getD, runD, stepD, afterK, undef, simprocAttr, sxB, ↓sxD, sxE, sxTab]))
        exact hk
    have e1 : decide ((i : Int) < (o.length : Int)) = true := by rw [decide_eq_true_eq]; omega
    have b1 : (0 : Int) ≤ (i : Int) := by omega
    have b2 : (i : Int) < (o.length : Int) := by omega
    have hnn := hv1.nn hlt
    have hat := hv1.at (P := Try.prog) (T := 3) tk3 tz3 hlt
    have hmem := List.getElem_mem hlt
    have wi : IntKind.i64.wrap ((i : Int) + 1) = ((i + 1 : Nat) : Int) := succ_i (by omega)
    have htk : o.take (i + 1) = o.take i ++ [o[i]] := by rw [List.take_add_one, List.getElem?_eq_getElem hlt]; rfl
    have hset := fun k => seenL_set (n := L.length) (k := k) hlt
    have hdup : o[i] ∈ o.take i → ¬ o.Nodup := fun h1 h2 => by
      rw [← List.take_append_drop i o] at h2
      refine (List.nodup_append.1 h2).2.2 _ h1 _ ?_ rfl
      rw [List.drop_eq_getElem_cons hlt]; exact List.mem_cons_self
    have hat : lookM Try.prog 3 M1 (elemP v 1 i) = some (.int .i64 o[i]) := hat
    generalize o[i] = x at *
    have bad : ¬ (o.Nodup ∧ ∀ x ∈ o, 0 ≤ x ∧ x < (L.length : Int)) → K (.ext (.int .i64 40)) [] M1 := fun h => by
      have hk := hK M1 m1
      rw [permB_bad h] at hk; exact hk
    by_cases h0 : x < 0
    · have d1 : decide (x < 0) = true := decide_eq_true h0
      have hk := bad fun h => by have := h.2 x hmem; omega
      refine Go1.mk ?_; repeat' ((first | (with_reducible refine Go1.go ?_) | (refine And.intro ?_ ?_; (try simp only [sxO] at *); omega) | fail) <;> (try simp (maxSteps := 1000000) only [ocSt, intV64, hu1.one, hu1.len, hu1.sl, hv1.one, hv1.len, hv1.sl, hnn, e1, b1, b2, hat, d1, cE_ment, cE_kill, hasK_nil, ↓hold_pre, awayP, runOps, regK, step1, newK, genR, appR, obl, buildR, Value.cells, closeK, keepH, outV, retK, ret1, retC, RetV, Option.getD, runD, stepD, afterK, undef, simprocAttr, sxB, ↓sxD, sxE, sxTab]))
      exact hk
    have d1 : decide (x < 0) = false := decide_eq_false h0
    obtain ⟨k, rfl⟩ := Int.eq_ofNat_of_zero_le (show 0 ≤ x by omega)
    by_cases h1 : L.length ≤ k
    · have d2 : decide ((L.length : Int) ≤ (k : Int)) = true := by rw [decide_eq_true_eq]; omega
      have hk := bad fun h => by have := h.2 _ hmem; omega
      refine Go1.mk ?_; repeat' ((first | (with_reducible refine Go1.go ?_) | (refine And.intro ?_ ?_; (try simp only [sxO] at *); omega) | fail) <;> (try simp (maxSteps := 1000000) only [ocSt, intV64, hu1.one, hu1.len, hu1.sl, hv1.one, hv1.len, hv1.sl, hnn, e1, b1, b2, hat, d1, d2, cE_ment, cE_kill, hasK_nil, ↓hold_pre, awayP, runOps, regK, step1, newK, genR, appR, obl, buildR, Value.cells, closeK, keepH, outV, retK, ret1, retC, RetV, Option.getD, runD, stepD, afterK, undef, simprocAttr, sxB, ↓sxD, sxE, sxTab]))
      exact hk
    have d2 : decide ((L.length : Int) ≤ (k : Int)) = false := by rw [decide_eq_false_iff_not]; omega
    have sa := seenL_at (i := i) (o := o) (show k < L.length by omega)
    have b3 : (0 : Int) ≤ (k : Int) := by omega
    have b4 : (k : Int) < (L.length : Int) := by omega
    cases hct : (o.take i).contains (k : Int) with
    | true =>
      rw [hct] at sa
      have hk := bad fun h => hdup (by simpa using hct) h.1
      refine Go1.mk ?_; repeat' ((first | (with_reducible refine Go1.go ?_) | (refine And.intro ?_ ?_; (try simp only [sxO] at *); omega) | fail) <;> (try simp (maxSteps := 1000000) only [ocSt, intV64, hu1.one, hu1.len, hu1.sl, hv1.one, hv1.len, hv1.sl, hnn, e1, b1, b2, b3, b4, hat, d1, d2, sa, Nat.mul_one, cE_ment, cE_kill, hasK_nil, ↓hold_pre, awayP, runOps, regK, step1, newK, genR, appR, obl, buildR, Value.cells, closeK, keepH, outV, retK, ret1, retC, RetV, Option.getD, runD, stepD, afterK, undef, simprocAttr, sxB, ↓sxD, sxE, sxTab]))
      exact hk
    | false =>
      rw [hct] at sa
      have hs2 := hset k rfl
      refine Go1.mk ?_; repeat' ((first | (with_reducible refine Go1.go ?_) | (refine And.intro ?_ ?_; (try simp only [sxO] at *); omega) | fail) <;> (try simp (maxSteps := 1000000) only [ocSt, intV64, hu1.one, hu1.len, hu1.sl, hv1.one, hv1.len, hv1.sl, hnn, e1, b1, b2, b3, b4, hat, d1, d2, sa, Nat.mul_one, hs2, hsl, wi, cE_len, cE_ment, cE_kill, hasK_nil, ↓hold_pre, awayP, runOps, regK, step1, newK, genR, appR, obl, buildR, Value.cells, closeK, keepH, outV, retK, ret1, retC, RetV, Option.getD, runD, stepD, afterK, undef, simprocAttr, sxB, ↓sxD, sxE, sxTab]))
      have g1 : (o.take (i + 1)).Nodup := by
        rw [htk]
        refine List.nodup_append.2 ⟨hnd, by simp, fun a ha b hb e => ?_⟩
        have hb := List.mem_singleton.1 hb
        subst e hb
        rw [List.contains_iff_mem.2 ha] at hct
        cases hct
      have g2 : ∀ x ∈ o.take (i + 1), 0 ≤ x ∧ x < (L.length : Int) := by
        rw [htk]
        intro a ha
        rcases List.mem_append.1 ha with ha | ha
        · exact hin a ha
        · rw [List.mem_singleton.1 ha]; omega
      exact ⟨o.length - (i + 1), ocSt M1 v u L.length (i + 1) o.length o, by omega, le_sub ⟨rfl, rfl, rfl, rfl, rfl, rfl, rfl, trivial⟩ ⟨rfl, trivial⟩ rfl rfl rfl (keepLt0 _), i + 1, rfl, by omega, g1, g2, rfl⟩
end
end Go.Proofs.Ytjapnklocibgaaa.Sx
namespace Go.Proofs.Ytjapnklocibgaaa.Sx
open Go Go.RowKit
set_option linter.unusedVariables false
set_option linter.unusedSimpArgs false
set_option maxRecDepth 100000
set_option maxHeartbeats 8000000
attribute [local congr] fin_congr finG_congr stepG_congr step1_congr runOps_congr brv_congr obl_congr condK_congr LoopK_congr seqK_congr CutK_congr vc_congr DrawK_congr regK_congr CallK_congr AskK_congr newK_congr retC_congr ret1_congr retK_congr outV_congr closeK_congr genR_congr appR_congr finD_congr finGD_congr stepGD_congr stepD_congr CallK0_congr runD_congr okR_congr CallS_congr vcX_congr
attribute [local congr] Stop_congr
def costA (L : List IR) (x : Int) : Int := (itA L x.toNat).cost
theorem errO_zero {L : List IR} {o : List Int} (h : errO L o = 0) : (∀ x ∈ L, chkI x = true) ∧ L.length ≤ 64 ∧ o.length = L.length ∧ ∀ x ∈ o, 0 ≤ x ∧ x < (L.length : Int) := by
  unfold errO at h
  cases hc : chkIL L with
  | false => rw [hc] at h; simp at h
  | true =>
    rw [hc] at h
    simp only [if_true] at h
    cases hp : permB L.length o with
    | false => rw [hp] at h; simp at h
    | true =>
      unfold chkIL at hc
      simp only [Bool.and_eq_true, decide_eq_true_eq] at hc
      have hp := permB_iff.1 hp
      exact ⟨List.all_eq_true.1 hc.2, hc.1, by rw [hp.length_eq, placesI_len], fun x hx => mem_placesI.1 (hp.subset hx)⟩
theorem costA_in {L : List IR} {x : Int} (hc : ∀ x ∈ L, chkI x = true) (h0 : 0 ≤ x) (h1 : x < (L.length : Int)) : 1 ≤ costA L x ∧ costA L x ≤ 1048576 := by
  unfold costA
  rw [itA_in (show x.toNat < L.length by omega)]
  have h := hc _ (List.getElem_mem (show x.toNat < L.length by omega))
  exact (chkI_parts h).2.2.2
section
variable {M : Mem} {K : AV → Hp → Mem → Prop} {u v : Value} {L : List IR} {o : List Int}
end
end Go.Proofs.Ytjapnklocibgaaa.Sx
namespace Go.Proofs.Ytjapnklocibgaaa.Sx
open Go
structure SumOK (B i n d : Nat) : Prop where
  pos : 0 < d
  gcd : Nat.gcd n d = 1
  db : d ≤ wN i
  nb : n ≤ i * (B * wN i)
theorem SumOK.len {B i n d : Nat} (h : SumOK B i n d) (hi : i ≤ 64) (hB : B ≤ wN 2) : (ofN n).length ≤ 128 ∧ (ofN d).length ≤ 128 := by
  have h1 := wN_mono (i := i) (j := 64) hi
  have hw : wN 67 = 4294967296 * (18446744073709551616 * wN 64) := by
    rw [show (67 : Nat) = 1 + (2 + 64) from rfl, wN_add, wN_add, wN_two]; rfl
  have hp := wN_pos 64
  have hi1 := wN_pos i
  constructor
  · refine Nat.le_trans (ofN_len_le (k := 67) ?_) (by decide)
    have h2 : B * wN i ≤ wN 2 * wN 64 := Nat.mul_le_mul hB h1
    have h3 : i * (B * wN i) ≤ 64 * (wN 2 * wN 64) := Nat.mul_le_mul hi h2
    have h4 := Nat.le_trans h.nb h3
    rw [show wN 2 = 18446744073709551616 from rfl] at h4
    rw [hw]
    generalize wN 64 = w at *
    clear hw h1 h2 h3 hi1
    omega
  · refine Nat.le_trans (ofN_len_le (k := 67) ?_) (by decide)
    have h4 := Nat.le_trans h.db h1
    rw [hw]
    generalize wN 64 = w at *
    clear hw h1 hi1
    omega
theorem SumOK.chk {B i n d : Nat} (h : SumOK B i n d) (hi : i ≤ 64) (hB : B ≤ wN 2) : chkF (ofN n) (ofN d) = true := by
  obtain ⟨h1, h2⟩ := h.len hi hB
  unfold chkF
  rw [chkN_ofN h1, chkN_ofN h2, valN_ofN, valN_ofN, h.gcd, decide_eq_false (by have := h.pos; omega)]; rfl
theorem SumOK.zero (B : Nat) : SumOK B 0 0 1 := ⟨by decide, by decide, by rw [wN_zero]; decide, by omega⟩
theorem SumOK.add {B i n d n' d' : Nat} (h : SumOK B i n d) (hi : i < 64) (hB : B ≤ wN 2) (h1 : n' ≤ B) (h2 : 0 < d') (h3 : d' ≤ 4294967296) : (exF (n * d' + n' * d) (d * d')).1 = 0 ∧ SumOK B (i + 1) (exF (n * d' + n' * d) (d * d')).2.1 (exF (n * d' + n' * d) (d * d')).2.2 := by
  have hw := wN_succ i
  have hd : d * d' ≤ wN (i + 1) := by
    rw [hw, Nat.mul_comm 4294967296]; exact Nat.mul_le_mul h.db h3
  have hn : n * d' + n' * d ≤ (i + 1) * (B * wN (i + 1)) := by
    have e1 : n * d' ≤ i * (B * wN i) * 4294967296 := Nat.mul_le_mul h.nb h3
    have e2 : n' * d ≤ B * wN i := Nat.mul_le_mul h1 h.db
    have e3 : B * wN i * 1 ≤ B * wN i * 4294967296 := Nat.mul_le_mul_left _ (by decide)
    rw [hw, Nat.succ_mul]
    have e4 : i * (B * wN i) * 4294967296 = i * (B * (4294967296 * wN i)) := by
      rw [Nat.mul_assoc, Nat.mul_assoc, Nat.mul_comm (wN i)]
    have e5 : B * wN i * 4294967296 = B * (4294967296 * wN i) := by
      rw [Nat.mul_assoc, Nat.mul_comm (wN i)]
    omega
  have h0 : 0 < d * d' := Nat.mul_pos h.pos h2
  obtain ⟨N, hN⟩ : ∃ N, N = n * d' + n' * d := ⟨_, rfl⟩
  obtain ⟨D, hD⟩ : ∃ D, D = d * d' := ⟨_, rfl⟩
  rw [← hN] at hn ⊢
  rw [← hD] at hd h0 ⊢
  have hq1 := Nat.div_le_self N (Nat.gcd N D)
  have hq2 := Nat.div_le_self D (Nat.gcd N D)
  have hok : SumOK B (i + 1) (N / Nat.gcd N D) (D / Nat.gcd N D) := ⟨Nat.div_pos (Nat.gcd_le_right N h0) (Nat.gcd_pos_of_pos_right _ h0), Nat.gcd_div_gcd_div_gcd_of_pos_right h0, by omega, by omega⟩
  obtain ⟨l1, l2⟩ := hok.len (by omega) hB
  unfold exF
  rw [if_pos ⟨l1, l2⟩]
  exact ⟨rfl, hok⟩
def losV (L : List IR) : List Int → Int → Nat → Nat → Nat × Nat
  | [], _, n, d => (n, d)
  | x :: r, e, n, d => losV L r (e + costA L x) (exF (n * (exF (valN (itA L x.toNat).l1 * (e + costA L x).toNat) (valN (itA L x.toNat).l2)).2.2 + (exF (valN (itA L x.toNat).l1 * (e + costA L x).toNat) (valN (itA L x.toNat).l2)).2.1 * d) (d * (exF (valN (itA L x.toNat).l1 * (e + costA L x).toNat) (valN (itA L x.toNat).l2)).2.2)).2.1 (exF (n * (exF (valN (itA L x.toNat).l1 * (e + costA L x).toNat) (valN (itA L x.toNat).l2)).2.2 + (exF (valN (itA L x.toNat).l1 * (e + costA L x).toNat) (valN (itA L x.toNat).l2)).2.1 * d) (d * (exF (valN (itA L x.toNat).l1 * (e + costA L x).toNat) (valN (itA L x.toNat).l2)).2.2)).2.2
def losP (L : List IR) (o : List Int) : Nat × Nat := if errO L o = 0 then losV L o 0 0 1 else (0, 0)
theorem chkI_val {x : IR} {M : Mem} (hx : x.ok M) (h : chkI x = true) : x.l1 = ofN (valN x.l1) ∧ x.l2 = ofN (valN x.l2) ∧ valN x.l1 < 4294967296 ∧ valN x.l2 < 4294967296 ∧ 0 < valN x.l2 ∧ Nat.gcd (valN x.l1) (valN x.l2) = 1 := by
  obtain ⟨h1, h2, h3, _, _⟩ := chkI_parts h
  obtain ⟨e1, e2, _, _, p, hg⟩ := chkF_ok hx.f.on hx.f.od h1
  have lim : ∀ l : List Nat, okN l → l.length ≤ 1 → valN l < 4294967296 := fun l ho hl => by
    rcases l with _ | ⟨a, _ | ⟨b, l⟩⟩
    · decide
    · have := ho a (by simp)
      simp only [valN]; omega
    · simp at hl
  exact ⟨e1, e2, lim _ hx.f.on h2, lim _ hx.f.od h3, p, hg⟩
end Go.Proofs.Ytjapnklocibgaaa.Sx
namespace Go.Proofs.Ytjapnklocibgaaa.Sx
open Go Go.RowKit
set_option linter.unusedVariables false
set_option linter.unusedSimpArgs false
set_option maxRecDepth 100000
set_option maxHeartbeats 8000000
attribute [local congr] fin_congr finG_congr stepG_congr step1_congr runOps_congr brv_congr obl_congr condK_congr LoopK_congr seqK_congr CutK_congr vc_congr DrawK_congr regK_congr CallK_congr AskK_congr newK_congr retC_congr ret1_congr retK_congr outV_congr closeK_congr genR_congr appR_congr finD_congr finGD_congr stepGD_congr stepD_congr CallK0_congr runD_congr okR_congr CallS_congr vcX_congr
attribute [local congr] Stop_congr
section
variable {M : Mem} {K : AV → Hp → Mem → Prop} {u v : Value} {L : List IR} {o : List Int}
end
end Go.Proofs.Ytjapnklocibgaaa.Sx
namespace Go.Proofs.Ytjapnklocibgaaa.Sx
open Go Go.RowKit
set_option linter.unusedVariables false
set_option linter.unusedSimpArgs false
set_option maxRecDepth 100000
set_option maxHeartbeats 8000000
attribute [local congr] fin_congr finG_congr stepG_congr step1_congr runOps_congr brv_congr obl_congr condK_congr LoopK_congr seqK_congr CutK_congr vc_congr DrawK_congr regK_congr CallK_congr AskK_congr newK_congr retC_congr ret1_congr retK_congr outV_congr closeK_congr genR_congr appR_congr finD_congr finGD_congr stepGD_congr stepD_congr CallK0_congr runD_congr okR_congr CallS_congr vcX_congr
attribute [local congr] Stop_congr
theorem exF_small {x y : Nat} (h0 : 0 < y) (hx : (ofN x).length ≤ 128) (hy : (ofN y).length ≤ 128) : (exF x y).1 = 0 ∧ (exF x y).2.1 ≤ x ∧ (exF x y).2.2 ≤ y ∧ 0 < (exF x y).2.2 ∧ chkF (ofN (exF x y).2.1) (ofN (exF x y).2.2) = true := by
  have hg0 : 0 < Nat.gcd x y := Nat.gcd_pos_of_pos_right _ h0
  have hp := Nat.div_pos (Nat.gcd_le_right x h0) hg0
  have hq1 := Nat.div_le_self x (Nat.gcd x y)
  have hq2 := Nat.div_le_self y (Nat.gcd x y)
  have hgg := Nat.gcd_div_gcd_div_gcd_of_pos_right (n := x) h0
  rw [exF_is hx hy]
  refine ⟨rfl, hq1, hq2, hp, ?_⟩
  unfold chkF
  simp only
  rw [chkN_ofN (Nat.le_trans (len_mono hq1) hx), chkN_ofN (Nat.le_trans (len_mono hq2) hy), valN_ofN, valN_ofN, hgg, decide_eq_false (by omega)]; rfl
theorem mulF_len' (a b c d : List Nat) : (ofN (mulF a b c d).2.1).length ≤ 128 ∧ (ofN (mulF a b c d).2.2).length ≤ 128 := by
  unfold mulF
  split
  · exact exF_len' _ _
  · simp only [ofN_zero]; simp
theorem losV_cons (L : List IR) (x : Int) (r : List Int) (e : Int) (n d : Nat) : losV L (x :: r) e n d = losV L r (e + costA L x) (exF (n * (exF (valN (itA L x.toNat).l1 * (e + costA L x).toNat) (valN (itA L x.toNat).l2)).2.2 + (exF (valN (itA L x.toNat).l1 * (e + costA L x).toNat) (valN (itA L x.toNat).l2)).2.1 * d) (d * (exF (valN (itA L x.toNat).l1 * (e + costA L x).toNat) (valN (itA L x.toNat).l2)).2.2)).2.1 (exF (n * (exF (valN (itA L x.toNat).l1 * (e + costA L x).toNat) (valN (itA L x.toNat).l2)).2.2 + (exF (valN (itA L x.toNat).l1 * (e + costA L x).toNat) (valN (itA L x.toNat).l2)).2.1 * d) (d * (exF (valN (itA L x.toNat).l1 * (e + costA L x).toNat) (valN (itA L x.toNat).l2)).2.2)).2.2 := rfl
def bigB : Nat := 288230376151711744
theorem bigB_fits : bigB ≤ wN 2 := by rw [show wN 2 = 18446744073709551616 from rfl]; decide
section
variable {M : Mem} {K : AV → Hp → Mem → Prop} {u v : Value} {L : List IR} {o : List Int}
def olSt (M : Mem) (u v w1 w2 : Value) (n i : Nat) (e : Int) : St := { env := [(23, .ext (.int .i64 (i : Int))), (22, .ext (.int .i64 (n : Int))), (21, .ext v), (8, .ext (.int .i64 e)), (7, .own 7 0), (4, .own 4 0), (0, .ext u)], hp := [(7, 34, [.ext w1, .ext w2]), (4, 34, [.ext (.slice none 0 0), .ext (.slice none 0 0)])], M := M, kb := 0, fx := [] }
theorem oloss_ok (hu : IsR M 5 IR.c u L) (hL : okIL M L) (hb : L.length < 1000000) (hv : IsL M intV64 v o) (hb2 : o.length < 1000000) (hK : FracK M K (errO L o, (losP L o).1, (losP L o).2)) : CallS Try.prog 12 [.ext u, .ext v] [] M [] K := by
  refine inlS (cs := []) Try.mixed Try.func12 rfl (by kernel_rfl) 0 rfl rfl ?_
  simp only [Try.f12]
  refine Go1.mk ?_; repeat' ((first | (with_reducible refine Go1.go ?_) | (((with_reducible refine isCall (f := 41) ?_); refine callA_nil (by kernel_rfl) ?_; refine (ocheckO_ok hu hL hb hv hb2 (fun M1 m1 => Stop.mk ?_)))) | (refine And.intro ?_ ?_; (try simp only [sxO] at *); omega) | fail) <;> (try simp (maxSteps := 1000000) only [hu.one, hv.one, ↓hold_pre, awayP, runOps, regK, step1, newK, genR, appR, obl, buildR, Value.cells, closeK, keepH, outV, retK, ret1, retC, RetV, Option.getD, runD, stepD, afterK, undef, simprocAttr, sxB, ↓sxD, sxE, sxTab]))
  have m1 : Mem.le M M1 := m1
  have hu1 := hu.le m1
  have hL1 := hL.le m1
  have hv1 := hv.le m1
  unfold losP at hK
  by_cases h0 : errO L o = 0
  case neg =>
    have d1 : decide (errO L o = 0) = false := decide_eq_false h0
    rw [if_neg h0] at hK
    refine Stop.go ?_
    refine Go1.mk ?_; repeat' ((first | (with_reducible refine Go1.go ?_) | (refine And.intro ?_ ?_; (try simp only [sxO] at *); omega) | fail) <;> (try simp (maxSteps := 1000000) only [d1, ↓hold_pre, awayP, runOps, regK, step1, newK, genR, appR, obl, buildR, Value.cells, closeK, keepH, outV, retK, ret1, retC, RetV, Option.getD, runD, stepD, afterK, undef, simprocAttr, sxB, ↓sxD, sxE, sxTab]))
    exact hK.err _ m1
  obtain ⟨hci, h64, hol, hin⟩ := errO_zero h0
  rw [h0] at hK
  simp only [if_true] at hK
  refine Stop.go ?_
  refine Go1.mk ?_; repeat' ((first | (with_reducible refine Go1.go ?_) | ((first | ((with_reducible refine isCall (f := 36) ?_); refine callA_nil (by kernel_rfl) ?_) | ((with_reducible refine isCall0 (f := 36) ?_); refine callA0_nil (by kernel_rfl) ?_)); refine (whole_ok 0 (by decide) (fun w1 w2 M2 a1 a2 a3 a4 a5 => Stop.mk ?_))) | (refine And.intro ?_ ?_; (try simp only [sxO] at *); omega) | fail) <;> (try simp (maxSteps := 1000000) only [h0, hv1.one, ↓hold_pre, awayP, runOps, regK, step1, newK, genR, appR, obl, buildR, Value.cells, closeK, keepH, outV, retK, ret1, retC, RetV, Option.getD, runD, stepD, afterK, undef, simprocAttr, sxB, ↓sxD, sxE, sxTab]))
  have a1 : Mem.le M1 M2 := a1
  have hv2 := hv1.le a1
  refine Stop.go ?_
  refine Go1.mk ?_; repeat' ((first | (with_reducible refine Go1.go ?_) | (refine And.intro ?_ ?_; (try simp only [sxO] at *); omega) | fail) <;> (try simp (maxSteps := 1000000) only [hv2.one, hv2.sl, hv2.len, a2.one, a3.one, ↓hold_pre, awayP, runOps, regK, step1, newK, genR, appR, obl, buildR, Value.cells, closeK, keepH, outV, retK, ret1, retC, RetV, Option.getD, runD, stepD, afterK, undef, simprocAttr, sxB, ↓sxD, sxE, sxTab]))
  refine ⟨fun m z => ∃ M' w1 w2 n d i e, m = o.length - i ∧ i ≤ o.length ∧ Mem.le M2 M' ∧ IsL M' u32V w1 (ofN n) ∧ IsL M' u32V w2 (ofN d) ∧ FreshS M1 w1 ∧ FreshS M1 w2 ∧ SumOK bigB i n d ∧ 0 ≤ e ∧ e ≤ (i : Int) * 1048576 ∧ losV L (o.drop i) e n d = losV L o 0 0 1 ∧ z = olSt M' u v w1 w2 o.length i e,
    ⟨o.length, olSt M2 u v w1 w2 o.length 0 0, le_sub ⟨rfl, rfl, rfl, rfl, rfl, rfl, rfl, trivial⟩ ⟨rfl, rfl, trivial⟩ rfl rfl rfl (keepLt0 _), ⟨M2, w1, w2, 0, 1, 0, 0, by omega, by omega, Mem.le.refl _, a2, a3, a4, a5, SumOK.zero _, by omega, by omega, rfl, rfl⟩⟩, ?_⟩
  clear a2 a3 a4 a5
  rintro m z ⟨M3, w1, w2, n, d, i, e, rfl, hi, hM, hw1, hw2, fw1, fw2, hS, e0, e1, hp, rfl⟩
  have hv3 := hv2.le hM
  have hM1 := a1.trans hM
  have hu3 := hu1.le hM1
  have hL3 := hL1.le hM1
  by_cases hlt : i < o.length
  case neg =>
    obtain rfl : i = o.length := by omega
    have d1 : decide ((o.length : Int) < (o.length : Int)) = false := by simp
    rw [List.drop_length] at hp
    rw [← hp] at hK
    refine Go1.mk ?_; repeat' ((first | (with_reducible refine Go1.go ?_) | (refine And.intro ?_ ?_; (try simp only [sxO] at *); omega) | fail) <;> (try simp (maxSteps := 1000000) only [olSt, hv3.one, hw1.one, hw2.one, d1, ↓hold_pre, awayP, runOps, regK, step1, newK, genR, appR, obl, buildR, Value.cells, closeK, keepH, outV, retK, ret1, retC, RetV, Option.getD, runD, stepD, afterK, undef, simprocAttr, sxB, ↓sxD, sxE, sxTab]))
    exact hK _ _ _ (m1.trans hM1) hw1 hw2 (fw1.le m1) (fw2.le m1)
  have d1 : decide ((i : Int) < (o.length : Int)) = true := by rw [decide_eq_true_eq]; omega
  have b1 : (0 : Int) ≤ (i : Int) := by omega
  have b2 : (i : Int) < (o.length : Int) := by omega
  have hnn := hv3.nn hlt
  have hat := hv3.at (P := Try.prog) (T := 3) tk3 tz3 hlt
  have wi : IntKind.i64.wrap ((i : Int) + 1) = ((i + 1 : Nat) : Int) := succ_i (by omega)
  obtain ⟨x0, x1⟩ := hin _ (List.getElem_mem hlt)
  have hdr : o.drop i = o[i] :: o.drop (i + 1) := List.drop_eq_getElem_cons hlt
  rw [hdr, losV_cons] at hp
  have hcb := costA_in hci x0 x1
  have hat : lookM Try.prog 3 M3 (elemP v 1 i) = some (.int .i64 o[i]) := hat
  generalize o[i] = x at *
  obtain ⟨k, rfl⟩ := Int.eq_ofNat_of_zero_le x0
  have hkl : k < L.length := by omega
  have b3 : (0 : Int) ≤ (k : Int) := by omega
  have b4 : (k : Int) < (L.length : Int) := by omega
  have p1 := hu3.pt hkl
  have hnu := hu3.nn hkl
  have hac := hu3.part (P := Try.prog) (fun _ => rfl) tk34 tz34 (o := 2) hkl (by decide)
  have hco : costA L (k : Int) = L[k].cost := by unfold costA; rw [Int.toNat_natCast, itA_in hkl]
  have hcc := hu3.atF (P := Try.prog) (T := 3) (fun _ => rfl) tk3 tz3 hkl (o := 4) (v := .int .i64 L[k].cost) rfl
  rw [← hco] at hcc
  clear hco
  rw [Int.toNat_natCast, itA_in hkl] at hp
  generalize costA L (k : Int) = co at *
  have hck := hci _ (List.getElem_mem hkl)
  have hxo := hL3 _ (List.getElem_mem hkl)
  generalize L[k] = y at *
  obtain ⟨q1, q2, l1, l2, y0, yg⟩ := chkI_val hxo hck
  obtain ⟨hchk, _⟩ := chkI_parts hck
  obtain ⟨pk, ts, x1', x2', y1, y2, co'⟩ := y
  have hac : lookM Try.prog 34 M3 (addP (elemP u 5 k) 2) = some (.agg #[x1', x2']) := hac
  have hF1 : IsF M3 x1' x2' y1 y2 := hxo.f
  simp only at q1 q2 l1 l2 y0 yg hchk hp
  have we : IntKind.i64.wrap (e + co) = e + co := wrap_id (by omega) (by omega)
  obtain ⟨E, hE⟩ := Int.eq_ofNat_of_zero_le (show 0 ≤ e + co by omega)
  rw [hE] at we
  have hE26 : E ≤ 67108864 := by omega
  rw [hE, Int.toNat_natCast] at hp
  have hEl : (ofN E).length ≤ 1 := ofN_len_le (by rw [show wN 1 = 4294967296 from rfl]; omega)
  have h1l : (ofN 1).length ≤ 1 := by rw [ofN_u32 (by decide) (by decide)]; decide
  have hEc : chkF (ofN E) (ofN 1) = true := by
    unfold chkF
    rw [chkN_ofN (by omega), chkN_ofN (by omega), valN_ofN, valN_ofN, Nat.gcd_one_right]; rfl
  have hmul : mulF y1 y2 (ofN E) (ofN 1) = exF (valN y1 * E) (valN y2) := by
    unfold mulF
    rw [hchk, hEc, Bool.and_self, if_pos rfl, valN_ofN, valN_ofN, Nat.mul_one]
  have hml := mul_len (valN y1) E
  have hy1 : (ofN (valN y1)).length ≤ 1 := ofN_len_le (by rw [show wN 1 = 4294967296 from rfl]; exact l1)
  have hy2 : (ofN (valN y2)).length ≤ 1 := ofN_len_le (by rw [show wN 1 = 4294967296 from rfl]; exact l2)
  obtain ⟨t0, t1, t2, t3, t4⟩ := exF_small (x := valN y1 * E) (y := valN y2) y0 (by omega) (by omega)
  have hXB : valN y1 * E ≤ bigB := Nat.le_trans (Nat.mul_le_mul (Nat.le_of_lt l1) hE26) (by decide)
  rw [← hmul] at t0 t1 t2 t3 t4 hp
  have tl := mulF_len' y1 y2 (ofN E) (ofN 1)
  obtain ⟨s1, s2⟩ := hS.add (n' := (mulF y1 y2 (ofN E) (ofN 1)).2.1) (d' := (mulF y1 y2 (ofN E) (ofN 1)).2.2) (by omega) bigB_fits (Nat.le_trans t1 hXB) t3 (by omega)
  have hlen := hS.len (by omega) bigB_fits
  have hadd : addF (ofN n) (ofN d) (ofN (mulF y1 y2 (ofN E) (ofN 1)).2.1) (ofN (mulF y1 y2 (ofN E) (ofN 1)).2.2) = exF (n * (mulF y1 y2 (ofN E) (ofN 1)).2.2 + (mulF y1 y2 (ofN E) (ofN 1)).2.1 * d) (d * (mulF y1 y2 (ofN E) (ofN 1)).2.2) := addF_of (hS.chk (by omega) bigB_fits) t4
  clear hmul hml hXB q1 q2 t1 t2
  refine Go1.mk ?_; repeat' ((first | (with_reducible refine Go1.go ?_) | ((first | ((with_reducible refine isCall (f := 36) ?_); refine callA_nil (by kernel_rfl) ?_) | ((with_reducible refine isCall0 (f := 36) ?_); refine callA0_nil (by kernel_rfl) ?_)); refine (whole_ok E (by omega) (fun w3 w4 M4 c1 c2 c3 c4 c5 => Stop.mk ?_))) | ((with_reducible refine isDraw [some 35, some 36, some 37, some 38, some 39, some 40, some 41, some 42, some 34, some 43, some 44, some 11, none, some 12] (by decide) ?_); refine draw_rule [(0, []), (1, []), (2, []), (3, []), (4, []), (5, [4]), (11, [4]), (6, [4]), (7, []), (8, []), (9, []), (10, []), (12, []), (13, [])] [[], [], [0, 1], [0, 1, 2], [0, 1, 2, 3], [], [5], [0, 1, 2, 3, 4, 5, 6], [0, 1, 2, 3, 4, 5, 6, 7], [0, 1, 2, 3, 4, 5, 6, 7, 8], [0, 1, 2, 3, 4, 5, 6, 7, 8], [], [0, 1, 2, 3, 4, 5, 6, 7, 8, 9, 11], [0, 1, 2, 3, 4, 5, 6, 7, 8, 9, 10, 11, 12]] [35, 36, 37, 38, 39, 40, 41, 42, 34, 43, 44, 11] [] (by kernel_rfl) (by kernel_rfl) (by kernel_rfl) (by kernel_rfl) (by exact trivial) ?_) | (refine And.intro ?_ ?_; (try simp only [sxO] at *); omega) | fail) <;> (try simp (maxSteps := 1000000) only [olSt, hu3.one, hu3.len, hu3.sl, hv3.one, hv3.len, hv3.sl, hnn, hnu, p1, d1, b1, b2, b3, b4, hat, hac, hcc, hE, we, hw1.one, hw2.one, hF1.n.one, hF1.d.one, ↓hold_pre, awayP, runOps, regK, step1, newK, genR, appR, obl, buildR, Value.cells, closeK, keepH, outV, retK, ret1, retC, RetV, Option.getD, runD, stepD, afterK, undef, simprocAttr, sxB, ↓sxD, sxE, sxTab]))
  have c1 : Mem.le M3 M4 := c1
  have hF4 := hF1.le c1
  have hw1' := hw1.le c1
  have hw2' := hw2.le c1
  refine Stop.go ?_
  refine Go1.mk ?_; repeat' ((first | (with_reducible refine Go1.go ?_) | (((with_reducible refine isCall0 (f := 21) ?_); refine callA0_nil (by kernel_rfl) ?_; refine (fmul_ok hF4 ⟨c2, c3, okN_ofN _, okN_ofN _, by omega, by omega⟩ (fun v1 v2 M5 f1 f2 f3 f4 f5 => Stop.mk ?_)))) | ((with_reducible refine isDraw [some 35, some 36, some 37, some 38, some 39, some 40, some 41, some 42, some 34, some 43, some 44, some 11, none, some 12] (by decide) ?_); refine draw_rule [(0, []), (1, []), (2, []), (3, []), (4, []), (5, [4]), (11, [4]), (6, [4]), (7, []), (8, []), (9, []), (10, []), (12, []), (13, [])] [[], [], [0, 1], [0, 1, 2], [0, 1, 2, 3], [], [5], [0, 1, 2, 3, 4, 5, 6], [0, 1, 2, 3, 4, 5, 6, 7], [0, 1, 2, 3, 4, 5, 6, 7, 8], [0, 1, 2, 3, 4, 5, 6, 7, 8], [], [0, 1, 2, 3, 4, 5, 6, 7, 8, 9, 11], [0, 1, 2, 3, 4, 5, 6, 7, 8, 9, 10, 11, 12]] [35, 36, 37, 38, 39, 40, 41, 42, 34, 43, 44, 11] [] (by kernel_rfl) (by kernel_rfl) (by kernel_rfl) (by kernel_rfl) (by exact trivial) ?_) | (refine And.intro ?_ ?_; (try simp only [sxO] at *); omega) | fail) <;> (try simp (maxSteps := 1000000) only [hF4.n.one, hF4.d.one, c2.one, c3.one, ↓hold_pre, awayP, runOps, regK, step1, newK, genR, appR, obl, buildR, Value.cells, closeK, keepH, outV, retK, ret1, retC, RetV, Option.getD, runD, stepD, afterK, undef, simprocAttr, sxB, ↓sxD, sxE, sxTab]))
  have f1 : Mem.le M4 M5 := f1
  have hw1' := hw1'.le f1
  have hw2' := hw2'.le f1
  have d2 : decide ((mulF y1 y2 (ofN E) (ofN 1)).1 = 0) = true := decide_eq_true t0
  refine Stop.go ?_
  refine Go1.mk ?_; repeat' ((first | (with_reducible refine Go1.go ?_) | (((with_reducible refine isCall (f := 42) ?_); refine callA_nil (by kernel_rfl) ?_; refine (fadd_ok ⟨hw1', hw2', okN_ofN _, okN_ofN _, by omega, by omega⟩ ⟨f2, f3, okN_ofN _, okN_ofN _, by omega, by omega⟩ (fun v3 v4 M6 g1 g2 g3 g4 g5 => Stop.mk ?_)))) | ((with_reducible refine isDraw [some 35, some 36, some 37, some 38, some 39, some 40, some 41, some 42, some 34, some 43, some 44, some 11, none, some 12] (by decide) ?_); refine draw_rule [(0, []), (1, []), (2, []), (3, []), (4, []), (5, [4]), (11, [4]), (6, [4]), (7, []), (8, []), (9, []), (10, []), (12, []), (13, [])] [[], [], [0, 1], [0, 1, 2], [0, 1, 2, 3], [], [5], [0, 1, 2, 3, 4, 5, 6], [0, 1, 2, 3, 4, 5, 6, 7], [0, 1, 2, 3, 4, 5, 6, 7, 8], [0, 1, 2, 3, 4, 5, 6, 7, 8], [], [0, 1, 2, 3, 4, 5, 6, 7, 8, 9, 11], [0, 1, 2, 3, 4, 5, 6, 7, 8, 9, 10, 11, 12]] [35, 36, 37, 38, 39, 40, 41, 42, 34, 43, 44, 11] [] (by kernel_rfl) (by kernel_rfl) (by kernel_rfl) (by kernel_rfl) (by exact trivial) ?_) | (refine And.intro ?_ ?_; (try simp only [sxO] at *); omega) | fail) <;> (try simp (maxSteps := 1000000) only [f2.one, f3.one, hw1'.one, hw2'.one, d2, ↓hold_pre, awayP, runOps, regK, step1, newK, genR, appR, obl, buildR, Value.cells, closeK, keepH, outV, retK, ret1, retC, RetV, Option.getD, runD, stepD, afterK, undef, simprocAttr, sxB, ↓sxD, sxE, sxTab]))
  have g1 : Mem.le M5 M6 := g1
  rw [hadd] at g2 g3
  have d3 : decide ((addF (ofN n) (ofN d) (ofN (mulF y1 y2 (ofN E) (ofN 1)).2.1) (ofN (mulF y1 y2 (ofN E) (ofN 1)).2.2)).1 = 0) = true := by rw [hadd]; exact decide_eq_true s1
  refine Stop.go ?_
  refine Go1.mk ?_; repeat' ((first | (with_reducible refine Go1.go ?_) | ((with_reducible refine isDraw [some 35, some 36, some 37, some 38, some 39, some 40, some 41, some 42, some 34, some 43, some 44, some 11, none, some 12] (by decide) ?_); refine draw_rule [(0, []), (1, []), (2, []), (3, []), (4, []), (5, [4]), (11, [4]), (6, [4]), (7, []), (8, []), (9, []), (10, []), (12, []), (13, [])] [[], [], [0, 1], [0, 1, 2], [0, 1, 2, 3], [], [5], [0, 1, 2, 3, 4, 5, 6], [0, 1, 2, 3, 4, 5, 6, 7], [0, 1, 2, 3, 4, 5, 6, 7, 8], [0, 1, 2, 3, 4, 5, 6, 7, 8], [], [0, 1, 2, 3, 4, 5, 6, 7, 8, 9, 11], [0, 1, 2, 3, 4, 5, 6, 7, 8, 9, 10, 11, 12]] [35, 36, 37, 38, 39, 40, 41, 42, 34, 43, 44, 11] [] (by kernel_rfl) (by kernel_rfl) (by kernel_rfl) (by kernel_rfl) (by exact trivial) ?_) | (refine And.intro ?_ ?_; (try simp only [sxO] at *); omega) | fail) <;> (try simp (maxSteps := 1000000) only [g2.one, g3.one, d3, wi, ↓hold_pre, awayP, runOps, regK, step1, newK, genR, appR, obl, buildR, Value.cells, closeK, keepH, outV, retK, ret1, retC, RetV, Option.getD, runD, stepD, afterK, undef, simprocAttr, sxB, ↓sxD, sxE, sxTab]))
  have hMM := (c1.trans f1).trans g1
  exact ⟨o.length - (i + 1), olSt M6 u v v3 v4 o.length (i + 1) (E : Int), by omega, le_sub ⟨rfl, rfl, rfl, rfl, rfl, rfl, rfl, trivial⟩ ⟨rfl, rfl, trivial⟩ rfl rfl rfl (keepLt0 _), M6, v3, v4, _, _, i + 1, (E : Int), rfl, by omega, hM.trans hMM, g2, g3, g4.le (hM1.trans (c1.trans f1)), g5.le (hM1.trans (c1.trans f1)), s2, by omega, by omega, hp, rfl⟩
end
end Go.Proofs.Ytjapnklocibgaaa.Sx
namespace Go.Proofs.Ytjapnklocibgaaa.Sx
open Go Go.RowKit
set_option linter.unusedVariables false
set_option linter.unusedSimpArgs false
set_option maxRecDepth 100000
set_option maxHeartbeats 8000000
attribute [local congr] fin_congr finG_congr stepG_congr step1_congr runOps_congr brv_congr obl_congr condK_congr LoopK_congr seqK_congr CutK_congr vc_congr DrawK_congr regK_congr CallK_congr AskK_congr newK_congr retC_congr ret1_congr retK_congr outV_congr closeK_congr genR_congr appR_congr finD_congr finGD_congr stepGD_congr stepD_congr CallK0_congr runD_congr okR_congr CallS_congr vcX_congr
attribute [local congr] Stop_congr
def irC (L : List IR) : List AV := (L.flatMap IR.c).map .ext
theorem irC_len (L : List IR) : (irC L).length = L.length * 5 := by
  unfold irC
  rw [List.length_map, flat_len (z := 5) (fun _ => rfl)]
theorem irC_ment (L : List IR) : mentL (irC L) = [] := mentL_ext _
theorem irC_kill (k : Nat) (L : List IR) : killL k (irC L) = irC L := killL_ext _ _
theorem irC_app (L : List IR) (x : IR) : irC L ++ [.ext (.string (bs x.pk)), .ext (.string (bs x.ts)), .ext x.u1, .ext x.u2, .ext (.int .i64 x.cost)] = irC (L ++ [x]) := by simp [irC, IR.c]
structure ItOK (M : Mem) (x : IR) : Prop where
  ok : x.ok M
  chk : chkI x = true
theorem ItOK.le {M M' : Mem} {x : IR} (h : ItOK M x) (hM : Mem.le M M') : ItOK M' x := ⟨h.ok.le hM, h.chk⟩
theorem itOK_of {M : Mem} {w1 w2 : Value} {n d : Nat} (pk ts : Bst) (c : Nat) (h1 : IsL M u32V w1 (ofN n)) (h2 : IsL M u32V w2 (ofN d)) (hn : n < 4294967296) (hd0 : 0 < d) (hd : d < 4294967296) (hg : Nat.gcd n d = 1) (hc : 0 < c) (hc2 : c ≤ 1048576) : ItOK M ⟨pk, ts, w1, w2, ofN n, ofN d, (c : Int)⟩ := by
  have e1 : (ofN n).length ≤ 1 := ofN_len_le (by rw [show wN 1 = 4294967296 from rfl]; exact hn)
  have e2 : (ofN d).length ≤ 1 := ofN_len_le (by rw [show wN 1 = 4294967296 from rfl]; exact hd)
  refine ⟨⟨⟨h1, h2, okN_ofN _, okN_ofN _, by simp only; omega, by simp only; omega⟩, by simp only; omega, by simp only; omega⟩, ?_⟩
  unfold chkI chkF
  simp only
  rw [chkN_ofN (by omega), chkN_ofN (by omega), valN_ofN, valN_ofN, hg, decide_eq_false (show ¬ d = 0 by omega), decide_eq_true e1, decide_eq_true e2, decide_eq_true (show (1 : Int) ≤ (c : Int) by omega), decide_eq_true (show (c : Int) ≤ 1048576 by omega)]; rfl
theorem sml_low (num den : Nat) (hn : num ≤ 2147483648) (hd : 0 < den) (hd2 : den ≤ 2147483648) : num / Nat.gcd num den < 4294967296 ∧ 0 < den / Nat.gcd num den ∧ den / Nat.gcd num den < 4294967296 ∧ Nat.gcd (num / Nat.gcd num den) (den / Nat.gcd num den) = 1 := by
  have hg0 : 0 < Nat.gcd num den := Nat.gcd_pos_of_pos_right _ hd
  have h1 := Nat.div_le_self num (Nat.gcd num den)
  have h2 := Nat.div_le_self den (Nat.gcd num den)
  exact ⟨by omega, Nat.div_pos (Nat.gcd_le_right num hd) hg0, by omega, Nat.gcd_div_gcd_div_gcd_of_pos_right hd⟩
section
variable {M : Mem} {K : AV → Hp → Mem → Prop}
theorem item_ok (ts : Bst) (num den : Nat) (cost : Int) (hn : num ≤ 2147483648) (hd : 0 < den) (hd2 : den ≤ 2147483648)
    (hK : ∀ w1 w2 M', Mem.le M M' → IsL M' u32V w1 (ofN (num / Nat.gcd num den)) → IsL M' u32V w2 (ofN (den / Nat.gcd num den)) → FreshS M w1 → FreshS M w2 → K (.ext (.agg #[.string (bs [112]), .string (bs ts), w1, w2, .int .i64 cost])) [] M') : CallS Try.prog 19 [.ext (.string (bs ts)), .ext (.int .i64 (num : Int)), .ext (.int .i64 (den : Int)), .ext (.int .i64 cost)] [] M [] K := by
  refine inlS (cs := []) Try.mixed Try.func19 rfl (by kernel_rfl) 0 rfl rfl ?_
  simp only [Try.f19]
  refine Go1.mk ?_; repeat' ((first | (with_reducible refine Go1.go ?_) | (((with_reducible refine isCall (f := 22) ?_); refine callA_nil (by kernel_rfl) ?_; refine (sml_ok num den hn hd hd2 (fun w1 w2 M1 a1 a2 a3 a4 a5 => Stop.mk ?_)))) | (refine And.intro ?_ ?_; (try simp only [sxO] at *); omega) | fail) <;> (try simp (maxSteps := 1000000) only [bs_mk, bs_app, bs_ext, bs_size, bs_toList, bs_at, bs_cells, List.take_length, imp_ga, guard_pk, guard_pk2, ↓hold_pre, awayP, runOps, regK, step1, newK, genR, appR, obl, buildR, Value.cells, closeK, keepH, outV, retK, ret1, retC, RetV, Option.getD, runD, stepD, afterK, undef, simprocAttr, sxB, ↓sxD, sxE, sxTab]))
  have hk := hK w1 w2 M1 a1 a2 a3 a4 a5
  refine Stop.go ?_
  refine Go1.mk ?_; repeat' ((first | (with_reducible refine Go1.go ?_) | (refine And.intro ?_ ?_; (try simp only [sxO] at *); omega) | fail) <;> (try simp (maxSteps := 1000000) only [a2.one, a3.one, bs_mk, bs_app, bs_ext, bs_size, bs_toList, bs_at, bs_cells, List.take_length, imp_ga, guard_pk, guard_pk2, ↓hold_pre, awayP, runOps, regK, step1, newK, genR, appR, obl, buildR, Value.cells, closeK, keepH, outV, retK, ret1, retC, RetV, Option.getD, runD, stepD, afterK, undef, simprocAttr, sxB, ↓sxD, sxE, sxTab]))
  exact hk
end
end Go.Proofs.Ytjapnklocibgaaa.Sx
namespace Go.Proofs.Ytjapnklocibgaaa.Sx
open Go Go.RowKit
set_option linter.unusedVariables false
set_option linter.unusedSimpArgs false
set_option maxRecDepth 100000
set_option maxHeartbeats 8000000
attribute [local congr] fin_congr finG_congr stepG_congr step1_congr runOps_congr brv_congr obl_congr condK_congr LoopK_congr seqK_congr CutK_congr vc_congr DrawK_congr regK_congr CallK_congr AskK_congr newK_congr retC_congr ret1_congr retK_congr outV_congr closeK_congr genR_congr appR_congr finD_congr finGD_congr stepGD_congr stepD_congr CallK0_congr runD_congr okR_congr CallS_congr vcX_congr
attribute [local congr] Stop_congr
section
variable {M : Mem} {K : AV → Hp → Mem → Prop}
def sameSt (M : Mem) (u1 u2 : Value) (i : Nat) : St := { env := [(5, .ext (.int .i64 (i : Int))), (4, .ext (.bool false)), (1, .ext u2), (0, .ext u1)], hp := [], M := M, kb := 0, fx := [] }
theorem sameInts_ok (u1 u2 : Value) (l1 l2 : List Int) (h1 : IsL M intV64 u1 l1) (h2 : IsL M intV64 u2 l2) (hb : l1.length < 1000000000) (hb2 : l2.length < 1000000000) (hK : K (.ext (.bool (decide (l1 = l2)))) [] M) : CallS Try.prog 23 [.ext u1, .ext u2] [] M [] K := by
  refine inlS (cs := []) Try.mixed Try.func23 rfl (by kernel_rfl) 0 rfl rfl ?_
  simp only [Try.f23]
  by_cases hl : l1.length = l2.length
  · have hl2 : decide ((l1.length : Int) = (l2.length : Int)) = true := by simp [hl]
    (replace hb0 := true_and True); refine Go1.mk ?_; repeat' ((first | (with_reducible refine Go1.go ?_) | ((with_reducible first | refine brv_mk ?_ ?_ | refine gsplitD ?_ ?_ | refine gsplitG ?_ ?_) <;> intro h <;> (try simp only [Bool.not_eq_true', Bool.not_eq_false'] at h) <;> replace hb0 := h) | ((with_reducible refine isDraw [some 17, some 18, some 19, some 20, some 21, some 22, some 23, some 24, some 25] (by decide) ?_); refine draw_rule [(0, []), (1, []), (2, []), (3, []), (4, [3]), (5, [3]), (6, [3]), (7, [3]), (8, [])] [[], [], [0, 1], [0, 1, 2], [], [], [4, 5], [4, 5, 6], [0, 1, 2, 3, 4, 5, 6, 7]] [17, 18, 19, 20, 21, 22, 23, 24] [] (by kernel_rfl) (by kernel_rfl) (by kernel_rfl) (by kernel_rfl) (by exact trivial) ?_) | (refine And.intro ?_ ?_; (try simp only [sxO] at *); omega) | fail) <;> (try simp (maxSteps := 1000000) only [hb0, h1.len, h1.sl, h2.len, h2.sl, hl2, ↓hold_pre, awayP, runOps, regK, step1, newK, genR, appR, obl, buildR, Value.cells, closeK, keepH, outV, retK, ret1, retC, RetV, Option.getD, runD, stepD, afterK, undef, simprocAttr, sxB, ↓sxD, sxE, sxTab]))
    refine ⟨fun m z => ∃ i, i ≤ l1.length ∧ l1.take i = l2.take i ∧ m = l1.length - i ∧ z = sameSt M u1 u2 i, ⟨l1.length, sameSt M u1 u2 0, le_sub ⟨rfl, rfl, rfl, rfl, trivial⟩ trivial rfl rfl rfl (keepLt0 _), ⟨0, by omega, rfl, rfl, rfl⟩⟩, ?_⟩
    rintro m z ⟨i, hi, hpre, rfl, rfl⟩
    by_cases hlt : i < l1.length
    · have hlt2 : i < l2.length := by omega
      have f1 := h1.idx (P := Try.prog) (T := 3) tk3 tz3 (by omega) hlt
      have f2 := h2.idx (P := Try.prog) (T := 3) tk3 tz3 (by omega) hlt2
      (replace hb0 := true_and True); refine Go1.mk ?_; repeat' ((first | (with_reducible refine Go1.go ?_) | ((with_reducible first | refine brv_mk ?_ ?_ | refine gsplitD ?_ ?_ | refine gsplitG ?_ ?_) <;> intro h <;> (try simp only [Bool.not_eq_true', Bool.not_eq_false'] at h) <;> replace hb0 := h) | ((with_reducible refine isDraw [some 17, some 18, some 19, some 20, some 21, some 22, some 23, some 24, some 25] (by decide) ?_); refine draw_rule [(0, []), (1, []), (2, []), (3, []), (4, [3]), (5, [3]), (6, [3]), (7, [3]), (8, [])] [[], [], [0, 1], [0, 1, 2], [], [], [4, 5], [4, 5, 6], [0, 1, 2, 3, 4, 5, 6, 7]] [17, 18, 19, 20, 21, 22, 23, 24] [] (by kernel_rfl) (by kernel_rfl) (by kernel_rfl) (by kernel_rfl) (by exact trivial) ?_) | (refine And.intro ?_ ?_; (try simp only [sxO] at *); omega) | fail) <;> (try simp (maxSteps := 1000000) only [hb0, f1, f2, intV64, sameSt, ↓hold_pre, awayP, runOps, regK, step1, newK, genR, appR, obl, buildR, Value.cells, closeK, keepH, outV, retK, ret1, retC, RetV, Option.getD, runD, stepD, afterK, undef, simprocAttr, sxB, ↓sxD, sxE, sxTab]))
      · have e : decide (l1 = l2) = false := by
          simp only [Bool.not_eq_true', decide_eq_false_iff_not] at h ⊢
          intro e; subst e; exact h rfl
        rw [e] at hK; exact hK
      · simp only [Bool.not_eq_false', decide_eq_true_eq] at h
        refine ⟨l1.length - (i + 1), sameSt M u1 u2 (i + 1), by omega, le_sub ⟨rfl, rfl, rfl, rfl, trivial⟩ trivial rfl rfl rfl (keepLt0 _), i + 1, by omega, ?_, rfl, rfl⟩
        rw [List.take_succ_eq_append_getElem hlt, List.take_succ_eq_append_getElem hlt2, hpre, h]
    · have f1 := h1.fin hlt
      have ei : i = l1.length := by omega
      subst ei
      rw [List.take_length, hl, List.take_length] at hpre
      have e : decide (l1 = l2) = true := by simp [hpre]
      rw [e] at hK
      (replace hb0 := true_and True); refine Go1.mk ?_; repeat' ((first | (with_reducible refine Go1.go ?_) | ((with_reducible first | refine brv_mk ?_ ?_ | refine gsplitD ?_ ?_ | refine gsplitG ?_ ?_) <;> intro h <;> (try simp only [Bool.not_eq_true', Bool.not_eq_false'] at h) <;> replace hb0 := h) | ((with_reducible refine isDraw [some 17, some 18, some 19, some 20, some 21, some 22, some 23, some 24, some 25] (by decide) ?_); refine draw_rule [(0, []), (1, []), (2, []), (3, []), (4, [3]), (5, [3]), (6, [3]), (7, [3]), (8, [])] [[], [], [0, 1], [0, 1, 2], [], [], [4, 5], [4, 5, 6], [0, 1, 2, 3, 4, 5, 6, 7]] [17, 18, 19, 20, 21, 22, 23, 24] [] (by kernel_rfl) (by kernel_rfl) (by kernel_rfl) (by kernel_rfl) (by exact trivial) ?_) | (refine And.intro ?_ ?_; (try simp only [sxO] at *); omega) | fail) <;> (try simp (maxSteps := 1000000) only [hb0, f1, sameSt, ↓hold_pre, awayP, runOps, regK, step1, newK, genR, appR, obl, buildR, Value.cells, closeK, keepH, outV, retK, ret1, retC, RetV, Option.getD, runD, stepD, afterK, undef, simprocAttr, sxB, ↓sxD, sxE, sxTab]))
      exact hK
  · have hl2 : decide ((l1.length : Int) = (l2.length : Int)) = false := by simp; omega
    have e : decide (l1 = l2) = false := by
      simp only [decide_eq_false_iff_not]
      intro e; subst e; exact hl rfl
    rw [e] at hK
    (replace hb0 := true_and True); refine Go1.mk ?_; repeat' ((first | (with_reducible refine Go1.go ?_) | ((with_reducible first | refine brv_mk ?_ ?_ | refine gsplitD ?_ ?_ | refine gsplitG ?_ ?_) <;> intro h <;> (try simp only [Bool.not_eq_true', Bool.not_eq_false'] at h) <;> replace hb0 := h) | ((with_reducible refine isDraw [some 17, some 18, some 19, some 20, some 21, some 22, some 23, some 24, some 25] (by decide) ?_); refine draw_rule [(0, []), (1, []), (2, []), (3, []), (4, [3]), (5, [3]), (6, [3]), (7, [3]), (8, [])] [[], [], [0, 1], [0, 1, 2], [], [], [4, 5], [4, 5, 6], [0, 1, 2, 3, 4, 5, 6, 7]] [17, 18, 19, 20, 21, 22, 23, 24] [] (by kernel_rfl) (by kernel_rfl) (by kernel_rfl) (by kernel_rfl) (by exact trivial) ?_) | (refine And.intro ?_ ?_; (try simp only [sxO] at *); omega) | fail) <;> (try simp (maxSteps := 1000000) only [hb0, h1.len, h1.sl, h2.len, h2.sl, hl2, ↓hold_pre, awayP, runOps, regK, step1, newK, genR, appR, obl, buildR, Value.cells, closeK, keepH, outV, retK, ret1, retC, RetV, Option.getD, runD, stepD, afterK, undef, simprocAttr, sxB, ↓sxD, sxE, sxTab]))
    exact hK
theorem IsL.nat {u : Value} {l : List Nat} (h : IsL M natV u l) : IsL M intV64 u (l.map fun (x : Nat) => (x : Int)) := by
  unfold IsL at h ⊢
  rw [List.map_map, List.length_map]
  exact h
theorem same_bor {k : Nat} {u : Value} {l1 l2 : List Int} {T : TypeId} {H : Hp} (hp : pureH H) (hk : lkH H k = some (T, cE intV64 l2)) {n : Nat} (hn : n = l2.length) (hu : IsL M intV64 u l1) (hb : l1.length < 1000000000) (hb2 : l2.length < 1000000000) (hK : K (.ext (.bool (decide (l1 = l2)))) H M) : CallS Try.prog 23 [.ext u, .slo k 0 n 1] H M [] K := by
  refine CallS.bor hp fun us M' hM hb' => ?_
  obtain ⟨_, _, rfl, rfl, v2, _, rfl, h2, rfl⟩ := hb'
  exact sameInts_ok _ v2 l1 l2 (hu.le hM) (h2.isL hk hn) hb hb2 (BorK.same hK)
theorem BorV.isI {M : Mem} {H : Hp} {k n : Nat} {L : List IR} {u : Value} {T : TypeId} (h : BorV M H (.slo k 0 n 5) u) (hk : lkH H k = some (T, irC L)) (hn : n = L.length) : IsR M 5 IR.c u L := by
  have hl := flat_len (z := 5) (f := IR.c) (fun _ => rfl) L
  have := h T (L.flatMap IR.c) hk (by omega)
  rw [List.drop_zero, List.take_of_length_le (by omega), hn] at this
  exact this
theorem oorder_bor (k n : Nat) (T : TypeId) {L : List IR} (hn : n = L.length) (hL : okIL M L) (hb : L.length < 1000000) (hK : ∀ v Z M', Mem.le M M' → ordS L Z → IsL M' natV v Z → K (.ext (.tuple #[v, .int .i64 (ordE L)])) [(k, T, irC L)] M') :
    CallS Try.prog 11 [.slo k 0 n 5] [(k, T, irC L)] M [] K := by
  refine CallS.bor ⟨⟨_, rfl⟩, trivial⟩ fun us M' hM hb' => ?_
  obtain ⟨v1, _, rfl, h1, rfl⟩ := hb'
  have g1 := h1.isI (L := L) (T := T) (by simp [lkH]) hn
  refine order_ok g1 (hL.le hM) hb fun v Z M2 a1 a2 a3 a4 => ?_
  exact ⟨fun j hj => rfl, fun M3 h5 h6 _ => hK v Z M3 h5 a2 (a3.move a4 h6)⟩
theorem oloss_bor (k n : Nat) (T : TypeId) {L : List IR} {v : Value} {o : List Int} (hn : n = L.length) (hL : okIL M L) (hb : L.length < 1000000) (hv : IsL M intV64 v o) (hb2 : o.length < 1000000) (hK : ∀ w1 w2 M', Mem.le M M' → IsL M' u32V w1 (ofN (losP L o).1) → IsL M' u32V w2 (ofN (losP L o).2) → K (.ext (.tuple #[.agg #[w1, w2], .int .i64 (errO L o)])) [(k, T, irC L)] M') :
    CallS Try.prog 12 [.slo k 0 n 5, .ext v] [(k, T, irC L)] M [] K := by
  refine CallS.bor ⟨⟨_, rfl⟩, trivial⟩ fun us M' hM hb' => ?_
  obtain ⟨v1, _, rfl, h1, v2, _, rfl, rfl, rfl⟩ := hb'
  have g1 := h1.isI (L := L) (T := T) (by simp [lkH]) hn
  refine oloss_ok g1 (hL.le hM) hb (hv.le hM) hb2 fun w1 w2 M2 a1 a2 a3 a4 a5 => ?_
  exact ⟨fun j hj => rfl, fun M3 h5 h6 _ => hK w1 w2 M3 h5 (a2.move a4 h6) (a3.move a5 h6)⟩
end
end Go.Proofs.Ytjapnklocibgaaa.Sx
namespace Go.Proofs.Ytjapnklocibgaaa.Sx
open Go
theorem ratC_pre {L : List IR} (hc : ∀ x ∈ L, chkI x = true) : PreO (ratC L) := by
  have pos : ∀ x, 0 < (itA L x).cost.toNat * valN (itA L x).l2 := fun x => by
    by_cases hx : x < L.length
    · rw [itA_in hx]
      have h := chkI_parts (hc _ (List.getElem_mem hx))
      exact Nat.mul_pos (by omega) (chkF_pos h.1)
    · have : itA L x = itD := by unfold itA; rw [List.getElem?_eq_none (by omega)]; rfl
      rw [this]; decide
  have h1 : PreO (fun x y => cmpN (valN (itA L y).l1 * ((itA L x).cost.toNat * valN (itA L x).l2)) (valN (itA L x).l1 * ((itA L y).cost.toNat * valN (itA L y).l2))) := ⟨fun x y => cmpN_anti _ _, fun x y z g1 g2 => by
    have px := pos x
    have py := pos y
    have pz := pos z
    rw [cmpN_le0] at g1 g2 ⊢
    generalize (itA L x).cost.toNat * valN (itA L x).l2 = kx at *
    generalize (itA L y).cost.toNat * valN (itA L y).l2 = ky at *
    generalize (itA L z).cost.toNat * valN (itA L z).l2 = kz at *
    generalize valN (itA L x).l1 = nx at *
    generalize valN (itA L y).l1 = ny at *
    generalize valN (itA L z).l1 = nz at *
    have q1 := Nat.mul_le_mul_right kz g1
    have q2 := Nat.mul_le_mul_right kx g2
    refine Nat.le_of_mul_le_mul_right (c := ky) ?_ py
    calc nz * kx * ky = nz * ky * kx := by rw [Nat.mul_right_comm]
      _ ≤ ny * kz * kx := q2
      _ = ny * kx * kz := by rw [Nat.mul_right_comm]
      _ ≤ nx * ky * kz := q1
      _ = nx * kz * ky := by rw [Nat.mul_right_comm]⟩
  exact h1.lex ((cmp_S.pre fun x => (itA L x).pk).lex (cmp_S.pre fun x => (itA L x).ts))
theorem ordS_one {L : List IR} {Z W : List Nat} (hc : chkIL L = true) (h : ordS L Z) (hW : W.Perm (List.range L.length)) (hs : W.Pairwise (ltS (ratC L))) : Z = W := by
  unfold ordS at h
  rw [if_pos hc] at h
  have hcc := hc
  unfold chkIL at hcc
  rw [Bool.and_eq_true] at hcc
  exact sorted_one (ratC_pre (List.all_eq_true.1 hcc.2)).cmp (h.1.trans hW.symm) h.2 hs
def knoL (w1 w2 w3 w4 w5 w6 : Value) : List IR := [⟨[112], [97], w1, w2, ofN 1, ofN 2, 4⟩, ⟨[112], [98], w3, w4, ofN 1, ofN 3, 1⟩, ⟨[112], [99], w5, w6, ofN 1, ofN 4, 2⟩]
theorem kno_chk (w1 w2 w3 w4 w5 w6 : Value) : chkIL (knoL w1 w2 w3 w4 w5 w6) = true := by
  have h1 : ofN 1 = [1] := ofN_u32 (by decide) (by decide)
  have h2 : ofN 2 = [2] := ofN_u32 (by decide) (by decide)
  have h3 : ofN 3 = [3] := ofN_u32 (by decide) (by decide)
  have h4 : ofN 4 = [4] := ofN_u32 (by decide) (by decide)
  have c2 : chkF [1] [2] = true := by decide +kernel
  have c3 : chkF [1] [3] = true := by decide +kernel
  have c4 : chkF [1] [4] = true := by decide +kernel
  simp [chkIL, knoL, chkI, h1, h2, h3, h4, c2, c3, c4]
theorem kno_ord {w1 w2 w3 w4 w5 w6 : Value} {Z : List Nat} (h : ordS (knoL w1 w2 w3 w4 w5 w6) Z) : Z = [1, 0, 2] := by
  refine ordS_one (kno_chk _ _ _ _ _ _) h (by show List.Perm [1, 0, 2] (List.range 3); decide) ?_
  have e1 : ratC (knoL w1 w2 w3 w4 w5 w6) 1 0 = -1 := by
    simp only [ratC, knoL, itA, List.getElem?_cons_succ, List.getElem?_cons_zero, Option.getD_some, valN_ofN]; decide
  have e2 : ratC (knoL w1 w2 w3 w4 w5 w6) 1 2 = -1 := by
    simp only [ratC, knoL, itA, List.getElem?_cons_succ, List.getElem?_cons_zero, Option.getD_some, valN_ofN]; decide
  have e3 : ratC (knoL w1 w2 w3 w4 w5 w6) 0 2 = -1 := by
    simp only [ratC, knoL, itA, List.getElem?_cons_succ, List.getElem?_cons_zero, Option.getD_some, valN_ofN]; decide
  simp [ltS, e1, e2, e3]
theorem kno_err (w1 w2 w3 w4 w5 w6 : Value) : errO (knoL w1 w2 w3 w4 w5 w6) [1, 0, 2] = 0 := by
  unfold errO
  rw [kno_chk, if_pos rfl]
  have : permB (knoL w1 w2 w3 w4 w5 w6).length [1, 0, 2] = true := by show permB 3 [1, 0, 2] = true; decide
  rw [this, if_pos rfl]
theorem exF_num {x y n d : Nat} (h0 : 0 < y) (hd : 0 < d) (h : x * d = n * y) (hg : Nat.gcd n d = 1) (h1 : n < 4294967296) (h2 : d < 4294967296) : exF x y = (0, n, d) := exF_eq h0 hd h hg (Nat.le_trans (ofN_len_le (k := 1) (by rw [show wN 1 = 4294967296 from rfl]; exact h1)) (by decide)) (Nat.le_trans (ofN_len_le (k := 1) (by rw [show wN 1 = 4294967296 from rfl]; exact h2)) (by decide))
theorem kno_los (w1 w2 w3 w4 w5 w6 : Value) : losP (knoL w1 w2 w3 w4 w5 w6) [1, 0, 2] = (55, 12) := by
  unfold losP
  rw [kno_err, if_pos rfl]
  have a1 : exF 1 3 = (0, 1, 3) := exF_num (by decide) (by decide) (by decide) (by decide) (by decide) (by decide)
  have a2 : exF 5 2 = (0, 5, 2) := exF_num (by decide) (by decide) (by decide) (by decide) (by decide) (by decide)
  have a3 : exF 7 4 = (0, 7, 4) := exF_num (by decide) (by decide) (by decide) (by decide) (by decide) (by decide)
  have b2 : exF 17 6 = (0, 17, 6) := exF_num (by decide) (by decide) (by decide) (by decide) (by decide) (by decide)
  have b3 : exF 110 24 = (0, 55, 12) := exF_num (by decide) (by decide) (by decide) (by decide) (by decide) (by decide)
  simp [losV, costA, knoL, itA, valN_ofN, a1, a2, a3, b2, b3]
end Go.Proofs.Ytjapnklocibgaaa.Sx
namespace Go.Proofs.Ytjapnklocibgaaa.Sx
open Go Go.RowKit
set_option linter.unusedVariables false
set_option linter.unusedSimpArgs false
set_option maxRecDepth 100000
set_option maxHeartbeats 8000000
attribute [local congr] fin_congr finG_congr stepG_congr step1_congr runOps_congr brv_congr obl_congr condK_congr LoopK_congr seqK_congr CutK_congr vc_congr DrawK_congr regK_congr CallK_congr AskK_congr newK_congr retC_congr ret1_congr retK_congr outV_congr closeK_congr genR_congr appR_congr finD_congr finGD_congr stepGD_congr stepD_congr CallK0_congr runD_congr okR_congr CallS_congr vcX_congr
attribute [local congr] Stop_congr
section
variable {M : Mem} {K : AV → Hp → Mem → Prop}
theorem kno_ok {M : Mem} {w1 w2 w3 w4 w5 w6 : Value} (h1 : IsL M u32V w1 (ofN 1)) (h2 : IsL M u32V w2 (ofN 2)) (h3 : IsL M u32V w3 (ofN 1)) (h4 : IsL M u32V w4 (ofN 3)) (h5 : IsL M u32V w5 (ofN 1)) (h6 : IsL M u32V w6 (ofN 4)) : okIL M (knoL w1 w2 w3 w4 w5 w6) := fun x hx => by
  unfold knoL at hx
  simp only [List.mem_cons, List.not_mem_nil, or_false] at hx
  rcases hx with rfl | rfl | rfl
  · exact (itOK_of [112] [97] 4 h1 h2 (by decide) (by decide) (by decide) (by decide) (by decide) (by decide)).ok
  · exact (itOK_of [112] [98] 1 h3 h4 (by decide) (by decide) (by decide) (by decide) (by decide) (by decide)).ok
  · exact (itOK_of [112] [99] 2 h5 h6 (by decide) (by decide) (by decide) (by decide) (by decide) (by decide)).ok
theorem same102_ok (k : Nat) (T : TypeId) {v : Value} (hv : IsL M intV64 v [1, 0, 2]) (hK : K (.ext (.bool true)) [(k, T, [.ext (.int .i64 1), .ext (.int .i64 0), .ext (.int .i64 2)])] M) : CallS Try.prog 23 [.ext v, .slo k 0 3 1] [(k, T, [.ext (.int .i64 1), .ext (.int .i64 0), .ext (.int .i64 2)])] M [] K :=
  same_bor (H := [(k, T, [.ext (.int .i64 1), .ext (.int .i64 0), .ext (.int .i64 2)])]) (l1 := [1, 0, 2]) (l2 := [1, 0, 2]) (T := T) ⟨⟨[.int .i64 1, .int .i64 0, .int .i64 2], rfl⟩, trivial⟩ (by simp [lkH, cE, intV64]) rfl hv (by show 3 < 1000000000; decide) (by show 3 < 1000000000; decide) (by rw [decide_eq_true rfl]; exact hK)
theorem known29_ok (hK : ∀ M', Mem.le M M' → K (.ext (.bool true)) [] M') : CallS Try.prog 15 [] [] M [] K := by
  refine inlS (cs := []) Try.mixed Try.func15 rfl (by kernel_rfl) 0 rfl rfl ?_
  simp only [Try.f15]
  refine Go1.mk ?_; repeat' ((first | (with_reducible refine Go1.go ?_) | (((with_reducible refine isCall (f := 19) ?_); refine callA_nil (by kernel_rfl) ?_; refine (item_ok [97] 1 2 4 (by decide) (by decide) (by decide) (fun w1 w2 M1 a1 a2 a3 _ _ => Stop.mk ?_)))) | (refine And.intro ?_ ?_; (try simp only [sxO] at *); omega) | fail) <;> (try simp (maxSteps := 1000000) only [bs_mk, bs_app, bs_ext, bs_size, bs_toList, bs_at, bs_cells, List.take_length, imp_ga, guard_pk, guard_pk2, ↓hold_pre, awayP, runOps, regK, step1, newK, genR, appR, obl, buildR, Value.cells, closeK, keepH, outV, retK, ret1, retC, RetV, Option.getD, runD, stepD, afterK, undef, simprocAttr, sxB, ↓sxD, sxE, sxTab]))
  have a1 : Mem.le M M1 := a1
  have a2 : IsL M1 u32V w1 (ofN 1) := a2
  have a3 : IsL M1 u32V w2 (ofN 2) := a3
  refine Stop.go ?_
  refine Go1.mk ?_; repeat' ((first | (with_reducible refine Go1.go ?_) | (((with_reducible refine isCall (f := 19) ?_); refine callA_nil (by kernel_rfl) ?_; refine (item_ok [98] 1 3 1 (by decide) (by decide) (by decide) (fun w3 w4 M2 b1 b2 b3 _ _ => Stop.mk ?_)))) | (refine And.intro ?_ ?_; (try simp only [sxO] at *); omega) | fail) <;> (try simp (maxSteps := 1000000) only [a2.one, a3.one, bs_mk, bs_app, bs_ext, bs_size, bs_toList, bs_at, bs_cells, List.take_length, imp_ga, guard_pk, guard_pk2, ↓hold_pre, awayP, runOps, regK, step1, newK, genR, appR, obl, buildR, Value.cells, closeK, keepH, outV, retK, ret1, retC, RetV, Option.getD, runD, stepD, afterK, undef, simprocAttr, sxB, ↓sxD, sxE, sxTab]))
  have b1 : Mem.le M1 M2 := b1
  have b2 : IsL M2 u32V w3 (ofN 1) := b2
  have b3 : IsL M2 u32V w4 (ofN 3) := b3
  refine Stop.go ?_
  refine Go1.mk ?_; repeat' ((first | (with_reducible refine Go1.go ?_) | (((with_reducible refine isCall (f := 19) ?_); refine callA_nil (by kernel_rfl) ?_; refine (item_ok [99] 1 4 2 (by decide) (by decide) (by decide) (fun w5 w6 M3 c1 c2 c3 _ _ => Stop.mk ?_)))) | (refine And.intro ?_ ?_; (try simp only [sxO] at *); omega) | fail) <;> (try simp (maxSteps := 1000000) only [a2.one, a3.one, b2.one, b3.one, bs_mk, bs_app, bs_ext, bs_size, bs_toList, bs_at, bs_cells, List.take_length, imp_ga, guard_pk, guard_pk2, ↓hold_pre, awayP, runOps, regK, step1, newK, genR, appR, obl, buildR, Value.cells, closeK, keepH, outV, retK, ret1, retC, RetV, Option.getD, runD, stepD, afterK, undef, simprocAttr, sxB, ↓sxD, sxE, sxTab]))
  have c1 : Mem.le M2 M3 := c1
  have c2 : IsL M3 u32V w5 (ofN 1) := c2
  have c3 : IsL M3 u32V w6 (ofN 4) := c3
  have hok := kno_ok ((a2.le b1).le c1) ((a3.le b1).le c1) (b2.le c1) (b3.le c1) c2 c3
  refine Stop.go ?_
  refine Go1.mk ?_; repeat' ((first | (with_reducible refine Go1.go ?_) | ((with_reducible refine isCall (f := 11) ?_); refine callA ?_) | ((with_reducible refine isCallS (f := 11) ?_); refine (oorder_bor 9 3 _ (L := knoL w1 w2 w3 w4 w5 w6) rfl hok (by show 3 < 1000000; decide) (fun v Z M4 d1 d2 d3 => Stop.mk ?_))) | (refine And.intro ?_ ?_; (try simp only [sxO] at *); omega) | fail) <;> (try simp (maxSteps := 1000000) only [a2.one, a3.one, b2.one, b3.one, c2.one, c3.one, bs_mk, bs_app, bs_ext, bs_size, bs_toList, bs_at, bs_cells, List.take_length, imp_ga, guard_pk, guard_pk2, ↓hold_pre, awayP, runOps, regK, step1, newK, genR, appR, obl, buildR, Value.cells, closeK, keepH, outV, retK, ret1, retC, RetV, Option.getD, runD, stepD, afterK, undef, simprocAttr, sxB, ↓sxD, sxE, sxTab]))
  have d1 : Mem.le M3 M4 := d1
  obtain rfl := kno_ord d2
  have hE : ordE (knoL w1 w2 w3 w4 w5 w6) = 0 := by unfold ordE; rw [kno_chk, if_pos rfl]
  have d4 := d3.nat
  have d5 : IsL M4 intV64 v [1, 0, 2] := d4
  have hok2 := hok.le d1
  have hkm := irC_ment (knoL w1 w2 w3 w4 w5 w6)
  have hkk := fun k => irC_kill k (knoL w1 w2 w3 w4 w5 w6)
  have hEe := kno_err w1 w2 w3 w4 w5 w6
  have hM4 := ((a1.trans b1).trans c1).trans d1
  refine Stop.go ?_
  refine Go1.mk ?_; repeat' ((first | (with_reducible refine Go1.go ?_) | ((with_reducible refine isCall (f := 12) ?_); refine callA ?_) | ((with_reducible refine isCallS (f := 12) ?_); refine (oloss_bor 9 3 _ (L := knoL w1 w2 w3 w4 w5 w6) (o := [1, 0, 2]) rfl hok2 (by show 3 < 1000000; decide) d5 (by show 3 < 1000000; decide) (fun v1 v2 M5 e1 e2 e3 => Stop.mk ?_))) | (refine And.intro ?_ ?_; (try simp only [sxO] at *); omega) | fail) <;> (try simp (maxSteps := 1000000) only [hE, d5.one, irC_ment, irC_kill, hasK_nil, bs_mk, bs_app, bs_ext, bs_size, bs_toList, bs_at, bs_cells, List.take_length, imp_ga, guard_pk, guard_pk2, ↓hold_pre, awayP, runOps, regK, step1, newK, genR, appR, obl, buildR, Value.cells, closeK, keepH, outV, retK, ret1, retC, RetV, Option.getD, runD, stepD, afterK, undef, simprocAttr, sxB, ↓sxD, sxE, sxTab]))
  have e1 : Mem.le M4 M5 := e1
  rw [kno_los] at e2 e3
  have d6 := d5.le e1
  refine Stop.go ?_
  refine Go1.mk ?_; repeat' ((first | (with_reducible refine Go1.go ?_) | ((with_reducible refine isCall0 (f := 23) ?_); refine callA0 ?_) | ((with_reducible refine isCallS (f := 23) ?_); refine (same102_ok 29 _ d6 ?_)) | (((with_reducible refine isCall0 (f := 22) ?_); refine callA0_nil (by kernel_rfl) ?_; refine (sml_ok 55 12 (by decide) (by decide) (by decide) (fun w7 w8 M6 f1 f2 f3 _ _ => Stop.mk ?_)))) | ((with_reducible refine isDraw [some 21, some 22, some 23, some 24, some 25, some 26, some 27, some 28, some 29, some 30, some 31, some 32, some 33, some 34, some 35, some 36, some 0] (by decide) ?_); refine draw_rule [(0, []), (1, []), (2, []), (3, []), (4, []), (5, []), (6, []), (7, []), (8, []), (9, []), (10, []), (11, []), (12, []), (13, [12]), (14, []), (15, []), (16, [])] [[], [0], [0, 1], [0, 1, 2], [0, 1, 2, 3], [0, 1, 2, 3, 4], [0, 1, 2, 3, 4, 5], [0, 1, 2, 3, 4, 5, 6], [0, 1, 2, 3, 4, 5, 6], [0, 1, 2, 3, 4, 5, 6, 7, 8], [0, 1, 2, 3, 4, 5, 6, 7, 8, 9], [0, 1, 2, 3, 4, 5, 6, 7, 8, 9, 10], [0, 1, 2, 3, 4, 5, 6, 7, 8, 9, 10, 11], [0, 1, 2, 3, 4, 5, 6, 7, 8, 9, 10, 11], [0, 1, 2, 3, 4, 5, 6, 7, 8, 9, 10, 11, 12, 13], [0, 1, 2, 3, 4, 5, 6, 7, 8, 9, 10, 11, 12, 13, 14], [0, 1, 2, 3, 4, 5, 6, 7, 8, 9, 10, 11, 12, 13, 14, 15]] [28, 29, 33, 34] [] (by kernel_rfl) (by kernel_rfl) (by kernel_rfl) (by kernel_rfl) (by exact trivial) ?_) | (refine And.intro ?_ ?_; (try simp only [sxO] at *); omega) | fail) <;> (try simp (maxSteps := 1000000) only [hE, hEe, d6.one, e2.one, e3.one, irC_ment, irC_kill, hasK_nil, bs_mk, bs_app, bs_ext, bs_size, bs_toList, bs_at, bs_cells, List.take_length, imp_ga, guard_pk, guard_pk2, ↓hold_pre, awayP, runOps, regK, step1, newK, genR, appR, obl, buildR, Value.cells, closeK, keepH, outV, retK, ret1, retC, RetV, Option.getD, runD, stepD, afterK, undef, simprocAttr, sxB, ↓sxD, sxE, sxTab]))
  have f1 : Mem.le M5 M6 := f1
  have f2 : IsL M6 u32V w7 (ofN 55) := f2
  have f3 : IsL M6 u32V w8 (ofN 12) := f3
  have hk := hK M6 ((hM4.trans e1).trans f1)
  have e2 := e2.le f1
  have e3 := e3.le f1
  have l55 : (ofN 55).length < 1000000000 := by rw [ofN_u32 (by decide) (by decide)]; decide
  have l12 : (ofN 12).length < 1000000000 := by rw [ofN_u32 (by decide) (by decide)]; decide
  refine Stop.go ?_
  refine Go1.mk ?_; repeat' ((first | (with_reducible refine Go1.go ?_) | (((with_reducible refine isCall0 (f := 33) ?_); refine callA0_nil (by kernel_rfl) ?_; refine (sameFrac_ok e2 e3 f2 f3 l55 l12 ?_))) | ((with_reducible refine isDraw [some 21, some 22, some 23, some 24, some 25, some 26, some 27, some 28, some 29, some 30, some 31, some 32, some 33, some 34, some 35, some 36, some 0] (by decide) ?_); refine draw_rule [(0, []), (1, []), (2, []), (3, []), (4, []), (5, []), (6, []), (7, []), (8, []), (9, []), (10, []), (11, []), (12, []), (13, [12]), (14, []), (15, []), (16, [])] [[], [0], [0, 1], [0, 1, 2], [0, 1, 2, 3], [0, 1, 2, 3, 4], [0, 1, 2, 3, 4, 5], [0, 1, 2, 3, 4, 5, 6], [0, 1, 2, 3, 4, 5, 6], [0, 1, 2, 3, 4, 5, 6, 7, 8], [0, 1, 2, 3, 4, 5, 6, 7, 8, 9], [0, 1, 2, 3, 4, 5, 6, 7, 8, 9, 10], [0, 1, 2, 3, 4, 5, 6, 7, 8, 9, 10, 11], [0, 1, 2, 3, 4, 5, 6, 7, 8, 9, 10, 11], [0, 1, 2, 3, 4, 5, 6, 7, 8, 9, 10, 11, 12, 13], [0, 1, 2, 3, 4, 5, 6, 7, 8, 9, 10, 11, 12, 13, 14], [0, 1, 2, 3, 4, 5, 6, 7, 8, 9, 10, 11, 12, 13, 14, 15]] [28, 29, 33, 34] [] (by kernel_rfl) (by kernel_rfl) (by kernel_rfl) (by kernel_rfl) (by exact trivial) ?_) | (refine And.intro ?_ ?_; (try simp only [sxO] at *); omega) | fail) <;> (try simp (maxSteps := 1000000) only [e2.one, e3.one, f2.one, f3.one, irC_ment, irC_kill, hasK_nil, bs_mk, bs_app, bs_ext, bs_size, bs_toList, bs_at, bs_cells, List.take_length, imp_ga, guard_pk, guard_pk2, ↓hold_pre, awayP, runOps, regK, step1, newK, genR, appR, obl, buildR, Value.cells, closeK, keepH, outV, retK, ret1, retC, RetV, Option.getD, runD, stepD, afterK, undef, simprocAttr, sxB, ↓sxD, sxE, sxTab]))
  exact hk
end
end Go.Proofs.Ytjapnklocibgaaa.Sx
namespace Go.Proofs.Ytjapnklocibgaaa.Sx
open Go Go.RowKit
set_option linter.unusedVariables false
set_option linter.unusedSimpArgs false
set_option maxRecDepth 100000
set_option maxHeartbeats 8000000
attribute [local congr] fin_congr finG_congr stepG_congr step1_congr runOps_congr brv_congr obl_congr condK_congr LoopK_congr seqK_congr CutK_congr vc_congr DrawK_congr regK_congr CallK_congr AskK_congr newK_congr retC_congr ret1_congr retK_congr outV_congr closeK_congr genR_congr appR_congr finD_congr finGD_congr stepGD_congr stepD_congr CallK0_congr runD_congr okR_congr CallS_congr vcX_congr
attribute [local congr] Stop_congr
section
variable {M : Mem} {K : AV → Hp → Mem → Prop}
end
end Go.Proofs.Ytjapnklocibgaaa.Sx
namespace Go.Proofs.Ytjapnklocibgaaa.Sx
open Go Go.RowKit
set_option linter.unusedVariables false
set_option linter.unusedSimpArgs false
set_option maxRecDepth 100000
set_option maxHeartbeats 8000000
attribute [local congr] fin_congr finG_congr stepG_congr step1_congr runOps_congr brv_congr obl_congr condK_congr LoopK_congr seqK_congr CutK_congr vc_congr DrawK_congr regK_congr CallK_congr AskK_congr newK_congr retC_congr ret1_congr retK_congr outV_congr closeK_congr genR_congr appR_congr finD_congr finGD_congr stepGD_congr stepD_congr CallK0_congr runD_congr okR_congr CallS_congr vcX_congr
attribute [local congr] Stop_congr
section
variable {M : Mem} {K : AV → Hp → Mem → Prop}
end
end Go.Proofs.Ytjapnklocibgaaa.Sx
namespace Go.Proofs.Ytjapnklocibgaaa.Sx
open Go Go.RowKit
set_option linter.unusedVariables false
set_option linter.unusedSimpArgs false
set_option maxRecDepth 100000
set_option maxHeartbeats 8000000
attribute [local congr] fin_congr finG_congr stepG_congr step1_congr runOps_congr brv_congr obl_congr condK_congr LoopK_congr seqK_congr CutK_congr vc_congr DrawK_congr regK_congr CallK_congr AskK_congr newK_congr retC_congr ret1_congr retK_congr outV_congr closeK_congr genR_congr appR_congr finD_congr finGD_congr stepGD_congr stepD_congr CallK0_congr runD_congr okR_congr CallS_congr vcX_congr
attribute [local congr] Stop_congr
section
variable {M : Mem} {K : AV → Hp → Mem → Prop} {u : Value} {L : List IR}
end
end Go.Proofs.Ytjapnklocibgaaa.Sx
namespace Go.Proofs.Ytjapnklocibgaaa.Sx
open Go
set_option maxRecDepth 100000
set_option linter.unusedVariables false
structure Scaled (f g : Nat) (x y : IR) : Prop where
  pk : y.pk = x.pk
  ts : y.ts = x.ts
  cost : y.cost = x.cost
  val : valN y.l1 * (valN x.l2 * g) = valN x.l1 * f * valN y.l2
  pos : 0 < valN y.l2
theorem ratC_scaled {f g : Nat} {L R : List IR} (hf : 0 < f) (hg : 0 < g) (hl : R.length = L.length) (hc : ∀ x ∈ L, chkI x = true) (hS : ∀ i (h : i < L.length), Scaled f g L[i] (R[i]'(by omega))) {x y : Nat} (hx : x < L.length) (hy : y < L.length) : ratC R x y = ratC L x y := by
  unfold ratC
  rw [itA_in (show x < R.length by omega), itA_in (show y < R.length by omega), itA_in hx, itA_in hy]
  have sx := hS x hx
  have sy := hS y hy
  rw [sx.pk, sx.ts, sx.cost, sy.pk, sy.ts, sy.cost]
  congr 1
  have px := chkF_pos (chkI_parts (hc _ (List.getElem_mem hx))).1
  have py := chkF_pos (chkI_parts (hc _ (List.getElem_mem hy))).1
  have vx := sx.val
  have vy := sy.val
  have qx := sx.pos
  have qy := sy.pos
  generalize (L[x]).cost.toNat = cx at *
  generalize (L[y]).cost.toNat = cy at *
  generalize valN (L[x]).l1 = nx at *
  generalize valN (L[y]).l1 = ny at *
  generalize valN (L[x]).l2 = dx at *
  generalize valN (L[y]).l2 = dy at *
  generalize valN (R[x]'(by omega)).l1 = mx at *
  generalize valN (R[y]'(by omega)).l1 = my at *
  generalize valN (R[x]'(by omega)).l2 = ex at *
  generalize valN (R[y]'(by omega)).l2 = ey at *
  rw [← cmpN_mul (a := my * (cx * ex)) (k := (dy * g) * (dx * g)) (Nat.mul_pos (Nat.mul_pos py hg) (Nat.mul_pos px hg)), ← cmpN_mul (a := ny * (cx * dx)) (k := f * g * (ex * ey)) (Nat.mul_pos (Nat.mul_pos hf hg) (Nat.mul_pos qx qy))]
  have a1 : my * (cx * ex) * ((dy * g) * (dx * g)) = ny * (cx * dx) * (f * g * (ex * ey)) := by
    calc my * (cx * ex) * ((dy * g) * (dx * g)) = (my * (dy * g)) * (cx * ex * (dx * g)) := by ac_rfl
      _ = (ny * f * ey) * (cx * ex * (dx * g)) := by rw [vy]
      _ = _ := by ac_rfl
  have a2 : mx * (cy * ey) * ((dy * g) * (dx * g)) = nx * (cy * dy) * (f * g * (ex * ey)) := by
    calc mx * (cy * ey) * ((dy * g) * (dx * g)) = (mx * (dx * g)) * (cy * ey * (dy * g)) := by ac_rfl
      _ = (nx * f * ex) * (cy * ey * (dy * g)) := by rw [vx]
      _ = _ := by ac_rfl
  rw [a1, a2]
theorem ordS_same {L R : List IR} {Z W : List Nat} (hl : R.length = L.length) (cL : chkIL L = true) (cR : chkIL R = true) (hr : ∀ x y, x < L.length → y < L.length → ratC R x y = ratC L x y) (h : ordS L Z) (h2 : ordS R W) : Z = W := by
  unfold ordS at h2
  rw [if_pos cR, hl] at h2
  refine ordS_one cL h h2.1 (h2.2.imp_of_mem fun {x y} hx hy hxy => ?_)
  have hx := List.mem_range.1 (h2.1.subset hx)
  have hy := List.mem_range.1 (h2.1.subset hy)
  unfold ltS at hxy ⊢
  rw [← hr x y hx hy]; exact hxy
theorem itA_rev {L : List IR} {x : Nat} (h : x < L.length) : itA L.reverse x = itA L (L.length - 1 - x) := by
  rw [itA_in (by rw [List.length_reverse]; exact h), itA_in (by omega), List.getElem_reverse]
theorem ordS_rev {L : List IR} {Z W : List Nat} (cL : chkIL L = true) (cR : chkIL L.reverse = true) (hne : ∀ x y, x < L.length → y < L.length → (itA L x).ts = (itA L y).ts → x = y) (h : ordS L Z) (h2 : ordS L.reverse W) : W = Z.map fun x => L.length - 1 - x := by
  have h1 := h
  unfold ordS at h1
  rw [if_pos cL] at h1
  have hz : ∀ x ∈ Z, x < L.length := fun x hx => List.mem_range.1 (h1.1.subset hx)
  refine ordS_one cR h2 ?_ ?_
  · rw [List.length_reverse]
    refine (h1.1.map _).trans ?_
    have e : (List.range L.length).map (fun x => L.length - 1 - x) = (List.range L.length).reverse := by
      refine List.ext_getElem (by simp) fun i h1 h2 => ?_
      simp
    rw [e]; exact List.reverse_perm _
  · rw [List.pairwise_map]
    refine h1.2.imp_of_mem fun {x y} hx hy hxy => ?_
    have hx := hz x hx
    have hy := hz y hy
    have e : ratC L.reverse (L.length - 1 - x) (L.length - 1 - y) = ratC L x y := by
      unfold ratC
      rw [itA_rev (by omega), itA_rev (by omega), show L.length - 1 - (L.length - 1 - x) = x by omega, show L.length - 1 - (L.length - 1 - y) = y by omega]
    rcases hxy with h3 | ⟨h3, h4⟩
    · exact .inl (by rw [e]; exact h3)
    · exfalso
      have : (itA L x).ts = (itA L y).ts := by
        unfold ratC or3 at h3
        split at h3
        · split at h3
          · exact (cmp_S.zero _ _).1 h3
          · omega
        · omega
      have := hne x y hx hy this
      omega
end Go.Proofs.Ytjapnklocibgaaa.Sx
namespace Go.Proofs.Ytjapnklocibgaaa.Sx
open Go Go.RowKit
set_option linter.unusedVariables false
set_option linter.unusedSimpArgs false
set_option maxRecDepth 100000
set_option maxHeartbeats 8000000
attribute [local congr] fin_congr finG_congr stepG_congr step1_congr runOps_congr brv_congr obl_congr condK_congr LoopK_congr seqK_congr CutK_congr vc_congr DrawK_congr regK_congr CallK_congr AskK_congr newK_congr retC_congr ret1_congr retK_congr outV_congr closeK_congr genR_congr appR_congr finD_congr finGD_congr stepGD_congr stepD_congr CallK0_congr runD_congr okR_congr CallS_congr vcX_congr
attribute [local congr] Stop_congr
section
variable {M : Mem} {K : AV → Hp → Mem → Prop} {u v : Value} {L : List IR} {o : List Int}
end
end Go.Proofs.Ytjapnklocibgaaa.Sx
namespace Go.Proofs.Ytjapnklocibgaaa.Sx
open Go
set_option maxRecDepth 100000
set_option linter.unusedVariables false
def toI (Z : List Nat) : List Int := Z.map fun (x : Nat) => (x : Int)
end Go.Proofs.Ytjapnklocibgaaa.Sx
namespace Go.Proofs.Ytjapnklocibgaaa.Sx
open Go Go.RowKit
set_option linter.unusedVariables false
set_option linter.unusedSimpArgs false
set_option maxRecDepth 100000
set_option maxHeartbeats 8000000
attribute [local congr] fin_congr finG_congr stepG_congr step1_congr runOps_congr brv_congr obl_congr condK_congr LoopK_congr seqK_congr CutK_congr vc_congr DrawK_congr regK_congr CallK_congr AskK_congr newK_congr retC_congr ret1_congr retK_congr outV_congr closeK_congr genR_congr appR_congr finD_congr finGD_congr stepGD_congr stepD_congr CallK0_congr runD_congr okR_congr CallS_congr vcX_congr
attribute [local congr] Stop_congr
theorem chkIL_of {M : Mem} {L : List IR} (h : ∀ x ∈ L, ItOK M x) (hl : L.length ≤ 64) : chkIL L = true := by
  unfold chkIL
  rw [Bool.and_eq_true, decide_eq_true_eq, List.all_eq_true]
  exact ⟨hl, fun x hx => (h x hx).chk⟩
theorem ordE_of {L : List IR} (h : chkIL L = true) : ordE L = 0 := by unfold ordE; rw [if_pos h]
theorem toI_len (Z : List Nat) : (toI Z).length = Z.length := by unfold toI; rw [List.length_map]
theorem ordS_len {L : List IR} {Z : List Nat} (hc : chkIL L = true) (h : ordS L Z) : Z.length = L.length := by
  unfold ordS at h
  rw [if_pos hc] at h
  rw [h.1.length_eq, List.length_range]
section
variable {M : Mem} {K : AV → Hp → Mem → Prop}
end
end Go.Proofs.Ytjapnklocibgaaa.Sx
