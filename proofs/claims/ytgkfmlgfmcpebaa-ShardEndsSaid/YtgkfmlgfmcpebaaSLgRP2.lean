/- Part 25 of the texts of this claim: a symbolic executor and contracts of functions. -/
import Derived.Test.YtgkfmlgfmcpebaaSLgRP1
import Derived.Test.YtgkfmlgfmcpebaaSLgRCBor
import Derived.Test.YtgkfmlgfmcpebaaSLgRCMak
import Derived.Test.YtgkfmlgfmcpebaaSLgRCPar
namespace Go.Proofs.Ytgkfmlgfmcpebaa.Sx
open Go Go.RowKit
set_option linter.unusedVariables false
set_option linter.unusedSimpArgs false
set_option maxRecDepth 100000
set_option maxHeartbeats 8000000
attribute [local congr] fin_congr finG_congr stepG_congr step1_congr runOps_congr brv_congr obl_congr condK_congr LoopK_congr seqK_congr CutK_congr vc_congr DrawK_congr regK_congr CallK_congr AskK_congr newK_congr retC_congr ret1_congr retK_congr outV_congr closeK_congr genR_congr appR_congr finD_congr finGD_congr stepGD_congr stepD_congr CallK0_congr runD_congr okR_congr CallS_congr vcX_congr
attribute [local congr] Stop_congr
theorem CmpK.le {M M' : Mem} {ul : Value} {c : Nat → Nat → Int} {NN : Nat} (h : CmpK M ul c NN) (hm : Mem.le M M') : CmpK M' ul c NN := fun x y M1 K a b d e => h x y M1 K a b (hm.trans d) e
def MrgK (M : Mem) (ul : Value) (c : Nat → Nat → Int) (NN N nn : Nat) : Prop := ∀ (A X Y B D : List Nat) (a m b : Nat) (M1 : Mem) (K : AV → Hp → Mem → Prop), Mem.le M M1 → X.length + Y.length ≤ nn → D = A ++ X ++ Y ++ B → a = A.length → m = A.length + X.length → b = A.length + X.length + Y.length → 0 < X.length → 0 < Y.length → X.Pairwise (ltS c) → Y.Pairwise (ltS c) → (∀ x ∈ X, ∀ y ∈ Y, x < y) → (∀ x ∈ X ++ Y, x < NN) → D.length = N →
    (∀ Z M', Mem.le M1 M' → Z.Perm (X ++ Y) → Z.Pairwise (ltS c) → K (.ext (.tuple #[])) [(113, 3, cE natV (A ++ Z ++ B)), (101, 23, [.ext ul])] M') → CallS Try.prog 61 [.slo 113 0 N 1, .ext (.int .i64 (a : Int)), .ext (.int .i64 (m : Int)), .ext (.int .i64 (b : Int)), .fn 53 [.own 101 0]] [(113, 3, cE natV (D)), (101, 23, [.ext ul])] M1 [] K
section
variable {M : Mem} {K : AV → Hp → Mem → Prop} (ul : Value) {c : Nat → Nat → Int}
def so_gaSt (M : Mem) (ul : Value) (N : Nat) (D : List Nat) (a m b h n lo hi : Nat) : St := { env := [(18, .ext (.int .i64 (h : Int))), (19, .ext (.int .i64 (n : Int))), (20, .ext (.int .i64 (lo : Int))), (21, .ext (.int .i64 (hi : Int))), (4, .fn 53 [.own 101 0]), (3, .ext (.int .i64 (b : Int))), (2, .ext (.int .i64 (m : Int))), (1, .ext (.int .i64 (a : Int))), (0, .slo 113 0 N 1)], hp := [(113, 3, cE natV (D)), (101, 23, [.ext ul])], M := M, kb := 200, fx := [113, 101] }
def so_gbSt (M : Mem) (ul : Value) (N : Nat) (D : List Nat) (a m b h n lo hi p : Nat) : St := { env := [(22, .ext (.int .i64 (p : Int))), (18, .ext (.int .i64 (h : Int))), (19, .ext (.int .i64 (n : Int))), (20, .ext (.int .i64 (lo : Int))), (21, .ext (.int .i64 (hi : Int))), (4, .fn 53 [.own 101 0]), (3, .ext (.int .i64 (b : Int))), (2, .ext (.int .i64 (m : Int))), (1, .ext (.int .i64 (a : Int))), (0, .slo 113 0 N 1)], hp := [(113, 3, cE natV (D)), (101, 23, [.ext ul])], M := M, kb := 200, fx := [113, 101] }
def so_gcSt (M : Mem) (ul : Value) (N : Nat) (D : List Nat) (a b h s e : Nat) : St := { env := [(18, .ext (.int .i64 (h : Int))), (24, .ext (.int .i64 (e : Int))), (20, .ext (.int .i64 (s : Int))), (4, .fn 53 [.own 101 0]), (3, .ext (.int .i64 (b : Int))), (1, .ext (.int .i64 (a : Int))), (0, .slo 113 0 N 1)], hp := [(113, 3, cE natV (D)), (101, 23, [.ext ul])], M := M, kb := 200, fx := [113, 101] }
def so_gdSt (M : Mem) (ul : Value) (N : Nat) (D : List Nat) (b h e : Nat) : St := { env := [(18, .ext (.int .i64 (h : Int))), (24, .ext (.int .i64 (e : Int))), (4, .fn 53 [.own 101 0]), (3, .ext (.int .i64 (b : Int))), (0, .slo 113 0 N 1)], hp := [(113, 3, cE natV (D)), (101, 23, [.ext ul])], M := M, kb := 200, fx := [113, 101] }
theorem mrgG_ok (ho : CmpO c) (NN N nn : Nat) (ih : MrgK M ul c NN N nn) (hc : CmpK M ul c NN) (A X Y B D : List Nat) (a m b : Nat) (hD : D = A ++ X ++ Y ++ B) (ha : a = A.length) (hm : m = A.length + X.length) (hb : b = A.length + X.length + Y.length) (hX : 1 < X.length) (hY : 1 < Y.length) (hnn : X.length + Y.length ≤ nn + 1) (hx : X.Pairwise (ltS c)) (hy : Y.Pairwise (ltS c)) (hxy : ∀ x ∈ X, ∀ y ∈ Y, x < y) (hNN : ∀ x ∈ X ++ Y, x < NN) (hN : D.length = N) (hN2 : N < 1000000)
    (hK : ∀ Z M', Mem.le M M' → Z.Perm (X ++ Y) → Z.Pairwise (ltS c) → K (.ext (.tuple #[])) [(113, 3, cE natV (A ++ Z ++ B)), (101, 23, [.ext ul])] M') :
    CallS Try.prog 61 [.slo 113 0 N 1, .ext (.int .i64 (a : Int)), .ext (.int .i64 (m : Int)), .ext (.int .i64 (b : Int)), .fn 53 [.own 101 0]] [(113, 3, cE natV (D)), (101, 23, [.ext ul])] M [] K := by
  refine inlS (cs := [32,41,43]) Try.mixed Try.func61 rfl (by kernel_rfl) 200 rfl rfl ?_
  simp only [Try.f61]
  have hL := congrArg List.length hD
  simp only [List.length_append] at hL
  have w0 : IntKind.i64.wrap ((m : Int) - (a : Int)) = (X.length : Int) := by rw [wrap_id (by omega) (by omega)]; omega
  have w1 : IntKind.i64.wrap ((b : Int) - (m : Int)) = (Y.length : Int) := by rw [wrap_id (by omega) (by omega)]; omega
  have d0 : decide ((X.length : Int) = 1) = false := by rw [decide_eq_false_iff_not]; omega
  have d1 : decide ((Y.length : Int) = 1) = false := by rw [decide_eq_false_iff_not]; omega
  have w2 : IntKind.i64.wrap ((a : Int) + (b : Int)) = ((a + b : Nat) : Int) := by rw [wrap_id (by omega) (by omega)]; omega
  have w3 : IntKind.u64.wrap ((a + b : Nat) : Int) = ((a + b : Nat) : Int) := wrap64_id (by omega)
  have w4 := sh_one (a + b)
  have h1 := Nat.div_add_mod (a + b) 2
  have h2 := Nat.mod_lt (a + b) (show 0 < 2 by decide)
  obtain ⟨h, hh⟩ : ∃ h, h = (a + b) / 2 := ⟨_, rfl⟩
  rw [← hh] at w4 h1
  have w5 : IntKind.i64.wrap (h : Int) = (h : Int) := wrap_id (by omega) (by omega)
  have w6 : IntKind.u64.wrap (h : Int) = (h : Int) := wrap64_id (by omega)
  obtain ⟨n, hn⟩ : ∃ n, n = h + m := ⟨_, rfl⟩
  have w7 : IntKind.i64.wrap ((h : Int) + (m : Int)) = (n : Int) := by rw [wrap_id (by omega) (by omega)]; omega
  (try with_reducible refine Fz.of ?_); (replace hb0 := true_and True); refine Go1.mk ?_; repeat' ((first | (with_reducible refine Go1.go ?_) | ((with_reducible first | refine brv_mk ?_ ?_ | refine gsplitD ?_ ?_ | refine gsplitG ?_ ?_) <;> intro h <;> (try simp only [Bool.not_eq_true', Bool.not_eq_false'] at h) <;> replace hb0 := h) | (refine And.intro ?_ ?_; (try simp only [sxO] at *); omega) | fail) <;> (try simp (maxSteps := 1000000) only [hb0, w0, w1, w2, w3, w4, w5, w6, w7, d0, d1, natV, cE_ment, cE_kill, cE_len, hasK_nil, Nat.mul_one, List.length_set, ↓hold_pre, awayP, runOps, regK, step1, newK, genR, appR, obl, buildR, Value.cells, closeK, keepH, outV, retK, ret1, retC, RetV, Option.getD, runD, stepD, afterK, undef, simprocAttr, sxB, ↓sxD, sxE, sxTab]))
  clear w0 w1 w2 w3 w4 d0 d1
  refine ⟨fun z => ∃ lo hi, (lo = a ∨ lo + b = n) ∧ (hi = h ∨ hi = m) ∧ a ≤ lo ∧ n ≤ lo + b ∧ hi ≤ h ∧ hi ≤ m ∧ lo ≤ hi ∧ z = so_gaSt M ul N D a m b h n lo hi, ?_, ?_⟩
  · by_cases hmm : h < m
    · have d2 : decide ((h : Int) < (m : Int)) = true := by rw [decide_eq_true_eq]; omega
      obtain ⟨lo, hlo⟩ : ∃ lo, lo = n - b := ⟨_, rfl⟩
      have w8 : IntKind.i64.wrap ((n : Int) - (b : Int)) = (lo : Int) := by rw [wrap_id (by omega) (by omega)]; omega
      (try with_reducible refine Fz.of ?_); (replace hb0 := true_and True); refine Go1.mk ?_; repeat' ((first | (with_reducible refine Go1.go ?_) | ((with_reducible first | refine brv_mk ?_ ?_ | refine gsplitD ?_ ?_ | refine gsplitG ?_ ?_) <;> intro h <;> (try simp only [Bool.not_eq_true', Bool.not_eq_false'] at h) <;> replace hb0 := h) | (refine And.intro ?_ ?_; (try simp only [sxO] at *); omega) | fail) <;> (try simp (maxSteps := 1000000) only [hb0, d2, w8, natV, cE_ment, cE_kill, cE_len, hasK_nil, Nat.mul_one, List.length_set, ↓hold_pre, awayP, runOps, regK, step1, newK, genR, appR, obl, buildR, Value.cells, closeK, keepH, outV, retK, ret1, retC, RetV, Option.getD, runD, stepD, afterK, undef, simprocAttr, sxB, ↓sxD, sxE, sxTab]))
      exact ⟨so_gaSt M ul N D a m b h n lo h, le_sub ⟨rfl, rfl, rfl, rfl, rfl, rfl, rfl, rfl, rfl, trivial⟩ ⟨by first | rfl | simp [lkH], by first | rfl | simp [lkH], trivial⟩ rfl rfl rfl (by simp [keepLt, so_gaSt, lkH]), lo, h, .inr (by omega), .inl rfl, by omega, by omega, by omega, by omega, by omega, rfl⟩
    · have d2 : decide ((h : Int) < (m : Int)) = false := by rw [decide_eq_false_iff_not]; omega
      (try with_reducible refine Fz.of ?_); (replace hb0 := true_and True); refine Go1.mk ?_; repeat' ((first | (with_reducible refine Go1.go ?_) | ((with_reducible first | refine brv_mk ?_ ?_ | refine gsplitD ?_ ?_ | refine gsplitG ?_ ?_) <;> intro h <;> (try simp only [Bool.not_eq_true', Bool.not_eq_false'] at h) <;> replace hb0 := h) | (refine And.intro ?_ ?_; (try simp only [sxO] at *); omega) | fail) <;> (try simp (maxSteps := 1000000) only [hb0, d2, natV, cE_ment, cE_kill, cE_len, hasK_nil, Nat.mul_one, List.length_set, ↓hold_pre, awayP, runOps, regK, step1, newK, genR, appR, obl, buildR, Value.cells, closeK, keepH, outV, retK, ret1, retC, RetV, Option.getD, runD, stepD, afterK, undef, simprocAttr, sxB, ↓sxD, sxE, sxTab]))
      exact ⟨so_gaSt M ul N D a m b h n a m, le_sub ⟨rfl, rfl, rfl, rfl, rfl, rfl, rfl, rfl, rfl, trivial⟩ ⟨by first | rfl | simp [lkH], by first | rfl | simp [lkH], trivial⟩ rfl rfl rfl (by simp [keepLt, so_gaSt, lkH]), a, m, .inl rfl, .inr rfl, by omega, by omega, by omega, by omega, by omega, rfl⟩
  rintro z ⟨lo, hi, hlo, hhi, q1, q2, q3, q4, q5, rfl⟩
  obtain ⟨p, hp⟩ : ∃ p, p + 1 = n := ⟨n - 1, by omega⟩
  have w8 : IntKind.i64.wrap ((n : Int) - 1) = (p : Int) := by rw [wrap_id (by omega) (by omega)]; omega
  (try with_reducible refine Fz.of ?_); (replace hb0 := true_and True); refine Go1.mk ?_; repeat' ((first | (with_reducible refine Go1.go ?_) | ((with_reducible first | refine brv_mk ?_ ?_ | refine gsplitD ?_ ?_ | refine gsplitG ?_ ?_) <;> intro h <;> (try simp only [Bool.not_eq_true', Bool.not_eq_false'] at h) <;> replace hb0 := h) | (refine And.intro ?_ ?_; (try simp only [sxO] at *); omega) | fail) <;> (try simp (maxSteps := 1000000) only [hb0, so_gaSt, w8, natV, cE_ment, cE_kill, cE_len, hasK_nil, Nat.mul_one, List.length_set, ↓hold_pre, awayP, runOps, regK, step1, newK, genR, appR, obl, buildR, Value.cells, closeK, keepH, outV, retK, ret1, retC, RetV, Option.getD, runD, stepD, afterK, undef, simprocAttr, sxB, ↓sxD, sxE, sxTab]))
  refine ⟨fun d z => ∃ M' i j, d = j - i ∧ Mem.le M M' ∧ lo ≤ i ∧ i ≤ j ∧ j ≤ hi ∧ (i = lo ∨ ¬ c (nt D (n - i)) (nt D (i - 1)) < 0) ∧ (j = hi ∨ c (nt D (p - j)) (nt D j) < 0) ∧ z = so_gbSt M' ul N D a m b h n i j p,
    ⟨hi - lo, so_gbSt M ul N D a m b h n lo hi p, le_sub ⟨rfl, rfl, rfl, rfl, rfl, rfl, rfl, rfl, rfl, rfl, trivial⟩ ⟨by first | rfl | simp [lkH], by first | rfl | simp [lkH], trivial⟩ rfl rfl rfl (by simp [keepLt, so_gbSt, lkH]), ⟨M, lo, hi, rfl, Mem.le.refl _, Nat.le_refl _, q5, Nat.le_refl _, .inl rfl, .inl rfl, rfl⟩⟩, ?_⟩
  clear w8
  rintro d z ⟨M1, i, j, rfl, hM1, hmi, hij, hjb, hI, hJ, rfl⟩
  by_cases hlt : i < j
  · have d1 : decide ((i : Int) < (j : Int)) = true := by rw [decide_eq_true_eq]; omega
    have w2 : IntKind.i64.wrap ((i : Int) + (j : Int)) = ((i + j : Nat) : Int) := by rw [wrap_id (by omega) (by omega)]; omega
    have w3 : IntKind.u64.wrap ((i + j : Nat) : Int) = ((i + j : Nat) : Int) := wrap64_id (by omega)
    have w4 := sh_one (i + j)
    have h3 := Nat.div_add_mod (i + j) 2
    have h4 := Nat.mod_lt (i + j) (show 0 < 2 by decide)
    obtain ⟨g, hg⟩ : ∃ g, g = (i + j) / 2 := ⟨_, rfl⟩
    rw [← hg] at w4 h3
    obtain ⟨q, hq⟩ : ∃ q, q = p - g := ⟨_, rfl⟩
    have w5 : IntKind.i64.wrap (g : Int) = (g : Int) := wrap_id (by omega) (by omega)
    have w6 : IntKind.u64.wrap (g : Int) = (g : Int) := wrap64_id (by omega)
    have w7 : IntKind.i64.wrap ((g : Int) + 1) = ((g + 1 : Nat) : Int) := succ_i (by omega)
    have w8 : IntKind.i64.wrap ((p : Int) - (g : Int)) = (q : Int) := by rw [wrap_id (by omega) (by omega)]; omega
    have j1 : (0 : Int) ≤ (g : Int) := by omega
    have j2 : (g : Int) < (N : Int) := by omega
    have j3 : (0 : Int) ≤ (q : Int) := by omega
    have j4 : (q : Int) < (N : Int) := by omega
    have n1 := nt_at (D := D) (i := g) (by omega)
    have n2 := nt_at (D := D) (i := q) (by omega)
    have hyq : nt D q = nt Y (q - m) := nt_mid (A ++ X) Y B hD (by omega) (by rw [List.length_append]; omega)
    have hxg : nt D g = nt X (g - a) := nt_mid A X (Y ++ B) (by rw [hD]; simp) (by omega) (by omega)
    have b1 : nt D g < NN := hNN _ (by rw [hxg]; exact List.mem_append_left _ (nt_in (by omega)))
    have b2 : nt D q < NN := hNN _ (by rw [hyq]; exact List.mem_append_right _ (nt_in (by omega)))
    (try with_reducible refine Fz.of ?_); (replace hb0 := true_and True); refine Go1.mk ?_; repeat' ((first | (with_reducible refine Go1.go ?_) | ((with_reducible first | refine brv_mk ?_ ?_ | refine gsplitD ?_ ?_ | refine gsplitG ?_ ?_) <;> intro h <;> (try simp only [Bool.not_eq_true', Bool.not_eq_false'] at h) <;> replace hb0 := h) | ((with_reducible refine isCall0 (f := 53) ?_); refine callA0 ?_) | ((with_reducible refine isCallS (f := 53) ?_); refine (hc (nt D q) (nt D g) _ _ b2 b1 hM1 (fun M2 m2 => Stop.mk ?_))) | ((with_reducible refine isDraw [some 40, some 41, some 42, some 43, some 44, some 45, some 46, some 47, some 48, some 49, some 50] (by decide) ?_); refine draw_rule [(0, []), (1, []), (2, []), (3, []), (4, []), (5, [4]), (6, [4]), (7, [4]), (8, [4]), (9, []), (10, [])] [[], [], [], [1, 2], [1, 2, 3], [], [], [5, 6], [5, 6, 7], [0, 1, 2, 3, 4, 5, 6, 7, 8], [0, 1, 2, 3, 4, 5, 6, 7, 8, 9]] [40, 41, 42, 43, 44, 45, 46, 47, 48] [] (by kernel_rfl) (by kernel_rfl) (by kernel_rfl) (by kernel_rfl) (by exact trivial) ?_) | ((with_reducible refine isDraw [some 61, some 62, some 63, some 64, some 65, some 66, some 67, some 68, some 69, some 70, some 71, some 72, some 73, some 74, some 75, none, some 76, none] (by decide) ?_); refine draw_rule [(0, []), (1, []), (2, []), (3, []), (4, []), (5, []), (6, []), (7, []), (8, []), (9, []), (10, [9]), (11, [9]), (12, [9]), (13, [9]), (14, []), (15, []), (16, []), (17, [])] [[], [], [], [], [3], [], [], [6], [5, 6, 7], [5, 6, 7, 8], [], [], [10, 11], [10, 11, 12], [0, 1, 5, 6, 7, 8, 9, 10, 11, 12, 13], [0, 1, 5, 6, 7, 8, 9, 10, 11, 12, 13, 14], [0, 1, 2, 3, 4, 5, 6, 7, 8, 9, 10, 11, 12, 13, 14, 15], [0, 1, 2, 3, 4, 5, 6, 7, 8, 9, 10, 11, 12, 13, 14, 15, 16]] [61, 62, 63, 64, 65, 66, 67, 68, 69, 70, 71, 72, 73, 74, 75] [] (by kernel_rfl) (by kernel_rfl) (by kernel_rfl) (by kernel_rfl) (by exact trivial) ?_) | ((with_reducible refine isDraw [some 92, some 93, some 94, some 95, some 96, some 97, some 98, some 99, some 100, some 101, some 102, some 103] (by decide) ?_); refine draw_rule [(0, []), (1, []), (2, []), (3, []), (4, []), (5, [4]), (6, [4]), (7, [4]), (8, [4]), (9, []), (10, []), (11, [])] [[], [], [], [1, 2], [1, 2, 3], [], [], [5, 6], [5, 6, 7], [0, 1, 2, 3, 4, 5, 6, 7, 8], [0, 1, 2, 3, 4, 5, 6, 7, 8, 9], [0, 1, 2, 3, 4, 5, 6, 7, 8, 9, 10]] [92, 93, 94, 95, 96, 97, 98, 99, 100] [] (by kernel_rfl) (by kernel_rfl) (by kernel_rfl) (by kernel_rfl) (by exact trivial) ?_) | ((with_reducible refine isDraw [some 113, some 114, some 115, some 116, some 117, some 118, some 119, some 120, some 121, some 122, some 123, some 124, some 125, some 126, some 127, none, some 128, none] (by decide) ?_); refine draw_rule [(0, []), (1, []), (2, []), (3, []), (4, []), (5, []), (6, []), (7, []), (8, []), (9, []), (10, [9]), (11, [9]), (12, [9]), (13, [9]), (14, []), (15, []), (16, []), (17, [])] [[], [], [], [], [3], [], [], [6], [5, 6, 7], [5, 6, 7, 8], [], [], [10, 11], [10, 11, 12], [0, 1, 5, 6, 7, 8, 9, 10, 11, 12, 13], [0, 1, 5, 6, 7, 8, 9, 10, 11, 12, 13, 14], [0, 1, 2, 3, 4, 5, 6, 7, 8, 9, 10, 11, 12, 13, 14, 15], [0, 1, 2, 3, 4, 5, 6, 7, 8, 9, 10, 11, 12, 13, 14, 15, 16]] [113, 114, 115, 116, 117, 118, 119, 120, 121, 122, 123, 124, 125, 126, 127] [] (by kernel_rfl) (by kernel_rfl) (by kernel_rfl) (by kernel_rfl) (by exact trivial) ?_) | ((with_reducible refine isDraw [some 158, some 159, some 160, some 161, some 162, some 163, some 164, some 165, some 166, some 167, some 168, some 169, some 170, some 171] (by decide) ?_); refine draw_rule [(0, []), (1, []), (2, []), (3, []), (4, []), (5, []), (6, []), (7, [6]), (8, [6]), (9, [6]), (10, [6]), (11, []), (12, []), (13, [])] [[], [], [], [], [2, 3], [1, 2, 3, 4], [1, 2, 3, 4, 5], [], [], [7, 8], [7, 8, 9], [0, 1, 2, 3, 4, 5, 6, 7, 8, 9, 10], [0, 1, 2, 3, 4, 5, 6, 7, 8, 9, 10, 11], [0, 1, 2, 3, 4, 5, 6, 7, 8, 9, 10, 11, 12]] [158, 159, 160, 161, 162, 163, 164, 165, 166, 167, 168] [] (by kernel_rfl) (by kernel_rfl) (by kernel_rfl) (by kernel_rfl) (by exact trivial) ?_) | (refine And.intro ?_ ?_; (try simp only [sxO] at *); omega) | fail) <;> (try simp (maxSteps := 1000000) only [hb0, so_gbSt, d1, w2, w3, w4, w5, w6, w7, w8, n1, n2, j1, j2, j3, j4, natV, cE_ment, cE_kill, cE_len, hasK_nil, Nat.mul_one, List.length_set, ↓hold_pre, awayP, runOps, regK, step1, newK, genR, appR, obl, buildR, Value.cells, closeK, keepH, outV, retK, ret1, retC, RetV, Option.getD, runD, stepD, afterK, undef, simprocAttr, sxB, ↓sxD, sxE, sxTab]))
    have m2 : Mem.le M1 M2 := m2
    have hM2 := hM1.trans m2
    by_cases hcc : c (nt D q) (nt D g) < 0
    · have d3 : decide (c (nt D q) (nt D g) < 0) = true := decide_eq_true hcc
      refine Stop.go ?_
      (try with_reducible refine Fz.of ?_); (replace hb0 := true_and True); refine Go1.mk ?_; repeat' ((first | (with_reducible refine Go1.go ?_) | ((with_reducible first | refine brv_mk ?_ ?_ | refine gsplitD ?_ ?_ | refine gsplitG ?_ ?_) <;> intro h <;> (try simp only [Bool.not_eq_true', Bool.not_eq_false'] at h) <;> replace hb0 := h) | ((with_reducible refine isDraw [some 40, some 41, some 42, some 43, some 44, some 45, some 46, some 47, some 48, some 49, some 50] (by decide) ?_); refine draw_rule [(0, []), (1, []), (2, []), (3, []), (4, []), (5, [4]), (6, [4]), (7, [4]), (8, [4]), (9, []), (10, [])] [[], [], [], [1, 2], [1, 2, 3], [], [], [5, 6], [5, 6, 7], [0, 1, 2, 3, 4, 5, 6, 7, 8], [0, 1, 2, 3, 4, 5, 6, 7, 8, 9]] [40, 41, 42, 43, 44, 45, 46, 47, 48] [] (by kernel_rfl) (by kernel_rfl) (by kernel_rfl) (by kernel_rfl) (by exact trivial) ?_) | ((with_reducible refine isDraw [some 61, some 62, some 63, some 64, some 65, some 66, some 67, some 68, some 69, some 70, some 71, some 72, some 73, some 74, some 75, none, some 76, none] (by decide) ?_); refine draw_rule [(0, []), (1, []), (2, []), (3, []), (4, []), (5, []), (6, []), (7, []), (8, []), (9, []), (10, [9]), (11, [9]), (12, [9]), (13, [9]), (14, []), (15, []), (16, []), (17, [])] [[], [], [], [], [3], [], [], [6], [5, 6, 7], [5, 6, 7, 8], [], [], [10, 11], [10, 11, 12], [0, 1, 5, 6, 7, 8, 9, 10, 11, 12, 13], [0, 1, 5, 6, 7, 8, 9, 10, 11, 12, 13, 14], [0, 1, 2, 3, 4, 5, 6, 7, 8, 9, 10, 11, 12, 13, 14, 15], [0, 1, 2, 3, 4, 5, 6, 7, 8, 9, 10, 11, 12, 13, 14, 15, 16]] [61, 62, 63, 64, 65, 66, 67, 68, 69, 70, 71, 72, 73, 74, 75] [] (by kernel_rfl) (by kernel_rfl) (by kernel_rfl) (by kernel_rfl) (by exact trivial) ?_) | ((with_reducible refine isDraw [some 92, some 93, some 94, some 95, some 96, some 97, some 98, some 99, some 100, some 101, some 102, some 103] (by decide) ?_); refine draw_rule [(0, []), (1, []), (2, []), (3, []), (4, []), (5, [4]), (6, [4]), (7, [4]), (8, [4]), (9, []), (10, []), (11, [])] [[], [], [], [1, 2], [1, 2, 3], [], [], [5, 6], [5, 6, 7], [0, 1, 2, 3, 4, 5, 6, 7, 8], [0, 1, 2, 3, 4, 5, 6, 7, 8, 9], [0, 1, 2, 3, 4, 5, 6, 7, 8, 9, 10]] [92, 93, 94, 95, 96, 97, 98, 99, 100] [] (by kernel_rfl) (by kernel_rfl) (by kernel_rfl) (by kernel_rfl) (by exact trivial) ?_) | ((with_reducible refine isDraw [some 113, some 114, some 115, some 116, some 117, some 118, some 119, some 120, some 121, some 122, some 123, some 124, some 125, some 126, some 127, none, some 128, none] (by decide) ?_); refine draw_rule [(0, []), (1, []), (2, []), (3, []), (4, []), (5, []), (6, []), (7, []), (8, []), (9, []), (10, [9]), (11, [9]), (12, [9]), (13, [9]), (14, []), (15, []), (16, []), (17, [])] [[], [], [], [], [3], [], [], [6], [5, 6, 7], [5, 6, 7, 8], [], [], [10, 11], [10, 11, 12], [0, 1, 5, 6, 7, 8, 9, 10, 11, 12, 13], [0, 1, 5, 6, 7, 8, 9, 10, 11, 12, 13, 14], [0, 1, 2, 3, 4, 5, 6, 7, 8, 9, 10, 11, 12, 13, 14, 15], [0, 1, 2, 3, 4, 5, 6, 7, 8, 9, 10, 11, 12, 13, 14, 15, 16]] [113, 114, 115, 116, 117, 118, 119, 120, 121, 122, 123, 124, 125, 126, 127] [] (by kernel_rfl) (by kernel_rfl) (by kernel_rfl) (by kernel_rfl) (by exact trivial) ?_) | ((with_reducible refine isDraw [some 158, some 159, some 160, some 161, some 162, some 163, some 164, some 165, some 166, some 167, some 168, some 169, some 170, some 171] (by decide) ?_); refine draw_rule [(0, []), (1, []), (2, []), (3, []), (4, []), (5, []), (6, []), (7, [6]), (8, [6]), (9, [6]), (10, [6]), (11, []), (12, []), (13, [])] [[], [], [], [], [2, 3], [1, 2, 3, 4], [1, 2, 3, 4, 5], [], [], [7, 8], [7, 8, 9], [0, 1, 2, 3, 4, 5, 6, 7, 8, 9, 10], [0, 1, 2, 3, 4, 5, 6, 7, 8, 9, 10, 11], [0, 1, 2, 3, 4, 5, 6, 7, 8, 9, 10, 11, 12]] [158, 159, 160, 161, 162, 163, 164, 165, 166, 167, 168] [] (by kernel_rfl) (by kernel_rfl) (by kernel_rfl) (by kernel_rfl) (by exact trivial) ?_) | (refine And.intro ?_ ?_; (try simp only [sxO] at *); omega) | fail) <;> (try simp (maxSteps := 1000000) only [hb0, d3, w7, natV, cE_ment, cE_kill, cE_len, hasK_nil, Nat.mul_one, List.length_set, ↓hold_pre, awayP, runOps, regK, step1, newK, genR, appR, obl, buildR, Value.cells, closeK, keepH, outV, retK, ret1, retC, RetV, Option.getD, runD, stepD, afterK, undef, simprocAttr, sxB, ↓sxD, sxE, sxTab]))
      exact ⟨g - i, so_gbSt M2 ul N D a m b h n i g p, by omega, le_sub ⟨rfl, rfl, rfl, rfl, rfl, rfl, rfl, rfl, rfl, rfl, trivial⟩ ⟨by first | rfl | simp [lkH], by first | rfl | simp [lkH], trivial⟩ rfl rfl rfl (by simp [keepLt, so_gbSt, lkH]), M2, i, g, rfl, hM2, hmi, by omega, by omega, hI, .inr (by rw [← hq]; exact hcc), rfl⟩
    · have d3 : decide (c (nt D q) (nt D g) < 0) = false := decide_eq_false hcc
      refine Stop.go ?_
      (try with_reducible refine Fz.of ?_); (replace hb0 := true_and True); refine Go1.mk ?_; repeat' ((first | (with_reducible refine Go1.go ?_) | ((with_reducible first | refine brv_mk ?_ ?_ | refine gsplitD ?_ ?_ | refine gsplitG ?_ ?_) <;> intro h <;> (try simp only [Bool.not_eq_true', Bool.not_eq_false'] at h) <;> replace hb0 := h) | ((with_reducible refine isDraw [some 40, some 41, some 42, some 43, some 44, some 45, some 46, some 47, some 48, some 49, some 50] (by decide) ?_); refine draw_rule [(0, []), (1, []), (2, []), (3, []), (4, []), (5, [4]), (6, [4]), (7, [4]), (8, [4]), (9, []), (10, [])] [[], [], [], [1, 2], [1, 2, 3], [], [], [5, 6], [5, 6, 7], [0, 1, 2, 3, 4, 5, 6, 7, 8], [0, 1, 2, 3, 4, 5, 6, 7, 8, 9]] [40, 41, 42, 43, 44, 45, 46, 47, 48] [] (by kernel_rfl) (by kernel_rfl) (by kernel_rfl) (by kernel_rfl) (by exact trivial) ?_) | ((with_reducible refine isDraw [some 61, some 62, some 63, some 64, some 65, some 66, some 67, some 68, some 69, some 70, some 71, some 72, some 73, some 74, some 75, none, some 76, none] (by decide) ?_); refine draw_rule [(0, []), (1, []), (2, []), (3, []), (4, []), (5, []), (6, []), (7, []), (8, []), (9, []), (10, [9]), (11, [9]), (12, [9]), (13, [9]), (14, []), (15, []), (16, []), (17, [])] [[], [], [], [], [3], [], [], [6], [5, 6, 7], [5, 6, 7, 8], [], [], [10, 11], [10, 11, 12], [0, 1, 5, 6, 7, 8, 9, 10, 11, 12, 13], [0, 1, 5, 6, 7, 8, 9, 10, 11, 12, 13, 14], [0, 1, 2, 3, 4, 5, 6, 7, 8, 9, 10, 11, 12, 13, 14, 15], [0, 1, 2, 3, 4, 5, 6, 7, 8, 9, 10, 11, 12, 13, 14, 15, 16]] [61, 62, 63, 64, 65, 66, 67, 68, 69, 70, 71, 72, 73, 74, 75] [] (by kernel_rfl) (by kernel_rfl) (by kernel_rfl) (by kernel_rfl) (by exact trivial) ?_) | ((with_reducible refine isDraw [some 92, some 93, some 94, some 95, some 96, some 97, some 98, some 99, some 100, some 101, some 102, some 103] (by decide) ?_); refine draw_rule [(0, []), (1, []), (2, []), (3, []), (4, []), (5, [4]), (6, [4]), (7, [4]), (8, [4]), (9, []), (10, []), (11, [])] [[], [], [], [1, 2], [1, 2, 3], [], [], [5, 6], [5, 6, 7], [0, 1, 2, 3, 4, 5, 6, 7, 8], [0, 1, 2, 3, 4, 5, 6, 7, 8, 9], [0, 1, 2, 3, 4, 5, 6, 7, 8, 9, 10]] [92, 93, 94, 95, 96, 97, 98, 99, 100] [] (by kernel_rfl) (by kernel_rfl) (by kernel_rfl) (by kernel_rfl) (by exact trivial) ?_) | ((with_reducible refine isDraw [some 113, some 114, some 115, some 116, some 117, some 118, some 119, some 120, some 121, some 122, some 123, some 124, some 125, some 126, some 127, none, some 128, none] (by decide) ?_); refine draw_rule [(0, []), (1, []), (2, []), (3, []), (4, []), (5, []), (6, []), (7, []), (8, []), (9, []), (10, [9]), (11, [9]), (12, [9]), (13, [9]), (14, []), (15, []), (16, []), (17, [])] [[], [], [], [], [3], [], [], [6], [5, 6, 7], [5, 6, 7, 8], [], [], [10, 11], [10, 11, 12], [0, 1, 5, 6, 7, 8, 9, 10, 11, 12, 13], [0, 1, 5, 6, 7, 8, 9, 10, 11, 12, 13, 14], [0, 1, 2, 3, 4, 5, 6, 7, 8, 9, 10, 11, 12, 13, 14, 15], [0, 1, 2, 3, 4, 5, 6, 7, 8, 9, 10, 11, 12, 13, 14, 15, 16]] [113, 114, 115, 116, 117, 118, 119, 120, 121, 122, 123, 124, 125, 126, 127] [] (by kernel_rfl) (by kernel_rfl) (by kernel_rfl) (by kernel_rfl) (by exact trivial) ?_) | ((with_reducible refine isDraw [some 158, some 159, some 160, some 161, some 162, some 163, some 164, some 165, some 166, some 167, some 168, some 169, some 170, some 171] (by decide) ?_); refine draw_rule [(0, []), (1, []), (2, []), (3, []), (4, []), (5, []), (6, []), (7, [6]), (8, [6]), (9, [6]), (10, [6]), (11, []), (12, []), (13, [])] [[], [], [], [], [2, 3], [1, 2, 3, 4], [1, 2, 3, 4, 5], [], [], [7, 8], [7, 8, 9], [0, 1, 2, 3, 4, 5, 6, 7, 8, 9, 10], [0, 1, 2, 3, 4, 5, 6, 7, 8, 9, 10, 11], [0, 1, 2, 3, 4, 5, 6, 7, 8, 9, 10, 11, 12]] [158, 159, 160, 161, 162, 163, 164, 165, 166, 167, 168] [] (by kernel_rfl) (by kernel_rfl) (by kernel_rfl) (by kernel_rfl) (by exact trivial) ?_) | (refine And.intro ?_ ?_; (try simp only [sxO] at *); omega) | fail) <;> (try simp (maxSteps := 1000000) only [hb0, d3, w7, natV, cE_ment, cE_kill, cE_len, hasK_nil, Nat.mul_one, List.length_set, ↓hold_pre, awayP, runOps, regK, step1, newK, genR, appR, obl, buildR, Value.cells, closeK, keepH, outV, retK, ret1, retC, RetV, Option.getD, runD, stepD, afterK, undef, simprocAttr, sxB, ↓sxD, sxE, sxTab]))
      exact ⟨j - (g + 1), so_gbSt M2 ul N D a m b h n (g + 1) j p, by omega, le_sub ⟨rfl, rfl, rfl, rfl, rfl, rfl, rfl, rfl, rfl, rfl, trivial⟩ ⟨by first | rfl | simp [lkH], by first | rfl | simp [lkH], trivial⟩ rfl rfl rfl (by simp [keepLt, so_gbSt, lkH]), M2, g + 1, j, rfl, hM2, by omega, by omega, hjb, .inr (by rw [show n - (g + 1) = q by omega]; exact hcc), hJ, rfl⟩
  obtain rfl : i = j := by omega
  have d1 : decide ((i : Int) < (i : Int)) = false := by simp
  obtain ⟨X1, X2, hXX, hX1⟩ : ∃ X1 X2, X = X1 ++ X2 ∧ X1.length = i - a := ⟨X.take (i - a), X.drop (i - a), (List.take_append_drop _ _).symm, by rw [List.length_take]; omega⟩
  obtain ⟨Y1, Y2, hYY, hY1⟩ : ∃ Y1 Y2, Y = Y1 ++ Y2 ∧ Y1.length = h - i := ⟨Y.take (h - i), Y.drop (h - i), (List.take_append_drop _ _).symm, by rw [List.length_take]; omega⟩
  have hXl : X.length = X1.length + X2.length := by rw [hXX, List.length_append]
  have hYl : Y.length = Y1.length + Y2.length := by rw [hYY, List.length_append]
  have hxx := hx
  rw [hXX] at hxx
  obtain ⟨x1, x2, x3⟩ := pw_app.1 hxx
  have hyy := hy
  rw [hYY] at hyy
  obtain ⟨y1, y2, y3⟩ := pw_app.1 hyy
  have inX : ∀ z, z ∈ X1 ∨ z ∈ X2 → z ∈ X := fun z hz => by rw [hXX]; exact List.mem_append.2 hz
  have inY : ∀ z, z ∈ Y1 ∨ z ∈ Y2 → z ∈ Y := fun z hz => by rw [hYY]; exact List.mem_append.2 hz
  have g1 : ahead c X1 Y2 := ahead_nt ho x1 y2 fun p1 p2 => by
    rcases hI with hI | hI
    · omega
    rw [nt_mid A X1 (X2 ++ Y ++ B) (i := X1.length - 1) (j := i - 1) (by rw [hD, hXX]; simp) (by omega) (by omega), nt_mid (A ++ X ++ Y1) Y2 B (i := 0) (j := n - i) (by rw [hD, hYY]; simp) p2 (by simp only [List.length_append]; omega)] at hI
    exact ltS_not ho (hxy _ (inX _ (.inl (nt_in (by omega)))) _ (inY _ (.inr (nt_in p2)))) hI
  have g2 : ahead c Y1 X2 := ahead_nt ho y1 x2 fun p1 p2 => by
    rcases hJ with hJ | hJ
    · omega
    rw [nt_mid (A ++ X) Y1 (Y2 ++ B) (i := Y1.length - 1) (j := p - i) (by rw [hD, hYY]; simp) (by omega) (by simp only [List.length_append]; omega), nt_mid (A ++ X1) X2 (Y ++ B) (i := 0) (j := i) (by rw [hD, hXX]; simp) p2 (by simp only [List.length_append]; omega)] at hJ
    exact .inl hJ
  obtain ⟨e, he⟩ : ∃ e, e = n - i := ⟨_, rfl⟩
  have w9 : IntKind.i64.wrap ((n : Int) - (i : Int)) = (e : Int) := by rw [wrap_id (by omega) (by omega)]; omega
  clear hI hJ hlo hhi
  (try with_reducible refine Fz.of ?_); (replace hb0 := true_and True); refine Go1.mk ?_; repeat' ((first | (with_reducible refine Go1.go ?_) | ((with_reducible first | refine brv_mk ?_ ?_ | refine gsplitD ?_ ?_ | refine gsplitG ?_ ?_) <;> intro h <;> (try simp only [Bool.not_eq_true', Bool.not_eq_false'] at h) <;> replace hb0 := h) | (refine And.intro ?_ ?_; (try simp only [sxO] at *); omega) | fail) <;> (try simp (maxSteps := 1000000) only [hb0, so_gbSt, d1, w9, natV, cE_ment, cE_kill, cE_len, hasK_nil, Nat.mul_one, List.length_set, ↓hold_pre, awayP, runOps, regK, step1, newK, genR, appR, obl, buildR, Value.cells, closeK, keepH, outV, retK, ret1, retC, RetV, Option.getD, runD, stepD, afterK, undef, simprocAttr, sxB, ↓sxD, sxE, sxTab]))
  refine ⟨fun z => z = so_gcSt M1 ul N (A ++ X1 ++ Y1 ++ X2 ++ Y2 ++ B) a b h i e, ?_, ?_⟩
  · by_cases c1 : i < m
    · have d2 : decide ((i : Int) < (m : Int)) = true := by rw [decide_eq_true_eq]; omega
      by_cases c2 : m < e
      · have d3 : decide ((m : Int) < (e : Int)) = true := by rw [decide_eq_true_eq]; omega
        (try with_reducible refine Fz.of ?_); (replace hb0 := true_and True); refine Go1.mk ?_; repeat' ((first | (with_reducible refine Go1.go ?_) | ((with_reducible first | refine brv_mk ?_ ?_ | refine gsplitD ?_ ?_ | refine gsplitG ?_ ?_) <;> intro h <;> (try simp only [Bool.not_eq_true', Bool.not_eq_false'] at h) <;> replace hb0 := h) | ((with_reducible refine isCall (f := 62) ?_); refine callA ?_) | ((with_reducible refine isCall0 (f := 62) ?_); refine callA0 ?_) | ((with_reducible refine isCallS (f := 62) ?_); refine (rot_ok ul (A ++ X1) X2 Y1 (Y2 ++ B) D (A ++ X1 ++ Y1 ++ X2 ++ Y2 ++ B) _ _ _ N (by rw [hD, hXX, hYY]; simp) (by simp) (by rw [List.length_append]; omega) (by rw [List.length_append]; omega) (by rw [List.length_append]; omega) (by omega) (by omega) hN hN2 ?_)) | (refine And.intro ?_ ?_; (try simp only [sxO] at *); omega) | fail) <;> (try simp (maxSteps := 1000000) only [hb0, d2, d3, natV, cE_ment, cE_kill, cE_len, hasK_nil, Nat.mul_one, List.length_set, ↓hold_pre, awayP, runOps, regK, step1, newK, genR, appR, obl, buildR, Value.cells, closeK, keepH, outV, retK, ret1, retC, RetV, Option.getD, runD, stepD, afterK, undef, simprocAttr, sxB, ↓sxD, sxE, sxTab]))
        exact ⟨so_gcSt M1 ul N (A ++ X1 ++ Y1 ++ X2 ++ Y2 ++ B) a b h i e, le_sub ⟨rfl, rfl, rfl, rfl, rfl, rfl, rfl, trivial⟩ ⟨by first | rfl | simp [lkH], by first | rfl | simp [lkH], trivial⟩ rfl rfl rfl (by simp [keepLt, so_gcSt, lkH]), rfl⟩
      · have d3 : decide ((m : Int) < (e : Int)) = false := by rw [decide_eq_false_iff_not]; omega
        have hY0 : Y1 = [] := List.length_eq_zero_iff.1 (by omega)
        have hDD : D = A ++ X1 ++ Y1 ++ X2 ++ Y2 ++ B := by rw [hD, hXX, hYY, hY0]; simp
        (try with_reducible refine Fz.of ?_); (replace hb0 := true_and True); refine Go1.mk ?_; repeat' ((first | (with_reducible refine Go1.go ?_) | ((with_reducible first | refine brv_mk ?_ ?_ | refine gsplitD ?_ ?_ | refine gsplitG ?_ ?_) <;> intro h <;> (try simp only [Bool.not_eq_true', Bool.not_eq_false'] at h) <;> replace hb0 := h) | (refine And.intro ?_ ?_; (try simp only [sxO] at *); omega) | fail) <;> (try simp (maxSteps := 1000000) only [hb0, d2, d3, natV, cE_ment, cE_kill, cE_len, hasK_nil, Nat.mul_one, List.length_set, ↓hold_pre, awayP, runOps, regK, step1, newK, genR, appR, obl, buildR, Value.cells, closeK, keepH, outV, retK, ret1, retC, RetV, Option.getD, runD, stepD, afterK, undef, simprocAttr, sxB, ↓sxD, sxE, sxTab]))
        rw [← hDD]
        exact ⟨so_gcSt M1 ul N D a b h i e, le_sub ⟨rfl, rfl, rfl, rfl, rfl, rfl, rfl, trivial⟩ ⟨by first | rfl | simp [lkH], by first | rfl | simp [lkH], trivial⟩ rfl rfl rfl (by simp [keepLt, so_gcSt, lkH]), rfl⟩
    · have d2 : decide ((i : Int) < (m : Int)) = false := by rw [decide_eq_false_iff_not]; omega
      have hX0 : X2 = [] := List.length_eq_zero_iff.1 (by omega)
      have hDD : D = A ++ X1 ++ Y1 ++ X2 ++ Y2 ++ B := by rw [hD, hXX, hYY, hX0]; simp
      (try with_reducible refine Fz.of ?_); (replace hb0 := true_and True); refine Go1.mk ?_; repeat' ((first | (with_reducible refine Go1.go ?_) | ((with_reducible first | refine brv_mk ?_ ?_ | refine gsplitD ?_ ?_ | refine gsplitG ?_ ?_) <;> intro h <;> (try simp only [Bool.not_eq_true', Bool.not_eq_false'] at h) <;> replace hb0 := h) | (refine And.intro ?_ ?_; (try simp only [sxO] at *); omega) | fail) <;> (try simp (maxSteps := 1000000) only [hb0, d2, natV, cE_ment, cE_kill, cE_len, hasK_nil, Nat.mul_one, List.length_set, ↓hold_pre, awayP, runOps, regK, step1, newK, genR, appR, obl, buildR, Value.cells, closeK, keepH, outV, retK, ret1, retC, RetV, Option.getD, runD, stepD, afterK, undef, simprocAttr, sxB, ↓sxD, sxE, sxTab]))
      rw [← hDD]
      exact ⟨so_gcSt M1 ul N D a b h i e, le_sub ⟨rfl, rfl, rfl, rfl, rfl, rfl, rfl, trivial⟩ ⟨by first | rfl | simp [lkH], by first | rfl | simp [lkH], trivial⟩ rfl rfl rfl (by simp [keepLt, so_gcSt, lkH]), rfl⟩
  rintro z rfl
  have hDl : (A ++ X1 ++ Y1 ++ X2 ++ Y2 ++ B).length = N := by simp only [List.length_append]; omega
  (try with_reducible refine Fz.of ?_); (replace hb0 := true_and True); refine Go1.mk ?_; repeat' ((first | (with_reducible refine Go1.go ?_) | ((with_reducible first | refine brv_mk ?_ ?_ | refine gsplitD ?_ ?_ | refine gsplitG ?_ ?_) <;> intro h <;> (try simp only [Bool.not_eq_true', Bool.not_eq_false'] at h) <;> replace hb0 := h) | (refine And.intro ?_ ?_; (try simp only [sxO] at *); omega) | fail) <;> (try simp (maxSteps := 1000000) only [hb0, so_gcSt, natV, cE_ment, cE_kill, cE_len, hasK_nil, Nat.mul_one, List.length_set, ↓hold_pre, awayP, runOps, regK, step1, newK, genR, appR, obl, buildR, Value.cells, closeK, keepH, outV, retK, ret1, retC, RetV, Option.getD, runD, stepD, afterK, undef, simprocAttr, sxB, ↓sxD, sxE, sxTab]))
  refine ⟨fun z => ∃ M2 Z1, Mem.le M M2 ∧ Z1.Perm (X1 ++ Y1) ∧ Z1.Pairwise (ltS c) ∧ z = so_gdSt M2 ul N (A ++ Z1 ++ X2 ++ Y2 ++ B) b h e, ?_, ?_⟩
  · by_cases c1 : a < i
    · have d2 : decide ((a : Int) < (i : Int)) = true := by rw [decide_eq_true_eq]; omega
      by_cases c2 : i < h
      · have d3 : decide ((i : Int) < (h : Int)) = true := by rw [decide_eq_true_eq]; omega
        (try with_reducible refine Fz.of ?_); (replace hb0 := true_and True); refine Go1.mk ?_; repeat' ((first | (with_reducible refine Go1.go ?_) | ((with_reducible first | refine brv_mk ?_ ?_ | refine gsplitD ?_ ?_ | refine gsplitG ?_ ?_) <;> intro h <;> (try simp only [Bool.not_eq_true', Bool.not_eq_false'] at h) <;> replace hb0 := h) | ((with_reducible refine isCall (f := 61) ?_); refine callA ?_) | ((with_reducible refine isCall0 (f := 61) ?_); refine callA0 ?_) | ((with_reducible refine isCallS (f := 61) ?_); refine (ih A X1 Y1 (X2 ++ Y2 ++ B) (A ++ X1 ++ Y1 ++ X2 ++ Y2 ++ B) _ _ _ _ _ hM1 (by omega) (by simp) ha (by omega) (by omega) (by omega) (by omega) x1 y1 (fun x hx y hy => hxy x (inX x (.inl hx)) y (inY y (.inl hy))) (fun x hx => hNN x (by rcases List.mem_append.1 hx with hx | hx; exact List.mem_append_left _ (inX x (.inl hx)); exact List.mem_append_right _ (inY x (.inl hx)))) hDl (fun Z M2 z1 z2 z3 => Stop.mk ?_))) | (refine And.intro ?_ ?_; (try simp only [sxO] at *); omega) | fail) <;> (try simp (maxSteps := 1000000) only [hb0, d2, d3, natV, cE_ment, cE_kill, cE_len, hasK_nil, Nat.mul_one, List.length_set, ↓hold_pre, awayP, runOps, regK, step1, newK, genR, appR, obl, buildR, Value.cells, closeK, keepH, outV, retK, ret1, retC, RetV, Option.getD, runD, stepD, afterK, undef, simprocAttr, sxB, ↓sxD, sxE, sxTab]))
        refine Stop.go ?_
        (try with_reducible refine Fz.of ?_); (replace hb0 := true_and True); refine Go1.mk ?_; repeat' ((first | (with_reducible refine Go1.go ?_) | ((with_reducible first | refine brv_mk ?_ ?_ | refine gsplitD ?_ ?_ | refine gsplitG ?_ ?_) <;> intro h <;> (try simp only [Bool.not_eq_true', Bool.not_eq_false'] at h) <;> replace hb0 := h) | (refine And.intro ?_ ?_; (try simp only [sxO] at *); omega) | fail) <;> (try simp (maxSteps := 1000000) only [hb0, natV, cE_ment, cE_kill, cE_len, hasK_nil, Nat.mul_one, List.length_set, ↓hold_pre, awayP, runOps, regK, step1, newK, genR, appR, obl, buildR, Value.cells, closeK, keepH, outV, retK, ret1, retC, RetV, Option.getD, runD, stepD, afterK, undef, simprocAttr, sxB, ↓sxD, sxE, sxTab]))
        exact ⟨so_gdSt M2 ul N (A ++ Z ++ X2 ++ Y2 ++ B) b h e, le_sub ⟨rfl, rfl, rfl, rfl, rfl, trivial⟩ ⟨by simp [lkH, so_gdSt], by simp [lkH, so_gdSt], trivial⟩ rfl rfl rfl (by simp [keepLt, so_gdSt, lkH]), M2, Z, hM1.trans z1, z2, z3, rfl⟩
      · have d3 : decide ((i : Int) < (h : Int)) = false := by rw [decide_eq_false_iff_not]; omega
        have hY0 : Y1 = [] := List.length_eq_zero_iff.1 (by omega)
        (try with_reducible refine Fz.of ?_); (replace hb0 := true_and True); refine Go1.mk ?_; repeat' ((first | (with_reducible refine Go1.go ?_) | ((with_reducible first | refine brv_mk ?_ ?_ | refine gsplitD ?_ ?_ | refine gsplitG ?_ ?_) <;> intro h <;> (try simp only [Bool.not_eq_true', Bool.not_eq_false'] at h) <;> replace hb0 := h) | (refine And.intro ?_ ?_; (try simp only [sxO] at *); omega) | fail) <;> (try simp (maxSteps := 1000000) only [hb0, d2, d3, natV, cE_ment, cE_kill, cE_len, hasK_nil, Nat.mul_one, List.length_set, ↓hold_pre, awayP, runOps, regK, step1, newK, genR, appR, obl, buildR, Value.cells, closeK, keepH, outV, retK, ret1, retC, RetV, Option.getD, runD, stepD, afterK, undef, simprocAttr, sxB, ↓sxD, sxE, sxTab]))
        exact ⟨so_gdSt M1 ul N (A ++ (X1 ++ Y1) ++ X2 ++ Y2 ++ B) b h e, le_sub ⟨rfl, rfl, rfl, rfl, rfl, trivial⟩ ⟨by simp [lkH, so_gdSt], by simp [lkH, so_gdSt], trivial⟩ rfl rfl rfl (by simp [keepLt, so_gdSt, lkH]), M1, X1 ++ Y1, hM1, List.Perm.refl _, by rw [hY0, List.append_nil]; exact x1, rfl⟩
    · have d2 : decide ((a : Int) < (i : Int)) = false := by rw [decide_eq_false_iff_not]; omega
      have hX0 : X1 = [] := List.length_eq_zero_iff.1 (by omega)
      (try with_reducible refine Fz.of ?_); (replace hb0 := true_and True); refine Go1.mk ?_; repeat' ((first | (with_reducible refine Go1.go ?_) | ((with_reducible first | refine brv_mk ?_ ?_ | refine gsplitD ?_ ?_ | refine gsplitG ?_ ?_) <;> intro h <;> (try simp only [Bool.not_eq_true', Bool.not_eq_false'] at h) <;> replace hb0 := h) | (refine And.intro ?_ ?_; (try simp only [sxO] at *); omega) | fail) <;> (try simp (maxSteps := 1000000) only [hb0, d2, natV, cE_ment, cE_kill, cE_len, hasK_nil, Nat.mul_one, List.length_set, ↓hold_pre, awayP, runOps, regK, step1, newK, genR, appR, obl, buildR, Value.cells, closeK, keepH, outV, retK, ret1, retC, RetV, Option.getD, runD, stepD, afterK, undef, simprocAttr, sxB, ↓sxD, sxE, sxTab]))
      exact ⟨so_gdSt M1 ul N (A ++ (X1 ++ Y1) ++ X2 ++ Y2 ++ B) b h e, le_sub ⟨rfl, rfl, rfl, rfl, rfl, trivial⟩ ⟨by simp [lkH, so_gdSt], by simp [lkH, so_gdSt], trivial⟩ rfl rfl rfl (by simp [keepLt, so_gdSt, lkH]), M1, X1 ++ Y1, hM1, List.Perm.refl _, by rw [hX0, List.nil_append]; exact y1, rfl⟩
  rintro z ⟨M2, Z1, hM2, zp, zs, rfl⟩
  have hZl := zp.length_eq
  rw [List.length_append] at hZl
  have fin : ∀ Z2 M3, Mem.le M M3 → Z2.Perm (X2 ++ Y2) → Z2.Pairwise (ltS c) → K (.ext (.tuple #[])) [(113, 3, cE natV (A ++ (Z1 ++ Z2) ++ B)), (101, 23, [.ext ul])] M3 := fun Z2 M3 m3 p2 s2 => hK (Z1 ++ Z2) M3 m3 (by
      rw [hXX, hYY]
      refine (zp.append p2).trans ?_
      rw [List.append_assoc, List.append_assoc]
      refine List.Perm.append_left _ ?_
      rw [← List.append_assoc, ← List.append_assoc]
      exact List.Perm.append_right _ List.perm_append_comm) (pw_app.2 ⟨zs, s2, fun u hu v hv => by
      rcases List.mem_append.1 (zp.subset hu) with hu | hu
      · rcases List.mem_append.1 (p2.subset hv) with hv | hv
        · exact x3 u hu v hv
        · exact g1 u hu v hv
      · rcases List.mem_append.1 (p2.subset hv) with hv | hv
        · exact g2 u hu v hv
        · exact y3 u hu v hv⟩)
  by_cases c1 : h < e
  · have d2 : decide ((h : Int) < (e : Int)) = true := by rw [decide_eq_true_eq]; omega
    by_cases c2 : e < b
    · have d3 : decide ((e : Int) < (b : Int)) = true := by rw [decide_eq_true_eq]; omega
      (try with_reducible refine Fz.of ?_); (replace hb0 := true_and True); refine Go1.mk ?_; repeat' ((first | (with_reducible refine Go1.go ?_) | ((with_reducible first | refine brv_mk ?_ ?_ | refine gsplitD ?_ ?_ | refine gsplitG ?_ ?_) <;> intro h <;> (try simp only [Bool.not_eq_true', Bool.not_eq_false'] at h) <;> replace hb0 := h) | ((with_reducible refine isCall (f := 61) ?_); refine callA ?_) | ((with_reducible refine isCall0 (f := 61) ?_); refine callA0 ?_) | ((with_reducible refine isCallS (f := 61) ?_); refine (ih (A ++ Z1) X2 Y2 B (A ++ Z1 ++ X2 ++ Y2 ++ B) _ _ _ _ _ hM2 (by omega) (by simp) (by rw [List.length_append]; omega) (by rw [List.length_append]; omega) (by rw [List.length_append]; omega) (by omega) (by omega) x2 y2 (fun x hx y hy => hxy x (inX x (.inr hx)) y (inY y (.inr hy))) (fun x hx => hNN x (by rcases List.mem_append.1 hx with hx | hx; exact List.mem_append_left _ (inX x (.inr hx)); exact List.mem_append_right _ (inY x (.inr hx)))) (by simp only [List.length_append]; omega) (fun Z M3 z1 z2 z3 => Stop.mk ?_))) | (refine And.intro ?_ ?_; (try simp only [sxO] at *); omega) | fail) <;> (try simp (maxSteps := 1000000) only [hb0, so_gdSt, d2, d3, natV, cE_ment, cE_kill, cE_len, hasK_nil, Nat.mul_one, List.length_set, ↓hold_pre, awayP, runOps, regK, step1, newK, genR, appR, obl, buildR, Value.cells, closeK, keepH, outV, retK, ret1, retC, RetV, Option.getD, runD, stepD, afterK, undef, simprocAttr, sxB, ↓sxD, sxE, sxTab]))
      have hf := fin Z M3 (hM2.trans z1) z2 z3
      refine Stop.go ?_
      (try with_reducible refine Fz.of ?_); (replace hb0 := true_and True); refine Go1.mk ?_; repeat' ((first | (with_reducible refine Go1.go ?_) | ((with_reducible first | refine brv_mk ?_ ?_ | refine gsplitD ?_ ?_ | refine gsplitG ?_ ?_) <;> intro h <;> (try simp only [Bool.not_eq_true', Bool.not_eq_false'] at h) <;> replace hb0 := h) | (refine And.intro ?_ ?_; (try simp only [sxO] at *); omega) | fail) <;> (try simp (maxSteps := 1000000) only [hb0, natV, cE_ment, cE_kill, cE_len, hasK_nil, Nat.mul_one, List.length_set, ↓hold_pre, awayP, runOps, regK, step1, newK, genR, appR, obl, buildR, Value.cells, closeK, keepH, outV, retK, ret1, retC, RetV, Option.getD, runD, stepD, afterK, undef, simprocAttr, sxB, ↓sxD, sxE, sxTab]))
      rw [← List.append_assoc] at hf
      exact hf
    · have d3 : decide ((e : Int) < (b : Int)) = false := by rw [decide_eq_false_iff_not]; omega
      have hY0 : Y2 = [] := List.length_eq_zero_iff.1 (by omega)
      have hf := fin (X2 ++ Y2) M2 hM2 (List.Perm.refl _) (by rw [hY0, List.append_nil]; exact x2)
      (try with_reducible refine Fz.of ?_); (replace hb0 := true_and True); refine Go1.mk ?_; repeat' ((first | (with_reducible refine Go1.go ?_) | ((with_reducible first | refine brv_mk ?_ ?_ | refine gsplitD ?_ ?_ | refine gsplitG ?_ ?_) <;> intro h <;> (try simp only [Bool.not_eq_true', Bool.not_eq_false'] at h) <;> replace hb0 := h) | (refine And.intro ?_ ?_; (try simp only [sxO] at *); omega) | fail) <;> (try simp (maxSteps := 1000000) only [hb0, so_gdSt, d2, d3, natV, cE_ment, cE_kill, cE_len, hasK_nil, Nat.mul_one, List.length_set, ↓hold_pre, awayP, runOps, regK, step1, newK, genR, appR, obl, buildR, Value.cells, closeK, keepH, outV, retK, ret1, retC, RetV, Option.getD, runD, stepD, afterK, undef, simprocAttr, sxB, ↓sxD, sxE, sxTab]))
      rw [show A ++ (Z1 ++ (X2 ++ Y2)) ++ B = A ++ Z1 ++ X2 ++ Y2 ++ B by simp] at hf
      exact hf
  · have d2 : decide ((h : Int) < (e : Int)) = false := by rw [decide_eq_false_iff_not]; omega
    have hX0 : X2 = [] := List.length_eq_zero_iff.1 (by omega)
    have hf := fin (X2 ++ Y2) M2 hM2 (List.Perm.refl _) (by rw [hX0, List.nil_append]; exact y2)
    (try with_reducible refine Fz.of ?_); (replace hb0 := true_and True); refine Go1.mk ?_; repeat' ((first | (with_reducible refine Go1.go ?_) | ((with_reducible first | refine brv_mk ?_ ?_ | refine gsplitD ?_ ?_ | refine gsplitG ?_ ?_) <;> intro h <;> (try simp only [Bool.not_eq_true', Bool.not_eq_false'] at h) <;> replace hb0 := h) | (refine And.intro ?_ ?_; (try simp only [sxO] at *); omega) | fail) <;> (try simp (maxSteps := 1000000) only [hb0, so_gdSt, d2, natV, cE_ment, cE_kill, cE_len, hasK_nil, Nat.mul_one, List.length_set, ↓hold_pre, awayP, runOps, regK, step1, newK, genR, appR, obl, buildR, Value.cells, closeK, keepH, outV, retK, ret1, retC, RetV, Option.getD, runD, stepD, afterK, undef, simprocAttr, sxB, ↓sxD, sxE, sxTab]))
    rw [show A ++ (Z1 ++ (X2 ++ Y2)) ++ B = A ++ Z1 ++ X2 ++ Y2 ++ B by simp] at hf
    exact hf
theorem mrg_all (ho : CmpO c) (NN N : Nat) (hN2 : N < 1000000) : ∀ nn M, CmpK M ul c NN → MrgK M ul c NN N nn := by
  intro nn
  induction nn with
  | zero => intro M hc A X Y B D a m b M1 K hM hn hD ha hm hb hX hY; omega
  | succ nn ih =>
    intro M hc A X Y B D a m b M1 K hM hn hD ha hm hb hX hY hx hy hxy hNN hN hK
    have hc1 := hc.le hM
    by_cases h1 : X.length = 1
    · exact mrgA_ok ul ho NN hc1 A X Y B D a m b N hD ha hm hb h1 hY hx hy hxy hNN hN hN2 hK
    by_cases h2 : Y.length = 1
    · exact mrgB_ok ul ho NN hc1 A X Y B D a m b N hD ha hm hb (by omega) h2 hx hy hxy hNN hN hN2 hK
    · exact mrgG_ok ul ho NN N nn (ih M1 hc1) hc1 A X Y B D a m b hD ha hm hb (by omega) (by omega) hn hx hy hxy hNN hN hN2 hK
end
end Go.Proofs.Ytgkfmlgfmcpebaa.Sx
namespace Go.Proofs.Ytgkfmlgfmcpebaa.Sx
open Go Go.RowKit
set_option linter.unusedVariables false
set_option linter.unusedSimpArgs false
set_option maxRecDepth 100000
set_option maxHeartbeats 8000000
attribute [local congr] fin_congr finG_congr stepG_congr step1_congr runOps_congr brv_congr obl_congr condK_congr LoopK_congr seqK_congr CutK_congr vc_congr DrawK_congr regK_congr CallK_congr AskK_congr newK_congr retC_congr ret1_congr retK_congr outV_congr closeK_congr genR_congr appR_congr finD_congr finGD_congr stepGD_congr stepD_congr CallK0_congr runD_congr okR_congr CallS_congr vcX_congr
attribute [local congr] Stop_congr
inductive InBlk (c : Nat → Nat → Int) (k : Nat) : List Nat → Prop
  | last (X : List Nat) : X.length ≤ k → X.Pairwise (ltS c) → InBlk c k X
  | cons (X R : List Nat) : X.length = k → X.Pairwise (ltS c) → (∀ x ∈ X, ∀ y ∈ R, x < y) → InBlk c k R → InBlk c k (X ++ R)
theorem blk_small {c : Nat → Nat → Int} {k : Nat} {R : List Nat} (h : InBlk c k R) (hl : R.length ≤ k) : R.Pairwise (ltS c) := by
  cases h with
  | last _ _ h => exact h
  | cons X R h1 h2 h3 h4 =>
    rw [List.length_append] at hl
    have : R = [] := List.length_eq_zero_iff.1 (by omega)
    rw [this, List.append_nil]; exact h2
theorem blk_one {c : Nat → Nat → Int} {k : Nat} {R : List Nat} (h : InBlk c k R) (hl : k < R.length) : ∃ X Y, R = X ++ Y ∧ X.length = k ∧ X.Pairwise (ltS c) ∧ (∀ x ∈ X, ∀ y ∈ Y, x < y) ∧ InBlk c k Y := by
  cases h with
  | last _ h _ => omega
  | cons X R h1 h2 h3 h4 => exact ⟨X, R, rfl, h1, h2, h3, h4⟩
theorem blk_two {c : Nat → Nat → Int} {k : Nat} {R : List Nat} (hk : 0 < k) (h : InBlk c k R) (hl : 2 * k ≤ R.length) : ∃ X Y R', R = X ++ Y ++ R' ∧ X.length = k ∧ Y.length = k ∧ X.Pairwise (ltS c) ∧ Y.Pairwise (ltS c) ∧ (∀ x ∈ X, ∀ y ∈ Y, x < y) ∧ (∀ x ∈ X ++ Y, ∀ y ∈ R', x < y) ∧ InBlk c k R' := by
  obtain ⟨X, R1, rfl, h1, h2, h3, h4⟩ := blk_one h (by omega)
  rw [List.length_append] at hl
  by_cases h5 : R1.length = k
  · exact ⟨X, R1, [], by simp, h1, h5, h2, blk_small h4 (by omega), h3, by simp, InBlk.last [] (by simp) List.Pairwise.nil⟩
  · obtain ⟨Y, R2, rfl, h6, h7, h8, h9⟩ := blk_one h4 (by omega)
    exact ⟨X, Y, R2, by simp, h1, h6, h2, h7, fun x hx y hy => h3 x hx y (List.mem_append_left _ hy), fun x hx y hy => by
      rcases List.mem_append.1 hx with hx | hx
      · exact h3 x hx y (List.mem_append_right _ hy)
      · exact h8 x hx y hy, h9⟩
section
variable {M : Mem} {K : AV → Hp → Mem → Prop} (ul : Value) {c : Nat → Nat → Int}
def so_s1St (M : Mem) (ul : Value) (N : Nat) (D : List Nat) (k a b : Nat) : St := { env := [(6, .ext (.int .i64 (k : Int))), (7, .ext (.int .i64 (a : Int))), (8, .ext (.int .i64 (b : Int))), (2, .fn 53 [.own 101 0]), (1, .ext (.int .i64 (N : Int))), (0, .slo 113 0 N 1)], hp := [(113, 3, cE natV (D)), (101, 23, [.ext ul])], M := M, kb := 200, fx := [113, 101] }
def so_s2St (M : Mem) (ul : Value) (N : Nat) (D : List Nat) (k : Nat) : St := { env := [(6, .ext (.int .i64 (k : Int))), (2, .fn 53 [.own 101 0]), (1, .ext (.int .i64 (N : Int))), (0, .slo 113 0 N 1)], hp := [(113, 3, cE natV (D)), (101, 23, [.ext ul])], M := M, kb := 200, fx := [113, 101] }
theorem stab_ok (ho : CmpO c) (NN : Nat) (hc : CmpK M ul c NN) (D : List Nat) (N : Nat) (hS : D.Pairwise (· < ·)) (hSN : ∀ x ∈ D, x < NN) (hN : D.length = N) (hN2 : N < 1000000)
    (hK : ∀ Z M', Mem.le M M' → Z.Perm D → Z.Pairwise (ltS c) → K (.ext (.tuple #[])) [(113, 3, cE natV (Z)), (101, 23, [.ext ul])] M') :
    CallS Try.prog 58 [.slo 113 0 N 1, .ext (.int .i64 (N : Int)), .fn 53 [.own 101 0]] [(113, 3, cE natV (D)), (101, 23, [.ext ul])] M [] K := by
  refine inlS (cs := []) Try.mixed Try.func58 rfl (by kernel_rfl) 200 rfl rfl ?_
  simp only [Try.f58]
  (replace hb0 := true_and True); refine Go1.mk ?_; repeat' ((first | (with_reducible refine Go1.go ?_) | ((with_reducible first | refine brv_mk ?_ ?_ | refine gsplitD ?_ ?_ | refine gsplitG ?_ ?_) <;> intro h <;> (try simp only [Bool.not_eq_true', Bool.not_eq_false'] at h) <;> replace hb0 := h) | (refine And.intro ?_ ?_; (try simp only [sxO] at *); omega) | fail) <;> (try simp (maxSteps := 1000000) only [hb0, natV, cE_ment, cE_kill, cE_len, hasK_nil, Nat.mul_one, List.length_set, ↓hold_pre, awayP, runOps, regK, step1, newK, genR, appR, obl, buildR, Value.cells, closeK, keepH, outV, retK, ret1, retC, RetV, Option.getD, runD, stepD, afterK, undef, simprocAttr, sxB, ↓sxD, sxE, sxTab]))
  refine ⟨fun d z => ∃ M' P R9 a, d = R9.length ∧ a = P.length ∧ Mem.le M M' ∧ (P ++ R9).Perm D ∧ (∀ x ∈ P, ∀ y ∈ R9, x < y) ∧ R9.Pairwise (· < ·) ∧ (∀ R', R'.Perm R9 → InBlk c 20 R' → InBlk c 20 (P ++ R')) ∧ z = so_s1St M' ul N (P ++ R9) 20 a (a + 20),
    ⟨N, so_s1St M ul N D 20 0 20, le_sub ⟨rfl, rfl, rfl, rfl, rfl, rfl, trivial⟩ ⟨by first | rfl | simp [lkH], by first | rfl | simp [lkH], trivial⟩ rfl rfl rfl (by simp [keepLt, so_s1St, lkH]), ⟨M, [], D, 0, hN.symm, rfl, Mem.le.refl _, List.Perm.refl _, by simp, hS, fun R' _ h => h, rfl⟩⟩, ?_⟩
  rintro d z ⟨M1, P, R0, a, rfl, ha, hM1, hp, hlt, hR, hdone, rfl⟩
  have hpl := hp.length_eq
  rw [List.length_append] at hpl
  have hRN : ∀ x ∈ R0, x < NN := fun x hx => hSN x (hp.subset (List.mem_append_right _ hx))
  by_cases c1 : a + 20 ≤ N
  · have d1 : decide (((a + 20 : Nat) : Int) ≤ (N : Int)) = true := by rw [decide_eq_true_eq]; omega
    have w1 : IntKind.i64.wrap (((a + 20 : Nat) : Int) + 20) = ((a + 20 + 20 : Nat) : Int) := by rw [wrap_id (by omega) (by omega)]; omega
    obtain ⟨S1, R1, hSR, hS1⟩ : ∃ S1 R1, R0 = S1 ++ R1 ∧ S1.length = 20 := ⟨R0.take 20, R0.drop 20, (List.take_append_drop _ _).symm, by rw [List.length_take]; omega⟩
    subst hSR
    obtain ⟨r1, r2, r3⟩ := List.pairwise_append.1 hR
    (replace hb0 := true_and True); refine Go1.mk ?_; repeat' ((first | (with_reducible refine Go1.go ?_) | ((with_reducible first | refine brv_mk ?_ ?_ | refine gsplitD ?_ ?_ | refine gsplitG ?_ ?_) <;> intro h <;> (try simp only [Bool.not_eq_true', Bool.not_eq_false'] at h) <;> replace hb0 := h) | ((with_reducible refine isCall (f := 60) ?_); refine callA ?_) | ((with_reducible refine isCallS (f := 60) ?_); refine (ins_ok ul ho NN (hc.le hM1) P S1 R1 (P ++ (S1 ++ R1)) _ _ N (by simp) ha (by omega) r1 (fun x hx => hRN x (List.mem_append_left _ hx)) (by rw [List.length_append]; omega) hN2 (fun S2 M2 m2 p2 q2 => Stop.mk ?_))) | (refine And.intro ?_ ?_; (try simp only [sxO] at *); omega) | fail) <;> (try simp (maxSteps := 1000000) only [hb0, so_s1St, d1, w1, natV, cE_ment, cE_kill, cE_len, hasK_nil, Nat.mul_one, List.length_set, ↓hold_pre, awayP, runOps, regK, step1, newK, genR, appR, obl, buildR, Value.cells, closeK, keepH, outV, retK, ret1, retC, RetV, Option.getD, runD, stepD, afterK, undef, simprocAttr, sxB, ↓sxD, sxE, sxTab]))
    have m2 : Mem.le M1 M2 := m2
    have l2 := p2.length_eq
    refine Stop.go ?_
    (replace hb0 := true_and True); refine Go1.mk ?_; repeat' ((first | (with_reducible refine Go1.go ?_) | ((with_reducible first | refine brv_mk ?_ ?_ | refine gsplitD ?_ ?_ | refine gsplitG ?_ ?_) <;> intro h <;> (try simp only [Bool.not_eq_true', Bool.not_eq_false'] at h) <;> replace hb0 := h) | (refine And.intro ?_ ?_; (try simp only [sxO] at *); omega) | fail) <;> (try simp (maxSteps := 1000000) only [hb0, w1, natV, cE_ment, cE_kill, cE_len, hasK_nil, Nat.mul_one, List.length_set, ↓hold_pre, awayP, runOps, regK, step1, newK, genR, appR, obl, buildR, Value.cells, closeK, keepH, outV, retK, ret1, retC, RetV, Option.getD, runD, stepD, afterK, undef, simprocAttr, sxB, ↓sxD, sxE, sxTab]))
    rw [List.length_append] at hpl
    exact ⟨R1.length, so_s1St M2 ul N (P ++ S2 ++ R1) 20 (a + 20) (a + 20 + 20), by rw [List.length_append]; omega, le_sub ⟨rfl, rfl, rfl, rfl, rfl, rfl, trivial⟩ ⟨by first | rfl | simp [lkH], by first | rfl | simp [lkH], trivial⟩ rfl rfl rfl (by simp [keepLt, so_s1St, lkH]), M2, P ++ S2, R1, a + 20, rfl, by rw [List.length_append]; omega, hM1.trans m2, by
      refine List.Perm.trans ?_ hp
      rw [List.append_assoc]
      exact List.Perm.append_left _ (List.Perm.append_right _ p2), fun x hx y hy => by
      rcases List.mem_append.1 hx with hx | hx
      · exact hlt x hx y (List.mem_append_right _ hy)
      · exact r3 x (p2.subset hx) y hy, r2, fun R' h1 h2 => by
      rw [List.append_assoc]
      exact hdone _ (p2.append h1) (InBlk.cons S2 R' (by omega) q2 (fun x hx y hy => r3 x (p2.subset hx) y (h1.subset hy)) h2), rfl⟩
  have d1 : decide (((a + 20 : Nat) : Int) ≤ (N : Int)) = false := by rw [decide_eq_false_iff_not]; omega
  (replace hb0 := true_and True); refine Go1.mk ?_; repeat' ((first | (with_reducible refine Go1.go ?_) | ((with_reducible first | refine brv_mk ?_ ?_ | refine gsplitD ?_ ?_ | refine gsplitG ?_ ?_) <;> intro h <;> (try simp only [Bool.not_eq_true', Bool.not_eq_false'] at h) <;> replace hb0 := h) | ((with_reducible refine isCall (f := 60) ?_); refine callA ?_) | ((with_reducible refine isCallS (f := 60) ?_); refine (ins_ok ul ho NN (hc.le hM1) P R0 [] (P ++ R0) _ _ N (by simp) ha (by omega) hR hRN (by rw [List.length_append]; omega) hN2 (fun S2 M2 m2 p2 q2 => Stop.mk ?_))) | (refine And.intro ?_ ?_; (try simp only [sxO] at *); omega) | fail) <;> (try simp (maxSteps := 1000000) only [hb0, so_s1St, d1, natV, cE_ment, cE_kill, cE_len, hasK_nil, Nat.mul_one, List.length_set, ↓hold_pre, awayP, runOps, regK, step1, newK, genR, appR, obl, buildR, Value.cells, closeK, keepH, outV, retK, ret1, retC, RetV, Option.getD, runD, stepD, afterK, undef, simprocAttr, sxB, ↓sxD, sxE, sxTab]))
  have m2 : Mem.le M1 M2 := m2
  have l2 := p2.length_eq
  have hbk : InBlk c 20 (P ++ S2) := hdone S2 p2 (InBlk.last S2 (by omega) q2)
  have hM2 := hM1.trans m2
  have hpp : (P ++ S2).Perm D := (List.Perm.append_left _ p2).trans hp
  refine Stop.go ?_
  (replace hb0 := true_and True); refine Go1.mk ?_; repeat' ((first | (with_reducible refine Go1.go ?_) | ((with_reducible first | refine brv_mk ?_ ?_ | refine gsplitD ?_ ?_ | refine gsplitG ?_ ?_) <;> intro h <;> (try simp only [Bool.not_eq_true', Bool.not_eq_false'] at h) <;> replace hb0 := h) | (refine And.intro ?_ ?_; (try simp only [sxO] at *); omega) | fail) <;> (try simp (maxSteps := 1000000) only [hb0, natV, cE_ment, cE_kill, cE_len, hasK_nil, Nat.mul_one, List.length_set, ↓hold_pre, awayP, runOps, regK, step1, newK, genR, appR, obl, buildR, Value.cells, closeK, keepH, outV, retK, ret1, retC, RetV, Option.getD, runD, stepD, afterK, undef, simprocAttr, sxB, ↓sxD, sxE, sxTab]))
  refine ⟨fun d z => ∃ M' E k, d = N - k ∧ 0 < k ∧ Mem.le M M' ∧ E.Perm D ∧ InBlk c k E ∧ z = so_s2St M' ul N E k,
    ⟨N - 20, so_s2St M2 ul N (P ++ S2) 20, le_sub ⟨rfl, rfl, rfl, rfl, trivial⟩ ⟨by simp [lkH, so_s2St], by simp [lkH, so_s2St], trivial⟩ rfl rfl rfl (by simp [keepLt, so_s2St, lkH]), ⟨M2, _, 20, rfl, by omega, hM2, hpp, hbk, rfl⟩⟩, ?_⟩
  clear hp hlt hR hdone hRN hpp hbk hM2 d1
  rintro d z ⟨M3, E, k, rfl, hk, hM3, hE, hB, rfl⟩
  have hEl := hE.length_eq
  have hEN : ∀ x ∈ E, x < NN := fun x hx => hSN x (hE.subset hx)
  by_cases c2 : k < N
  · have d2 : decide ((k : Int) < (N : Int)) = true := by rw [decide_eq_true_eq]; omega
    have w2 : IntKind.i64.wrap (2 * (k : Int)) = ((2 * k : Nat) : Int) := by rw [wrap_id (by omega) (by omega)]; omega
    have w3 : IntKind.i64.wrap ((k : Int) * 2) = ((2 * k : Nat) : Int) := by rw [wrap_id (by omega) (by omega)]; omega
    (replace hb0 := true_and True); refine Go1.mk ?_; repeat' ((first | (with_reducible refine Go1.go ?_) | ((with_reducible first | refine brv_mk ?_ ?_ | refine gsplitD ?_ ?_ | refine gsplitG ?_ ?_) <;> intro h <;> (try simp only [Bool.not_eq_true', Bool.not_eq_false'] at h) <;> replace hb0 := h) | (refine And.intro ?_ ?_; (try simp only [sxO] at *); omega) | fail) <;> (try simp (maxSteps := 1000000) only [hb0, so_s2St, d2, w2, natV, cE_ment, cE_kill, cE_len, hasK_nil, Nat.mul_one, List.length_set, ↓hold_pre, awayP, runOps, regK, step1, newK, genR, appR, obl, buildR, Value.cells, closeK, keepH, outV, retK, ret1, retC, RetV, Option.getD, runD, stepD, afterK, undef, simprocAttr, sxB, ↓sxD, sxE, sxTab]))
    refine ⟨fun d z => ∃ M' P R9 a, d = R9.length ∧ a = P.length ∧ Mem.le M M' ∧ (P ++ R9).Perm D ∧ (∀ x ∈ P, ∀ y ∈ R9, x < y) ∧ InBlk c k R9 ∧ (∀ R', R'.Perm R9 → InBlk c (2 * k) R' → InBlk c (2 * k) (P ++ R')) ∧ z = so_s1St M' ul N (P ++ R9) k a (a + 2 * k),
      ⟨N, so_s1St M3 ul N E k 0 (0 + 2 * k), le_sub ⟨rfl, rfl, by rw [Nat.zero_add]; rfl, rfl, rfl, rfl, trivial⟩ ⟨by first | rfl | simp [lkH], by first | rfl | simp [lkH], trivial⟩ rfl rfl rfl (by simp [keepLt, so_s1St, lkH]), ⟨M3, [], E, 0, by omega, rfl, hM3, hE, by simp, hB, fun R' _ h => h, rfl⟩⟩, ?_⟩
    clear hE hB hEl hEN hM3 d2
    rintro d z ⟨M4, P, R0, a, rfl, ha, hM4, hp, hlt, hR, hdone, rfl⟩
    have hpl := hp.length_eq
    rw [List.length_append] at hpl
    have hRN : ∀ x ∈ R0, x < NN := fun x hx => hSN x (hp.subset (List.mem_append_right _ hx))
    have w4 : IntKind.i64.wrap ((a : Int) + (k : Int)) = ((a + k : Nat) : Int) := by rw [wrap_id (by omega) (by omega)]; omega
    by_cases c3 : a + 2 * k ≤ N
    · have d3 : decide (((a + 2 * k : Nat) : Int) ≤ (N : Int)) = true := by rw [decide_eq_true_eq]; omega
      have w5 : IntKind.i64.wrap (((a + 2 * k : Nat) : Int) + ((2 * k : Nat) : Int)) = ((a + 2 * k + 2 * k : Nat) : Int) := by rw [wrap_id (by omega) (by omega)]; omega
      obtain ⟨X, Y, R1, hXY, x1, y1, x2, y2, h3, h4, h5⟩ := blk_two hk hR (by omega)
      subst hXY
      simp only [List.length_append] at hpl
      (replace hb0 := true_and True); refine Go1.mk ?_; repeat' ((first | (with_reducible refine Go1.go ?_) | ((with_reducible first | refine brv_mk ?_ ?_ | refine gsplitD ?_ ?_ | refine gsplitG ?_ ?_) <;> intro h <;> (try simp only [Bool.not_eq_true', Bool.not_eq_false'] at h) <;> replace hb0 := h) | ((with_reducible refine isCall (f := 61) ?_); refine callA ?_) | ((with_reducible refine isCallS (f := 61) ?_); refine (mrg_all ul ho NN N hN2 (2 * k) M4 (hc.le hM4) P X Y R1 (P ++ (X ++ Y ++ R1)) _ _ _ _ _ (Mem.le.refl _) (by omega) (by simp) ha (by omega) (by omega) (by omega) (by omega) x2 y2 h3 (fun x hx => hRN x (List.mem_append_left _ hx)) (by simp only [List.length_append]; omega) (fun Z M5 m5 p5 q5 => Stop.mk ?_))) | (refine And.intro ?_ ?_; (try simp only [sxO] at *); omega) | fail) <;> (try simp (maxSteps := 1000000) only [hb0, so_s1St, d3, w2, w4, w5, natV, cE_ment, cE_kill, cE_len, hasK_nil, Nat.mul_one, List.length_set, ↓hold_pre, awayP, runOps, regK, step1, newK, genR, appR, obl, buildR, Value.cells, closeK, keepH, outV, retK, ret1, retC, RetV, Option.getD, runD, stepD, afterK, undef, simprocAttr, sxB, ↓sxD, sxE, sxTab]))
      have m5 : Mem.le M4 M5 := m5
      have l5 := p5.length_eq
      rw [List.length_append] at l5
      refine Stop.go ?_
      (replace hb0 := true_and True); refine Go1.mk ?_; repeat' ((first | (with_reducible refine Go1.go ?_) | ((with_reducible first | refine brv_mk ?_ ?_ | refine gsplitD ?_ ?_ | refine gsplitG ?_ ?_) <;> intro h <;> (try simp only [Bool.not_eq_true', Bool.not_eq_false'] at h) <;> replace hb0 := h) | (refine And.intro ?_ ?_; (try simp only [sxO] at *); omega) | fail) <;> (try simp (maxSteps := 1000000) only [hb0, w2, w5, natV, cE_ment, cE_kill, cE_len, hasK_nil, Nat.mul_one, List.length_set, ↓hold_pre, awayP, runOps, regK, step1, newK, genR, appR, obl, buildR, Value.cells, closeK, keepH, outV, retK, ret1, retC, RetV, Option.getD, runD, stepD, afterK, undef, simprocAttr, sxB, ↓sxD, sxE, sxTab]))
      exact ⟨R1.length, so_s1St M5 ul N (P ++ Z ++ R1) k (a + 2 * k) (a + 2 * k + 2 * k), by simp only [List.length_append]; omega, le_sub ⟨rfl, rfl, rfl, rfl, rfl, rfl, trivial⟩ ⟨by first | rfl | simp [lkH], by first | rfl | simp [lkH], trivial⟩ rfl rfl rfl (by simp [keepLt, so_s1St, lkH]), M5, P ++ Z, R1, a + 2 * k, rfl, by rw [List.length_append]; omega, hM4.trans m5, by
        refine List.Perm.trans ?_ hp
        rw [List.append_assoc]
        exact List.Perm.append_left _ (List.Perm.append_right _ p5), fun x hx y hy => by
        rcases List.mem_append.1 hx with hx | hx
        · exact hlt x hx y (List.mem_append_right _ hy)
        · exact h4 x (p5.subset hx) y hy, h5, fun R' h1 h2 => by
        rw [List.append_assoc]
        exact hdone _ (p5.append h1) (InBlk.cons Z R' (by omega) q5 (fun x hx y hy => h4 x (p5.subset hx) y (h1.subset hy)) h2), rfl⟩
    have d3 : decide (((a + 2 * k : Nat) : Int) ≤ (N : Int)) = false := by rw [decide_eq_false_iff_not]; omega
    by_cases c4 : a + k < N
    · have d4 : decide (((a + k : Nat) : Int) < (N : Int)) = true := by rw [decide_eq_true_eq]; omega
      obtain ⟨X, Y, hXY, x1, x2, h3, h5⟩ := blk_one hR (by omega)
      subst hXY
      rw [List.length_append] at hpl
      have y2 := blk_small h5 (by omega)
      (replace hb0 := true_and True); refine Go1.mk ?_; repeat' ((first | (with_reducible refine Go1.go ?_) | ((with_reducible first | refine brv_mk ?_ ?_ | refine gsplitD ?_ ?_ | refine gsplitG ?_ ?_) <;> intro h <;> (try simp only [Bool.not_eq_true', Bool.not_eq_false'] at h) <;> replace hb0 := h) | ((with_reducible refine isCall (f := 61) ?_); refine callA ?_) | ((with_reducible refine isCallS (f := 61) ?_); refine (mrg_all ul ho NN N hN2 (2 * k) M4 (hc.le hM4) P X Y [] (P ++ (X ++ Y)) _ _ _ _ _ (Mem.le.refl _) (by omega) (by simp) ha (by omega) (by omega) (by omega) (by omega) x2 y2 h3 hRN (by simp only [List.length_append]; omega) (fun Z M5 m5 p5 q5 => Stop.mk ?_))) | (refine And.intro ?_ ?_; (try simp only [sxO] at *); omega) | fail) <;> (try simp (maxSteps := 1000000) only [hb0, so_s1St, d3, d4, w4, natV, cE_ment, cE_kill, cE_len, hasK_nil, Nat.mul_one, List.length_set, ↓hold_pre, awayP, runOps, regK, step1, newK, genR, appR, obl, buildR, Value.cells, closeK, keepH, outV, retK, ret1, retC, RetV, Option.getD, runD, stepD, afterK, undef, simprocAttr, sxB, ↓sxD, sxE, sxTab]))
      have m5 : Mem.le M4 M5 := m5
      have l5 := p5.length_eq
      rw [List.length_append] at l5
      refine Stop.go ?_
      (replace hb0 := true_and True); refine Go1.mk ?_; repeat' ((first | (with_reducible refine Go1.go ?_) | ((with_reducible first | refine brv_mk ?_ ?_ | refine gsplitD ?_ ?_ | refine gsplitG ?_ ?_) <;> intro h <;> (try simp only [Bool.not_eq_true', Bool.not_eq_false'] at h) <;> replace hb0 := h) | (refine And.intro ?_ ?_; (try simp only [sxO] at *); omega) | fail) <;> (try simp (maxSteps := 1000000) only [hb0, w3, natV, cE_ment, cE_kill, cE_len, hasK_nil, Nat.mul_one, List.length_set, ↓hold_pre, awayP, runOps, regK, step1, newK, genR, appR, obl, buildR, Value.cells, closeK, keepH, outV, retK, ret1, retC, RetV, Option.getD, runD, stepD, afterK, undef, simprocAttr, sxB, ↓sxD, sxE, sxTab]))
      exact ⟨N - 2 * k, so_s2St M5 ul N (P ++ Z) (2 * k), by omega, le_sub ⟨rfl, rfl, rfl, rfl, trivial⟩ ⟨by simp [lkH, so_s2St], by simp [lkH, so_s2St], trivial⟩ rfl rfl rfl (by simp [keepLt, so_s2St, lkH]), M5, P ++ Z, 2 * k, rfl, by omega, hM4.trans m5, (List.Perm.append_left _ p5).trans hp, hdone Z p5 (InBlk.last Z (by omega) q5), rfl⟩
    · have d4 : decide (((a + k : Nat) : Int) < (N : Int)) = false := by rw [decide_eq_false_iff_not]; omega
      (replace hb0 := true_and True); refine Go1.mk ?_; repeat' ((first | (with_reducible refine Go1.go ?_) | ((with_reducible first | refine brv_mk ?_ ?_ | refine gsplitD ?_ ?_ | refine gsplitG ?_ ?_) <;> intro h <;> (try simp only [Bool.not_eq_true', Bool.not_eq_false'] at h) <;> replace hb0 := h) | (refine And.intro ?_ ?_; (try simp only [sxO] at *); omega) | fail) <;> (try simp (maxSteps := 1000000) only [hb0, so_s1St, d3, d4, w4, w3, natV, cE_ment, cE_kill, cE_len, hasK_nil, Nat.mul_one, List.length_set, ↓hold_pre, awayP, runOps, regK, step1, newK, genR, appR, obl, buildR, Value.cells, closeK, keepH, outV, retK, ret1, retC, RetV, Option.getD, runD, stepD, afterK, undef, simprocAttr, sxB, ↓sxD, sxE, sxTab]))
      exact ⟨N - 2 * k, so_s2St M4 ul N (P ++ R0) (2 * k), by omega, le_sub ⟨rfl, rfl, rfl, rfl, trivial⟩ ⟨by simp [lkH, so_s2St], by simp [lkH, so_s2St], trivial⟩ rfl rfl rfl (by simp [keepLt, so_s2St, lkH]), M4, P ++ R0, 2 * k, rfl, by omega, hM4, hp, hdone R0 (List.Perm.refl _) (InBlk.last R0 (by omega) (blk_small hR (by omega))), rfl⟩
  · have d2 : decide ((k : Int) < (N : Int)) = false := by rw [decide_eq_false_iff_not]; omega
    (replace hb0 := true_and True); refine Go1.mk ?_; repeat' ((first | (with_reducible refine Go1.go ?_) | ((with_reducible first | refine brv_mk ?_ ?_ | refine gsplitD ?_ ?_ | refine gsplitG ?_ ?_) <;> intro h <;> (try simp only [Bool.not_eq_true', Bool.not_eq_false'] at h) <;> replace hb0 := h) | (refine And.intro ?_ ?_; (try simp only [sxO] at *); omega) | fail) <;> (try simp (maxSteps := 1000000) only [hb0, so_s2St, d2, natV, cE_ment, cE_kill, cE_len, hasK_nil, Nat.mul_one, List.length_set, ↓hold_pre, awayP, runOps, regK, step1, newK, genR, appR, obl, buildR, Value.cells, closeK, keepH, outV, retK, ret1, retC, RetV, Option.getD, runD, stepD, afterK, undef, simprocAttr, sxB, ↓sxD, sxE, sxTab]))
    exact hK E M3 hM3 hE (blk_small hB (by omega))
theorem sort_ok (ho : CmpO c) (NN : Nat) (hc : CmpK M ul c NN) (D : List Nat) (N : Nat) (hS : D.Pairwise (· < ·)) (hSN : ∀ x ∈ D, x < NN) (hN : D.length = N) (hN2 : N < 1000000)
    (hK : ∀ Z M', Mem.le M M' → Z.Perm D → Z.Pairwise (ltS c) → K (.ext (.tuple #[])) [(113, 3, cE natV (Z)), (101, 23, [.ext ul])] M') :
    CallS Try.prog 52 [.slo 113 0 N 1, .fn 53 [.own 101 0]] [(113, 3, cE natV (D)), (101, 23, [.ext ul])] M [] K := by
  refine inlS (cs := []) Try.mixed Try.func52 rfl (by kernel_rfl) 200 rfl rfl ?_
  simp only [Try.f52]
  (replace hb0 := true_and True); refine Go1.mk ?_; repeat' ((first | (with_reducible refine Go1.go ?_) | ((with_reducible first | refine brv_mk ?_ ?_ | refine gsplitD ?_ ?_ | refine gsplitG ?_ ?_) <;> intro h <;> (try simp only [Bool.not_eq_true', Bool.not_eq_false'] at h) <;> replace hb0 := h) | ((with_reducible refine isCall (f := 58) ?_); refine callA ?_) | ((with_reducible refine isCallS (f := 58) ?_); refine (stab_ok ul ho NN hc D N hS hSN hN hN2 (fun Z M2 m2 p2 q2 => Stop.mk ?_))) | (refine And.intro ?_ ?_; (try simp only [sxO] at *); omega) | fail) <;> (try simp (maxSteps := 1000000) only [hb0, natV, cE_ment, cE_kill, cE_len, hasK_nil, Nat.mul_one, List.length_set, ↓hold_pre, awayP, runOps, regK, step1, newK, genR, appR, obl, buildR, Value.cells, closeK, keepH, outV, retK, ret1, retC, RetV, Option.getD, runD, stepD, afterK, undef, simprocAttr, sxB, ↓sxD, sxE, sxTab]))
  have hk := hK Z M2 m2 p2 q2
  refine Stop.go ?_
  (replace hb0 := true_and True); refine Go1.mk ?_; repeat' ((first | (with_reducible refine Go1.go ?_) | ((with_reducible first | refine brv_mk ?_ ?_ | refine gsplitD ?_ ?_ | refine gsplitG ?_ ?_) <;> intro h <;> (try simp only [Bool.not_eq_true', Bool.not_eq_false'] at h) <;> replace hb0 := h) | (refine And.intro ?_ ?_; (try simp only [sxO] at *); omega) | fail) <;> (try simp (maxSteps := 1000000) only [hb0, natV, cE_ment, cE_kill, cE_len, hasK_nil, Nat.mul_one, List.length_set, ↓hold_pre, awayP, runOps, regK, step1, newK, genR, appR, obl, buildR, Value.cells, closeK, keepH, outV, retK, ret1, retC, RetV, Option.getD, runD, stepD, afterK, undef, simprocAttr, sxB, ↓sxD, sxE, sxTab]))
  exact hk
end
end Go.Proofs.Ytgkfmlgfmcpebaa.Sx
namespace Go.Proofs.Ytgkfmlgfmcpebaa.Sx
open Go Go.RowKit
set_option linter.unusedVariables false
set_option linter.unusedSimpArgs false
set_option maxRecDepth 100000
set_option maxHeartbeats 8000000
attribute [local congr] fin_congr finG_congr stepG_congr step1_congr runOps_congr brv_congr obl_congr condK_congr LoopK_congr seqK_congr CutK_congr vc_congr DrawK_congr regK_congr CallK_congr AskK_congr newK_congr retC_congr ret1_congr retK_congr outV_congr closeK_congr genR_congr appR_congr finD_congr finGD_congr stepGD_congr stepD_congr CallK0_congr runD_congr okR_congr CallS_congr vcX_congr
attribute [local congr] Stop_congr
theorem FrzF.keep {K : AV → Hp → Mem → Prop} {H H2 : Hp} {M' : Mem} {k n : Nat} {T : TypeId} (cs : List Value) (h1 : lkH H k = none) (h2 : cs.length = n) (h3 : hasK k (mentH H2) = false) (h4 : lkH H2 k = none) (h : ∀ u M'', Mem.le M' M'' → SlM M'' 1 u n cs → FreshS M' u → K (.ext u) H2 M'') : FrzF K H (.slo k 0 n 1) ((k, T, cs.map .ext) :: H2) M' :=
  .inr ⟨none, [], [], k, n, 1, T, cs, H2, rfl, rfl, h4, h1, by omega, by simpa [mentL] using h3, h⟩
theorem cells_sl {u : Value} (h : isSl u = true) : u.cells = #[u] := by
  cases u <;> first | rfl | cases h
section
variable {M : Mem} {K : AV → Hp → Mem → Prop} {u : Value} {T : List TK}
theorem nanI_ok (a : Int) (hK : K (.ext (.bool false)) [] M) : CallS Try.prog 59 [.ext (.int .i64 a)] [] M [] K := by
  refine inlS (cs := []) Try.mixed Try.func59 rfl (by kernel_rfl) 0 rfl rfl ?_
  simp only [Try.f59]
  (replace hb0 := true_and True); refine Go1.mk ?_; repeat' ((first | (with_reducible refine Go1.go ?_) | ((with_reducible first | refine brv_mk ?_ ?_ | refine gsplitD ?_ ?_ | refine gsplitG ?_ ?_) <;> intro h <;> (try simp only [Bool.not_eq_true', Bool.not_eq_false'] at h) <;> replace hb0 := h) | (refine And.intro ?_ ?_; (try simp only [sxO] at *); omega) | fail) <;> (try simp (maxSteps := 1000000) only [hb0, ↓hold_pre, awayP, runOps, regK, step1, newK, genR, appR, obl, buildR, Value.cells, closeK, keepH, outV, retK, ret1, retC, RetV, Option.getD, runD, stepD, afterK, undef, simprocAttr, sxB, ↓sxD, sxE, sxTab]))
  simpa using hK
theorem cmpI_ok (a b : Int) (hK : K (.ext (.int .i64 (cmpZ a b))) [] M) : CallS Try.prog 54 [.ext (.int .i64 a), .ext (.int .i64 b)] [] M [] K := by
  refine inlS (cs := []) Try.mixed Try.func54 rfl (by kernel_rfl) 0 rfl rfl ?_
  simp only [Try.f54]
  unfold cmpZ at hK
  by_cases h1 : a < b
  · rw [if_pos h1] at hK
    have d1 : decide (a < b) = true := decide_eq_true h1
    (replace hb0 := true_and True); refine Go1.mk ?_; repeat' ((first | (with_reducible refine Go1.go ?_) | ((with_reducible first | refine brv_mk ?_ ?_ | refine gsplitD ?_ ?_ | refine gsplitG ?_ ?_) <;> intro h <;> (try simp only [Bool.not_eq_true', Bool.not_eq_false'] at h) <;> replace hb0 := h) | (((with_reducible refine isCall (f := 59) ?_); refine callA_nil (by kernel_rfl) ?_; refine (nanI_ok _ ?_))) | (refine And.intro ?_ ?_; (try simp only [sxO] at *); omega) | fail) <;> (try simp (maxSteps := 1000000) only [hb0, d1, ↓hold_pre, awayP, runOps, regK, step1, newK, genR, appR, obl, buildR, Value.cells, closeK, keepH, outV, retK, ret1, retC, RetV, Option.getD, runD, stepD, afterK, undef, simprocAttr, sxB, ↓sxD, sxE, sxTab]))
    exact hK
  · rw [if_neg h1] at hK
    have d1 : decide (a < b) = false := decide_eq_false h1
    by_cases h2 : b < a
    · rw [if_pos h2] at hK
      have d2 : decide (b < a) = true := decide_eq_true h2
      (replace hb0 := true_and True); refine Go1.mk ?_; repeat' ((first | (with_reducible refine Go1.go ?_) | ((with_reducible first | refine brv_mk ?_ ?_ | refine gsplitD ?_ ?_ | refine gsplitG ?_ ?_) <;> intro h <;> (try simp only [Bool.not_eq_true', Bool.not_eq_false'] at h) <;> replace hb0 := h) | (((with_reducible refine isCall (f := 59) ?_); refine callA_nil (by kernel_rfl) ?_; refine (nanI_ok _ ?_))) | (refine And.intro ?_ ?_; (try simp only [sxO] at *); omega) | fail) <;> (try simp (maxSteps := 1000000) only [hb0, d1, d2, ↓hold_pre, awayP, runOps, regK, step1, newK, genR, appR, obl, buildR, Value.cells, closeK, keepH, outV, retK, ret1, retC, RetV, Option.getD, runD, stepD, afterK, undef, simprocAttr, sxB, ↓sxD, sxE, sxTab]))
      exact hK
    · rw [if_neg h2] at hK
      have d2 : decide (b < a) = false := decide_eq_false h2
      (replace hb0 := true_and True); refine Go1.mk ?_; repeat' ((first | (with_reducible refine Go1.go ?_) | ((with_reducible first | refine brv_mk ?_ ?_ | refine gsplitD ?_ ?_ | refine gsplitG ?_ ?_) <;> intro h <;> (try simp only [Bool.not_eq_true', Bool.not_eq_false'] at h) <;> replace hb0 := h) | (((with_reducible refine isCall (f := 59) ?_); refine callA_nil (by kernel_rfl) ?_; refine (nanI_ok _ ?_))) | (refine And.intro ?_ ?_; (try simp only [sxO] at *); omega) | fail) <;> (try simp (maxSteps := 1000000) only [hb0, d1, d2, ↓hold_pre, awayP, runOps, regK, step1, newK, genR, appR, obl, buildR, Value.cells, closeK, keepH, outV, retK, ret1, retC, RetV, Option.getD, runD, stepD, afterK, undef, simprocAttr, sxB, ↓sxD, sxE, sxTab]))
      exact hK
theorem lonc_ok (hu : IsR M 4 TK.c u T) (hb : T.length < 1000000) : CmpK M u (cosC T) T.length := by
  intro x y M1 K hx hy hM hK
  refine inlS (cs := []) Try.mixed Try.func53 rfl (by kernel_rfl) 300 rfl rfl ?_
  simp only [Try.f53]
  have hu1 := hu.le hM
  have p1 := hu1.pt hx
  have p2 := hu1.pt hy
  have hnn := hu1.nn hx
  have a1 := hu1.atF (P := Try.prog) (T := 3) (fun _ => rfl) tk3 tz3 hx (o := 3) (v := .int .i64 T[x].cost) rfl
  have a2 := hu1.atF (P := Try.prog) (T := 3) (fun _ => rfl) tk3 tz3 hy (o := 3) (v := .int .i64 T[y].cost) rfl
  have b1 : (0 : Int) ≤ (x : Int) := by omega
  have b2 : (x : Int) < (T.length : Int) := by omega
  have b3 : (0 : Int) ≤ (y : Int) := by omega
  have b4 : (y : Int) < (T.length : Int) := by omega
  have hc : cosC T x y = cmpZ T[y].cost T[x].cost := by unfold cosC; rw [cosI_in hx, cosI_in hy]
  rw [hc] at hK
  clear hc
  generalize T[x] = lx at *
  generalize T[y] = ly at *
  (replace hb0 := true_and True); refine Go1.mk ?_; repeat' ((first | (with_reducible refine Go1.go ?_) | ((with_reducible first | refine brv_mk ?_ ?_ | refine gsplitD ?_ ?_ | refine gsplitG ?_ ?_) <;> intro h <;> (try simp only [Bool.not_eq_true', Bool.not_eq_false'] at h) <;> replace hb0 := h) | (((with_reducible refine isCall0 (f := 54) ?_); refine callA0_nil (by kernel_rfl) ?_; refine (cmpI_ok _ _ ?_))) | ((with_reducible refine isDraw [some 6, some 7, some 8, some 9, some 10, some 11, some 12, some 13, some 14, some 15, some 16, some 5] (by decide) ?_); refine draw_rule [(0, []), (1, [0]), (2, []), (3, []), (4, []), (5, [0, 4]), (6, [0, 4, 5]), (7, [0, 4]), (8, [0, 4]), (9, [0, 4]), (10, []), (11, [])] [[], [], [0, 1], [0, 1, 2], [0, 1, 2, 3], [], [], [5, 6], [5, 6, 7], [5, 6, 7, 8], [0, 1, 2, 3, 4, 5, 6, 7, 8, 9], [0, 1, 2, 3, 4, 5, 6, 7, 8, 9, 10]] [6, 7, 8, 9, 10, 11, 12, 13, 14, 15] [] (by kernel_rfl) (by kernel_rfl) (by kernel_rfl) (by kernel_rfl) (by exact trivial) ?_) | (refine And.intro ?_ ?_; (try simp only [sxO] at *); omega) | fail) <;> (try simp (maxSteps := 1000000) only [hb0, hu1.one, hu1.len, hu1.sl, hnn, p1, p2, a1, a2, b1, b2, b3, b4, ↓hold_pre, awayP, runOps, regK, step1, newK, genR, appR, obl, buildR, Value.cells, closeK, keepH, outV, retK, ret1, retC, RetV, Option.getD, runD, stepD, afterK, undef, simprocAttr, sxB, ↓sxD, sxE, sxTab]))
  exact hK M1 (Mem.le.refl _)
def loSt (M : Mem) (u : Value) (n i m : Nat) (D : List Nat) : St := { env := [(7, .ext (.int .i64 (i : Int))), (6, .ext (.int .i64 (n : Int))), (3, .slo 113 0 m 1), (1, .own 101 0)], hp := [(113, 3, cE natV D), (101, 23, [.ext u])], M := M, kb := 100, fx := [] }
theorem lon_ok (hu : IsR M 4 TK.c u T) (hb : T.length < 1000000) (hK : ∀ v Z M', Mem.le M M' → lonZ T Z → IsL M' natV v Z → FreshS M v → K (.ext v) [] M') :
    CallS Try.prog 39 [.ext u] [] M [] K := by
  refine CallS.frzF ?_
  refine inlS (cs := []) Try.mixed Try.func39 rfl (by kernel_rfl) 100 rfl rfl ?_
  simp only [Try.f39]
  have hce : u.cells = #[u] := cells_sl hu.sl
  unfold Value.cells at hce
  (replace hb0 := true_and True); refine Go1.mk ?_; repeat' ((first | (with_reducible refine Go1.go ?_) | ((with_reducible first | refine brv_mk ?_ ?_ | refine gsplitD ?_ ?_ | refine gsplitG ?_ ?_) <;> intro h <;> (try simp only [Bool.not_eq_true', Bool.not_eq_false'] at h) <;> replace hb0 := h) | (refine And.intro ?_ ?_; (try simp only [sxO] at *); omega) | fail) <;> (try simp (maxSteps := 1000000) only [hb0, hu.one, hu.len, hu.sl, hasK_nil, hce, ↓hold_pre, awayP, runOps, regK, step1, newK, genR, appR, obl, buildR, Value.cells, closeK, keepH, outV, retK, ret1, retC, RetV, Option.getD, runD, stepD, afterK, undef, simprocAttr, sxB, ↓sxD, sxE, sxTab]))
  refine ⟨fun d z => ∃ i, i ≤ T.length ∧ d = T.length - i ∧ z = loSt M u T.length i i (List.range i), ⟨T.length, loSt M u T.length 0 0 [], (le_nil 3 113 3 1 rfl (.inl (by simp [awayB, mentE, mentH, mentL, AV.ment, hasK]))).trans (le_sub ⟨rfl, rfl, rfl, rfl, trivial⟩ ⟨by simp [lkH, loSt, cE], by simp [lkH, loSt], trivial⟩ rfl rfl rfl (by simp [keepLt, loSt, lkH])), ⟨0, by omega, by omega, rfl⟩⟩, ?_⟩
  rintro d z ⟨i, hi, rfl, rfl⟩
  by_cases hlt : i < T.length
  · have d1 : decide ((i : Int) < (T.length : Int)) = true := by rw [decide_eq_true_eq]; omega
    have hw : IntKind.i64.wrap ((i : Int) + 1) = ((i + 1 : Nat) : Int) := succ_i (by omega)
    have hlen2 : (cE natV (List.range i)).length = i := by rw [cE_len, List.length_range]
    have hsn : cE natV (List.range i) ++ [.ext (.int .i64 (i : Int))] = cE natV (List.range (i + 1)) := by
      rw [List.range_succ]; exact cE_snoc natV _ i
    (replace hb0 := true_and True); refine Go1.mk ?_; repeat' ((first | (with_reducible refine Go1.go ?_) | ((with_reducible first | refine brv_mk ?_ ?_ | refine gsplitD ?_ ?_ | refine gsplitG ?_ ?_) <;> intro h <;> (try simp only [Bool.not_eq_true', Bool.not_eq_false'] at h) <;> replace hb0 := h) | (refine And.intro ?_ ?_; (try simp only [sxO] at *); omega) | fail) <;> (try simp (maxSteps := 1000000) only [hb0, loSt, d1, hw, hlen2, hsn, cE_ment, cE_kill, hasK_nil, ↓hold_pre, awayP, runOps, regK, step1, newK, genR, appR, obl, buildR, Value.cells, closeK, keepH, outV, retK, ret1, retC, RetV, Option.getD, runD, stepD, afterK, undef, simprocAttr, sxB, ↓sxD, sxE, sxTab]))
    exact ⟨T.length - (i + 1), loSt M u T.length (i + 1) (i + 1) (List.range (i + 1)), by omega, le_sub ⟨rfl, rfl, rfl, rfl, trivial⟩ ⟨by simp [lkH, loSt], by simp [lkH, loSt], trivial⟩ rfl rfl rfl (by simp [keepLt, loSt, lkH]), i + 1, by omega, rfl, rfl⟩
  · obtain rfl : i = T.length := by omega
    have d1 : decide ((T.length : Int) < (T.length : Int)) = false := by simp
    (replace hb0 := true_and True); refine Go1.mk ?_; repeat' ((first | (with_reducible refine Go1.go ?_) | ((with_reducible first | refine brv_mk ?_ ?_ | refine gsplitD ?_ ?_ | refine gsplitG ?_ ?_) <;> intro h <;> (try simp only [Bool.not_eq_true', Bool.not_eq_false'] at h) <;> replace hb0 := h) | ((with_reducible refine isCall (f := 52) ?_); refine callA ?_) | ((with_reducible refine isCallS (f := 52) ?_); refine (sort_ok u (cosC_ord T) T.length (lonc_ok hu hb) (List.range T.length) T.length (List.pairwise_lt_range) (fun x hx => by rw [List.mem_range] at hx; omega) List.length_range hb (fun Z M2 z1 z2 z3 => Stop.mk ?_))) | (refine And.intro ?_ ?_; (try simp only [sxO] at *); omega) | fail) <;> (try simp (maxSteps := 1000000) only [hb0, loSt, d1, cE_ment, cE_kill, hasK_nil, ↓hold_pre, awayP, runOps, regK, step1, newK, genR, appR, obl, buildR, Value.cells, closeK, keepH, outV, retK, ret1, retC, RetV, Option.getD, runD, stepD, afterK, undef, simprocAttr, sxB, ↓sxD, sxE, sxTab]))
    have hk := fun v M3 h1 h2 h3 => hK v Z M3 h1 ⟨z2, z3⟩ h2 h3
    have zl : (Z.map natV).length = T.length := by rw [List.length_map, z2.length_eq, List.length_range]
    refine Stop.go ?_
    (replace hb0 := true_and True); refine Go1.mk ?_; repeat' ((first | (with_reducible refine Go1.go ?_) | ((with_reducible first | refine brv_mk ?_ ?_ | refine gsplitD ?_ ?_ | refine gsplitG ?_ ?_) <;> intro h <;> (try simp only [Bool.not_eq_true', Bool.not_eq_false'] at h) <;> replace hb0 := h) | (refine And.intro ?_ ?_; (try simp only [sxO] at *); omega) | fail) <;> (try simp (maxSteps := 1000000) only [hb0, cE_ment, cE_kill, hasK_nil, ↓hold_pre, awayP, runOps, regK, step1, newK, genR, appR, obl, buildR, Value.cells, closeK, keepH, outV, retK, ret1, retC, RetV, Option.getD, runD, stepD, afterK, undef, simprocAttr, sxB, ↓sxD, sxE, sxTab]))
    refine FrzF.keep (Z.map natV) rfl zl (by simp [mentH, mentL, AV.ment, hasK]) rfl fun v M3 h1 h2 h3 => hk v M3 (z1.trans h1) ?_ (h3.le z1)
    rw [← zl, List.length_map] at h2
    exact h2
end
end Go.Proofs.Ytgkfmlgfmcpebaa.Sx
namespace Go.Proofs.Ytgkfmlgfmcpebaa.Sx
open Go Go.RowKit
set_option linter.unusedVariables false
set_option linter.unusedSimpArgs false
set_option maxRecDepth 100000
set_option maxHeartbeats 8000000
attribute [local congr] fin_congr finG_congr stepG_congr step1_congr runOps_congr brv_congr obl_congr condK_congr LoopK_congr seqK_congr CutK_congr vc_congr DrawK_congr regK_congr CallK_congr AskK_congr newK_congr retC_congr ret1_congr retK_congr outV_congr closeK_congr genR_congr appR_congr finD_congr finGD_congr stepGD_congr stepD_congr CallK0_congr runD_congr okR_congr CallS_congr vcX_congr
attribute [local congr] Stop_congr
end Go.Proofs.Ytgkfmlgfmcpebaa.Sx
namespace Go.Proofs.Ytgkfmlgfmcpebaa.Sx
open Go Go.RowKit
set_option linter.unusedVariables false
set_option linter.unusedSimpArgs false
set_option maxRecDepth 100000
set_option maxHeartbeats 8000000
attribute [local congr] fin_congr finG_congr stepG_congr step1_congr runOps_congr brv_congr obl_congr condK_congr LoopK_congr seqK_congr CutK_congr vc_congr DrawK_congr regK_congr CallK_congr AskK_congr newK_congr retC_congr ret1_congr retK_congr outV_congr closeK_congr genR_congr appR_congr finD_congr finGD_congr stepGD_congr stepD_congr CallK0_congr runD_congr okR_congr CallS_congr vcX_congr
attribute [local congr] Stop_congr
theorem subH_no (H : Hp) : subH H [] = [] := by
  induction H with
  | nil => rfl
  | cons x H ih => obtain ⟨k, y⟩ := x; simp [subH, ih, hasK]
theorem callA0_no {P : Program} {f : FuncId} {args : List AV} {s : St} {d : Option Nat} {K : St → Prop} (hm : mentL args = []) (h : CallS P f args [] s.M [] (afterK s d [] K)) : CallK0 P f args s d K := callA0_nil (by rw [hm]; simp [reachK, cellsK, subH_no]) h
theorem normL_exts : ∀ l : List Value, normL (l.map .ext) = l.map .ext
  | [] => rfl
  | v :: l => by simp only [List.map_cons, normL, normA, normL_exts l]
theorem repN_nil (n : Nat) : (repN [.slice none 0 0] n).map AV.ext = List.replicate n (.ext (.slice none 0 0)) := by
  induction n with
  | zero => rfl
  | succ n ih => simp only [repN, List.map_append, ih, List.replicate_succ]; rfl
def bstI : Option Nat → Int
  | none => -1
  | some b => (b : Int)
def end8 (m : Nat) (E : List Nat) : List AV := cE natV (E ++ List.replicate (8 - m) 0)
theorem end8_zero {m : Nat} (h : m ≤ 8) : end8 m (List.replicate m 0) = [.ext (.int .i64 0), .ext (.int .i64 0), .ext (.int .i64 0), .ext (.int .i64 0), .ext (.int .i64 0), .ext (.int .i64 0), .ext (.int .i64 0), .ext (.int .i64 0)] := by
  unfold end8
  rw [List.replicate_append_replicate, show m + (8 - m) = 8 by omega]
  rfl
theorem end8_at {m r : Nat} {E : List Nat} (hE : E.length = m) (h : r < m) : (end8 m E)[r]? = some (.ext (.int .i64 ((E.getD r 0 : Nat) : Int))) := by
  unfold end8 cE
  rw [List.getElem?_map, List.getElem?_map, List.getElem?_append_left (by omega), List.getElem?_eq_getElem (by omega), List.getD_eq_getElem?_getD, List.getElem?_eq_getElem (by omega)]
  rfl
theorem end8_set {m r : Nat} {E : List Nat} (hE : E.length = m) (h : r < m) (x : Nat) : (end8 m E).set r (.ext (.int .i64 (x : Int))) = end8 m (E.set r x) := by
  unfold end8
  have := cE_set natV (E ++ List.replicate (8 - m) 0) r x
  rw [List.set_append_left _ _ (by omega)] at this
  exact this
theorem end8_len {m : Nat} {E : List Nat} (hE : E.length = m) (h : m ≤ 8) : (end8 m E).length = 8 := by
  unfold end8
  rw [cE_len, List.length_append, List.length_replicate]; omega
theorem end8_ment (m : Nat) (E : List Nat) : mentL (end8 m E) = [] := cE_ment _ _
theorem end8_kill (k m : Nat) (E : List Nat) : killL k (end8 m E) = end8 m E := cE_kill _ _ _
theorem mentL_rep (n : Nat) (v : Value) : mentL (List.replicate n (.ext v)) = [] := by
  rw [← List.map_replicate]; exact mentL_ext _
def LsP (P : List (List Nat)) : List (List Value) := P.map fun l => l.map natV
theorem LsP_at {P : List (List Nat)} {b : Nat} (h : b < (LsP P).length) : (LsP P)[b] = (P.getD b []).map natV := by
  have h2 : b < P.length := by simpa [LsP] using h
  rw [List.getD_eq_getElem?_getD, List.getElem?_eq_getElem h2]
  simp [LsP]
theorem setP_le {P : List (List Nat)} {k b i : Nat} (h : ∀ l ∈ P, l.length ≤ k) (h2 : (P.getD b []).length ≤ k) : ∀ l ∈ P.set b (P.getD b [] ++ [i]), l.length ≤ k + 1 := fun l hl => by
  rcases List.mem_or_eq_of_mem_set hl with hm | rfl
  · have := h l hm; omega
  · rw [List.length_append]; simp only [List.length_cons, List.length_nil]; omega
theorem setE_le {E : List Nat} {k b y c : Nat} (h : ∀ x ∈ E, x ≤ k * c) (h2 : y ≤ (k + 1) * c) : ∀ x ∈ E.set b y, x ≤ (k + 1) * c := fun x hx => by
  rcases List.mem_or_eq_of_mem_set hx with hm | rfl
  · exact Nat.le_trans (h x hm) (Nat.mul_le_mul_right c (Nat.le_succ k))
  · exact h2
theorem fam_lk {b q : Nat} {x y z w : TypeId × List AV} {F : Hp} {j k1 k2 k3 : Nat} (hj : q ≤ j) (h1 : k1 < q) (h2 : k2 < q) (h3 : k3 < q) : lkH ((b + q, x) :: (k1, y) :: (k2, z) :: (k3, w) :: F) j = if j = b + q then some x else lkH F j := by
  simp only [lkH]
  by_cases e : j = b + q
  · rw [if_pos e.symm, if_pos e]
  · rw [if_neg (fun h => e h.symm), if_neg (by omega), if_neg (by omega), if_neg (by omega), if_neg e]
theorem LsP_set (P : List (List Nat)) (b : Nat) (l : List Nat) : LsP (P.set b l) = (LsP P).set b (l.map natV) := by unfold LsP; rw [List.map_set]
theorem dropH_no (H : Hp) : dropH [] H = H := by
  induction H with
  | nil => rfl
  | cons x H ih => obtain ⟨k, y⟩ := x; simp [dropH, ih, lkH]
theorem LsP_rep (m : Nat) : LsP (List.replicate m []) = List.replicate m [] := by unfold LsP; rw [List.map_replicate]; rfl
section
variable {M : Mem} {K : AV → Hp → Mem → Prop} {u v : Value} {T : List TK} {f : FuncId} {cv : List Value}
def dvH (m : Nat) (E : List Nat) (P : List (List Nat)) : Hp := (508, 61, end8 m E) :: (515, 22, famC 1000 (LsP P)) :: famH 1000 3 (LsP P) []
theorem subHp_dv (m : Nat) (E : List Nat) (P : List (List Nat)) : subHp (dvH m E P) (dvH m E P) := ⟨by simp [dvH, lkH], by simp [dvH, lkH], subHp_fam (fun i hi => by unfold dvH; simp only [lkH]; rw [if_neg (by omega), if_neg (by omega)]; exact lkH_famI hi) trivial⟩
theorem keepLt_dv (m : Nat) (E : List Nat) (P : List (List Nat)) {z : Hp} : keepLt 500 z (dvH m E P) := by
  unfold dvH
  simp only [keepLt]
  exact ⟨.inl (by omega), .inl (by omega), keepLt_fam (by omega) trivial⟩
def dvSt (M : Mem) (u v : Value) (f : FuncId) (cv : List Value) (m n k : Nat) (E : List Nat) (P : List (List Nat)) : St := { env := [(19, .ext (.int .i64 (k : Int))), (18, .ext (.int .i64 (n : Int))), (17, .ext v), (9, .slo 515 0 m 1), (8, .own 508 0), (2, .fn f (cv.map .ext)), (1, .ext (.int .i64 (m : Int))), (0, .ext u)], hp := dvH m E P, M := M, kb := 500, fx := [] }
def dvIn (M : Mem) (u v : Value) (f : FuncId) (cv : List Value) (m n k : Nat) (E : List Nat) (P : List (List Nat)) (i r : Nat) (b : Option Nat) : St := { env := [(24, .ext (.int .i64 (r : Int))), (23, .ext (.int .i64 (m : Int))), (12, .ext (.int .i64 (bstI b))), (11, .ext (.int .i64 (i : Int))), (19, .ext (.int .i64 (k : Int))), (18, .ext (.int .i64 (n : Int))), (17, .ext v), (9, .slo 515 0 m 1), (8, .own 508 0), (2, .fn f (cv.map .ext)), (1, .ext (.int .i64 (m : Int))), (0, .ext u)], hp := dvH m E P, M := M, kb := 500, fx := [] }
theorem div_ok {may : Nat → Nat → Bool} {m : Nat} (hcb : callsB Try.prog f = true) (hu : IsR M 4 TK.c u T) (hc : chkTL T = true) (hm1 : 1 ≤ m) (hm8 : m ≤ 8)
    (hmay : ∀ M1 (r i : Nat) (K : AV → Hp → Mem → Prop), Mem.le M M1 → r < m → i < T.length → K (.ext (.bool (may r i))) [] M1 → CallS Try.prog f (.ext (.int .i64 (r : Int)) :: .ext (.int .i64 (i : Int)) :: cv.map .ext) [] M1 [] K)
    (hK1 : ∀ M' U P, Mem.le M M' → divP T m may (some P) → LLF M M' U (LsP P) → K (.ext (.tuple #[U, .int .i64 0])) [] M') (hK2 : ∀ M', Mem.le M M' → divP T m may none → K (.ext (.tuple #[.slice none 0 0, .int .i64 18])) [] M') :
    CallS Try.prog 35 [.ext u, .ext (.int .i64 (m : Int)), .fn f (cv.map .ext)] [] M [] K := by
  obtain ⟨hT64, hTc⟩ := chkTL_parts hc
  refine CallS.frzO ?_
  refine inlS (cs := []) Try.mixed Try.func35 rfl (by kernel_rfl) 500 rfl rfl ?_
  simp only [Try.f35]
  have t1 := Int.toNat_natCast m
  have t2 := repN_nil m
  (replace hb0 := true_and True); refine Go1.mk ?_; repeat' ((first | (with_reducible refine Go1.go ?_) | ((with_reducible first | refine brv_mk ?_ ?_ | refine gsplitD ?_ ?_ | refine gsplitG ?_ ?_) <;> intro h <;> (try simp only [Bool.not_eq_true', Bool.not_eq_false'] at h) <;> replace hb0 := h) | ((first | ((with_reducible refine isCall (f := 39) ?_); refine callA_nil (by kernel_rfl) ?_) | ((with_reducible refine isCall0 (f := 39) ?_); refine callA0_nil (by kernel_rfl) ?_)); refine (lon_ok hu (by omega) (fun v Z M1 m1 z1 z2 z3 => Stop.mk ?_))) | (refine And.intro ?_ ?_; (try simp only [sxO] at *); omega) | fail) <;> (try simp (maxSteps := 1000000) only [hb0, hu.one, hu.len, hu.sl, hasK_nil, t1, t2, mentL_ext, List.nil_append, ↓hold_pre, awayP, runOps, regK, step1, newK, genR, appR, obl, buildR, Value.cells, closeK, keepH, outV, retK, ret1, retC, RetV, Option.getD, runD, stepD, afterK, undef, simprocAttr, sxB, ↓sxD, sxE, sxTab]))
  have m1 : Mem.le M M1 := m1
  have z1 : lonZ T Z := z1
  have z2 : IsL M1 natV v Z := z2
  have hu1 := hu.le m1
  clear z3 t1 t2
  refine Stop.go ?_
  (replace hb0 := true_and True); refine Go1.mk ?_; repeat' ((first | (with_reducible refine Go1.go ?_) | ((with_reducible first | refine brv_mk ?_ ?_ | refine gsplitD ?_ ?_ | refine gsplitG ?_ ?_) <;> intro h <;> (try simp only [Bool.not_eq_true', Bool.not_eq_false'] at h) <;> replace hb0 := h) | (refine And.intro ?_ ?_; (try simp only [sxO] at *); omega) | fail) <;> (try simp (maxSteps := 1000000) only [hb0, hu1.one, z2.one, z2.len, z2.sl, hasK_nil, mentL_ext, List.nil_append, ↓hold_pre, awayP, runOps, regK, step1, newK, genR, appR, obl, buildR, Value.cells, closeK, keepH, outV, retK, ret1, retC, RetV, Option.getD, runD, stepD, afterK, undef, simprocAttr, sxB, ↓sxD, sxE, sxTab]))
  have hZl : Z.length = T.length := by rw [z1.1.length_eq, List.length_range]
  have hZin := lonZ_in z1
  refine ⟨fun d z => ∃ k E P, d = Z.length - k ∧ k ≤ Z.length ∧ E.length = m ∧ P.length = m ∧ (∀ x ∈ E, x ≤ k * 1048576) ∧ (∀ l ∈ P, l.length ≤ k) ∧ giveS may (cosN T) m Z (List.replicate m 0) (List.replicate m []) = giveS may (cosN T) m (Z.drop k) E P ∧ z = dvSt M1 u v f cv m Z.length k E P,
    ⟨Z.length, dvSt M1 u v f cv m Z.length 0 (List.replicate m 0) (List.replicate m []), (le_fam (O := 515) (b := 1000) (n := m) 3 (T0 := 22) (by simp [lkH]) (by simp [ltB, mentE, AV.ment, mentL_ext]) (by simp [ltB, mentH, mentL, AV.ment, mentL_rep]) (by simp [ltB]) (by simp)).trans (le_sub ⟨rfl, rfl, rfl, rfl, rfl, rfl, rfl, rfl, trivial⟩ ⟨by rw [lkH_fam (by omega), ← end8_zero hm8]; simp [lkH, upH], by rw [lkH_fam (by omega)]; simp [lkH, upH, LsP], by
      rw [LsP_rep]
      exact subHp_fam (fun i hi => lkH_famI hi) trivial⟩ rfl rfl rfl (keepLt_fam (show 500 ≤ 1000 by omega) (by simp [keepLt, upH]))),
    ⟨0, _, _, by omega, by omega, List.length_replicate, List.length_replicate, fun x hx => by rw [(List.mem_replicate.1 hx).2]; omega, fun l hl => by rw [(List.mem_replicate.1 hl).2]; simp, rfl, rfl⟩⟩, ?_⟩
  rintro d z ⟨k, E, P, rfl, hk, hE, hP, hEb, hPb, hg, rfl⟩
  by_cases hlt : k < Z.length
  case neg =>
    obtain rfl : k = Z.length := by omega
    have d1 : decide ((Z.length : Int) < (Z.length : Int)) = false := by simp
    (replace hb0 := true_and True); refine Go1.mk ?_; repeat' ((first | (with_reducible refine Go1.go ?_) | ((with_reducible first | refine brv_mk ?_ ?_ | refine gsplitD ?_ ?_ | refine gsplitG ?_ ?_) <;> intro h <;> (try simp only [Bool.not_eq_true', Bool.not_eq_false'] at h) <;> replace hb0 := h) | (refine And.intro ?_ ?_; (try simp only [sxO] at *); omega) | fail) <;> (try simp (maxSteps := 1000000) only [hb0, dvSt, dvH, d1, z2.one, z2.len, z2.sl, hasK_nil, mentL_ext, List.nil_append, ↓hold_pre, awayP, runOps, regK, step1, newK, genR, appR, obl, buildR, Value.cells, closeK, keepH, retK, ret1, retC, RetV, Option.getD, runD, stepD, afterK, undef, simprocAttr, sxB, ↓sxD, sxE, sxTab]))
    rw [List.drop_length] at hg
    have hlk : ∀ i (hi : i < (LsP P).length), lkH (dvH m E P) (i + 1000) = some (3, (LsP P)[i].map .ext) := fun i hi => by
      unfold dvH
      simp only [lkH]
      rw [if_neg (by omega), if_neg (by omega)]
      exact lkH_famI hi
    refine outV_fam (O := 515) (b := 1000) (Ls := LsP P) (T0 := 22) (T := 3) rfl (onceH_fam (A := [(508, 61, end8 m E), (515, 22, famC 1000 (LsP P))]) (fun q T' cs hq => ?_) (by simp [ltB, keysH])) (by simp [lkH]) hlk (by unfold LsP; rw [List.length_map, hP]) fun U M'' hM hU => ?_
    · simp only [List.mem_cons, Prod.mk.injEq, List.not_mem_nil, or_false] at hq
      rcases hq with ⟨rfl, rfl, rfl⟩ | ⟨rfl, rfl, rfl⟩ <;> simp [lkH]
    · exact hK1 M'' U P (m1.trans hM) ⟨Z, z1, by rw [hg]; rfl⟩ (hU.older m1)
  have d1 : decide ((k : Int) < (Z.length : Int)) = true := by rw [decide_eq_true_eq]; omega
  have b1 : (0 : Int) ≤ (k : Int) := by omega
  have b2 : (k : Int) < (Z.length : Int) := by omega
  have znn := z2.nn hlt
  have zat := z2.at (P := Try.prog) (T := 3) tk3 tz3 hlt
  have zat : lookM Try.prog 3 M1 (elemP v 1 k) = some (.int .i64 (Z[k] : Int)) := zat
  have hi := hZin _ (List.getElem_mem hlt)
  have hdr : Z.drop k = Z[k] :: Z.drop (k + 1) := (List.getElem_cons_drop hlt).symm
  rw [hdr] at hg
  clear hdr
  generalize Z[k] = i at *
  (replace hb0 := true_and True); refine Go1.mk ?_; repeat' ((first | (with_reducible refine Go1.go ?_) | ((with_reducible first | refine brv_mk ?_ ?_ | refine gsplitD ?_ ?_ | refine gsplitG ?_ ?_) <;> intro h <;> (try simp only [Bool.not_eq_true', Bool.not_eq_false'] at h) <;> replace hb0 := h) | (refine And.intro ?_ ?_; (try simp only [sxO] at *); omega) | fail) <;> (try simp (maxSteps := 1000000) only [hb0, dvSt, d1, b1, b2, znn, zat, z2.one, z2.len, z2.sl, hasK_nil, mentL_ext, List.nil_append, ↓hold_pre, awayP, runOps, regK, step1, newK, genR, appR, obl, buildR, Value.cells, closeK, keepH, outV, retK, ret1, retC, RetV, Option.getD, runD, stepD, afterK, undef, simprocAttr, sxB, ↓sxD, sxE, sxTab]))
  refine ⟨fun d z => ∃ r, d = m - r ∧ r ≤ m ∧ z = dvIn M1 u v f cv m Z.length k E P i r (bst (fun q => may q i) E r),
    ⟨m, dvIn M1 u v f cv m Z.length k E P i 0 none, le_sub ⟨rfl, rfl, rfl, rfl, rfl, rfl, rfl, rfl, rfl, rfl, rfl, rfl, trivial⟩ (by exact subHp_dv m E P) rfl rfl rfl (by exact keepLt_dv m E P), ⟨0, by omega, by omega, rfl⟩⟩, ?_⟩
  rintro d z ⟨r, rfl, hr, rfl⟩
  by_cases hrl : r < m
  · have c1 : decide ((r : Int) < (m : Int)) = true := by rw [decide_eq_true_eq]; omega
    have c2 : (0 : Int) ≤ (r : Int) := by omega
    have c3 : (r : Int) < 8 := by omega
    have w1 : IntKind.i64.wrap ((r : Int) + 1) = ((r + 1 : Nat) : Int) := succ_i (by omega)
    have a1 := end8_at hE hrl
    have l8 := end8_len hE hm8
    have hend : ∀ b' s'', bst (fun q => may q i) E (r + 1) = b' → Le s'' (dvIn M1 u v f cv m Z.length k E P i (r + 1) b') → ∃ m' z, m' < m - r ∧ Le s'' z ∧ (∃ r, m' = m - r ∧ r ≤ m ∧ z = dvIn M1 u v f cv m Z.length k E P i r (bst (fun q => may q i) E r)) := fun b' s'' e h => ⟨m - (r + 1), _, by omega, h, r + 1, rfl, by omega, by rw [e]⟩
    have a0 := end8_at hE (show 0 < m by omega)
    cases hbs : bst (fun q => may q i) E r with
    | none =>
      cases hmy : may r i with
      | false =>
        have hb : bst (fun q => may q i) E (r + 1) = none := by simp only [bst, hbs, hmy, Bool.false_eq_true, if_false]
        (replace hb0 := true_and True); refine Go1.mk ?_; repeat' ((first | (with_reducible refine Go1.go ?_) | ((with_reducible first | refine brv_mk ?_ ?_ | refine gsplitD ?_ ?_ | refine gsplitG ?_ ?_) <;> intro h <;> (try simp only [Bool.not_eq_true', Bool.not_eq_false'] at h) <;> replace hb0 := h) | ((with_reducible refine callA0_no (by simp [mentL, AV.ment, mentL_ext]) ?_); refine hmay _ r i _ m1 hrl hi ?_) | ((with_reducible refine isDraw [some 27, some 28, some 29, some 30, some 31, some 32, some 33, some 34, some 35, some 36, some 37, some 38, some 39, some 40, some 41, some 42, some 43] (by decide) ?_); refine draw_rule [(0, []), (1, []), (2, []), (3, []), (4, []), (5, []), (6, []), (7, []), (8, []), (9, []), (10, []), (11, [10]), (12, [10]), (13, [10]), (14, []), (15, []), (16, [])] [[], [], [], [0, 1, 2], [0, 1, 2, 3], [0, 1, 2, 3, 4], [0, 1, 2, 3, 4, 5], [0, 1, 2, 3, 4, 5, 6], [0, 1, 2, 3, 4, 5, 6, 7], [0, 1, 2, 3, 4, 5, 6, 7, 8], [0, 1, 2, 3, 4, 5, 6, 7, 8, 9], [0, 1, 2, 3, 4, 5, 6, 7], [0, 1, 2, 3, 4, 5, 6, 7, 11], [0, 1, 2, 3, 4, 5, 6, 7, 11, 12], [0, 1, 2, 3, 4, 5, 6, 7, 8, 9, 10, 11, 12, 13], [0, 1, 2, 3, 4, 5, 6, 7, 8, 9, 10, 11, 12, 13, 14], [0, 1, 2, 3, 4, 5, 6, 7, 8, 9, 10, 11, 12, 13, 14, 15]] [27, 28, 29, 35, 36, 37, 38, 39, 40] [] (by kernel_rfl) (by kernel_rfl) (by kernel_rfl) (by kernel_rfl) (by exact trivial) ?_) | ((with_reducible refine isDraw [some 48, some 49, some 50, some 51, some 52, some 53, some 54, some 55, some 56, some 57, none] (by decide) ?_); refine draw_rule [(0, []), (1, []), (2, []), (3, [2]), (4, [2]), (5, [2]), (6, [2]), (7, [2]), (8, []), (9, []), (10, [])] [[], [0], [0, 1], [], [], [3, 4], [3, 4, 5], [3, 4, 5, 6], [0, 1, 2, 3, 4, 5, 6, 7], [0, 1, 2, 3, 4, 5, 6, 7, 8], [0, 1, 2, 3, 4, 5, 6, 7, 8, 9]] [48, 49, 50, 51, 52, 53, 54, 55] [] (by kernel_rfl) (by kernel_rfl) (by kernel_rfl) (by kernel_rfl) (by exact trivial) ?_) | (refine And.intro ?_ ?_; (try simp only [sxO] at *); omega) | fail) <;> (try simp (maxSteps := 1000000) only [hb0, dvIn, dropH_no, subH_no, Nat.mul_one, bstI, dvH, c1, w1, a1, l8, c2, c3, a0, hmy, hcb, normL_exts, List.cons_append, hasK_nil, mentL_ext, List.nil_append, ↓hold_pre, awayP, runOps, regK, step1, newK, genR, appR, obl, buildR, Value.cells, closeK, keepH, outV, retK, ret1, retC, RetV, Option.getD, runD, stepD, afterK, undef, simprocAttr, sxB, ↓sxD, sxE, sxTab]))
        exact hend _ _ hb (le_sub ⟨rfl, rfl, rfl, rfl, rfl, rfl, rfl, rfl, rfl, rfl, rfl, rfl, trivial⟩ (by exact subHp_dv m E P) rfl rfl rfl (by exact keepLt_dv m E P))
      | true =>
        have hb : bst (fun q => may q i) E (r + 1) = some r := by simp only [bst, hbs, hmy, if_true]
        (replace hb0 := true_and True); refine Go1.mk ?_; repeat' ((first | (with_reducible refine Go1.go ?_) | ((with_reducible first | refine brv_mk ?_ ?_ | refine gsplitD ?_ ?_ | refine gsplitG ?_ ?_) <;> intro h <;> (try simp only [Bool.not_eq_true', Bool.not_eq_false'] at h) <;> replace hb0 := h) | ((with_reducible refine callA0_no (by simp [mentL, AV.ment, mentL_ext]) ?_); refine hmay _ r i _ m1 hrl hi ?_) | ((with_reducible refine isDraw [some 27, some 28, some 29, some 30, some 31, some 32, some 33, some 34, some 35, some 36, some 37, some 38, some 39, some 40, some 41, some 42, some 43] (by decide) ?_); refine draw_rule [(0, []), (1, []), (2, []), (3, []), (4, []), (5, []), (6, []), (7, []), (8, []), (9, []), (10, []), (11, [10]), (12, [10]), (13, [10]), (14, []), (15, []), (16, [])] [[], [], [], [0, 1, 2], [0, 1, 2, 3], [0, 1, 2, 3, 4], [0, 1, 2, 3, 4, 5], [0, 1, 2, 3, 4, 5, 6], [0, 1, 2, 3, 4, 5, 6, 7], [0, 1, 2, 3, 4, 5, 6, 7, 8], [0, 1, 2, 3, 4, 5, 6, 7, 8, 9], [0, 1, 2, 3, 4, 5, 6, 7], [0, 1, 2, 3, 4, 5, 6, 7, 11], [0, 1, 2, 3, 4, 5, 6, 7, 11, 12], [0, 1, 2, 3, 4, 5, 6, 7, 8, 9, 10, 11, 12, 13], [0, 1, 2, 3, 4, 5, 6, 7, 8, 9, 10, 11, 12, 13, 14], [0, 1, 2, 3, 4, 5, 6, 7, 8, 9, 10, 11, 12, 13, 14, 15]] [27, 28, 29, 35, 36, 37, 38, 39, 40] [] (by kernel_rfl) (by kernel_rfl) (by kernel_rfl) (by kernel_rfl) (by exact trivial) ?_) | ((with_reducible refine isDraw [some 48, some 49, some 50, some 51, some 52, some 53, some 54, some 55, some 56, some 57, none] (by decide) ?_); refine draw_rule [(0, []), (1, []), (2, []), (3, [2]), (4, [2]), (5, [2]), (6, [2]), (7, [2]), (8, []), (9, []), (10, [])] [[], [0], [0, 1], [], [], [3, 4], [3, 4, 5], [3, 4, 5, 6], [0, 1, 2, 3, 4, 5, 6, 7], [0, 1, 2, 3, 4, 5, 6, 7, 8], [0, 1, 2, 3, 4, 5, 6, 7, 8, 9]] [48, 49, 50, 51, 52, 53, 54, 55] [] (by kernel_rfl) (by kernel_rfl) (by kernel_rfl) (by kernel_rfl) (by exact trivial) ?_) | (refine And.intro ?_ ?_; (try simp only [sxO] at *); omega) | fail) <;> (try simp (maxSteps := 1000000) only [hb0, dvIn, dropH_no, subH_no, Nat.mul_one, bstI, dvH, c1, w1, a1, l8, c2, c3, a0, hmy, hcb, normL_exts, List.cons_append, hasK_nil, mentL_ext, List.nil_append, ↓hold_pre, awayP, runOps, regK, step1, newK, genR, appR, obl, buildR, Value.cells, closeK, keepH, outV, retK, ret1, retC, RetV, Option.getD, runD, stepD, afterK, undef, simprocAttr, sxB, ↓sxD, sxE, sxTab]))
        exact hend _ _ hb (le_sub ⟨rfl, rfl, rfl, rfl, rfl, rfl, rfl, rfl, rfl, rfl, rfl, rfl, trivial⟩ (by exact subHp_dv m E P) rfl rfl rfl (by exact keepLt_dv m E P))
    | some b =>
      obtain ⟨hbr, _, _⟩ := bst_some hbs
      have a2 := end8_at hE (show b < m by omega)
      have c4 : decide ((b : Int) < 0) = false := by rw [decide_eq_false_iff_not]; omega
      have c5 : (0 : Int) ≤ (b : Int) := by omega
      have c6 : (b : Int) < 8 := by omega
      cases hmy : may r i with
      | false =>
        have hb : bst (fun q => may q i) E (r + 1) = some b := by simp only [bst, hbs, hmy, Bool.false_and, Bool.false_eq_true, if_false]
        (replace hb0 := true_and True); refine Go1.mk ?_; repeat' ((first | (with_reducible refine Go1.go ?_) | ((with_reducible first | refine brv_mk ?_ ?_ | refine gsplitD ?_ ?_ | refine gsplitG ?_ ?_) <;> intro h <;> (try simp only [Bool.not_eq_true', Bool.not_eq_false'] at h) <;> replace hb0 := h) | ((with_reducible refine callA0_no (by simp [mentL, AV.ment, mentL_ext]) ?_); refine hmay _ r i _ m1 hrl hi ?_) | ((with_reducible refine isDraw [some 27, some 28, some 29, some 30, some 31, some 32, some 33, some 34, some 35, some 36, some 37, some 38, some 39, some 40, some 41, some 42, some 43] (by decide) ?_); refine draw_rule [(0, []), (1, []), (2, []), (3, []), (4, []), (5, []), (6, []), (7, []), (8, []), (9, []), (10, []), (11, [10]), (12, [10]), (13, [10]), (14, []), (15, []), (16, [])] [[], [], [], [0, 1, 2], [0, 1, 2, 3], [0, 1, 2, 3, 4], [0, 1, 2, 3, 4, 5], [0, 1, 2, 3, 4, 5, 6], [0, 1, 2, 3, 4, 5, 6, 7], [0, 1, 2, 3, 4, 5, 6, 7, 8], [0, 1, 2, 3, 4, 5, 6, 7, 8, 9], [0, 1, 2, 3, 4, 5, 6, 7], [0, 1, 2, 3, 4, 5, 6, 7, 11], [0, 1, 2, 3, 4, 5, 6, 7, 11, 12], [0, 1, 2, 3, 4, 5, 6, 7, 8, 9, 10, 11, 12, 13], [0, 1, 2, 3, 4, 5, 6, 7, 8, 9, 10, 11, 12, 13, 14], [0, 1, 2, 3, 4, 5, 6, 7, 8, 9, 10, 11, 12, 13, 14, 15]] [27, 28, 29, 35, 36, 37, 38, 39, 40] [] (by kernel_rfl) (by kernel_rfl) (by kernel_rfl) (by kernel_rfl) (by exact trivial) ?_) | ((with_reducible refine isDraw [some 48, some 49, some 50, some 51, some 52, some 53, some 54, some 55, some 56, some 57, none] (by decide) ?_); refine draw_rule [(0, []), (1, []), (2, []), (3, [2]), (4, [2]), (5, [2]), (6, [2]), (7, [2]), (8, []), (9, []), (10, [])] [[], [0], [0, 1], [], [], [3, 4], [3, 4, 5], [3, 4, 5, 6], [0, 1, 2, 3, 4, 5, 6, 7], [0, 1, 2, 3, 4, 5, 6, 7, 8], [0, 1, 2, 3, 4, 5, 6, 7, 8, 9]] [48, 49, 50, 51, 52, 53, 54, 55] [] (by kernel_rfl) (by kernel_rfl) (by kernel_rfl) (by kernel_rfl) (by exact trivial) ?_) | (refine And.intro ?_ ?_; (try simp only [sxO] at *); omega) | fail) <;> (try simp (maxSteps := 1000000) only [hb0, dvIn, dropH_no, subH_no, Nat.mul_one, bstI, dvH, c1, w1, a1, l8, c2, c3, a2, c4, c5, c6, hmy, hcb, normL_exts, List.cons_append, hasK_nil, mentL_ext, List.nil_append, ↓hold_pre, awayP, runOps, regK, step1, newK, genR, appR, obl, buildR, Value.cells, closeK, keepH, outV, retK, ret1, retC, RetV, Option.getD, runD, stepD, afterK, undef, simprocAttr, sxB, ↓sxD, sxE, sxTab]))
        exact hend _ _ hb (le_sub ⟨rfl, rfl, rfl, rfl, rfl, rfl, rfl, rfl, rfl, rfl, rfl, rfl, trivial⟩ (by exact subHp_dv m E P) rfl rfl rfl (by exact keepLt_dv m E P))
      | true =>
        by_cases hlt2 : E.getD r 0 < E.getD b 0
        · have c7 : decide (((E.getD r 0 : Nat) : Int) < ((E.getD b 0 : Nat) : Int)) = true := by rw [decide_eq_true_eq]; omega
          have hb : bst (fun q => may q i) E (r + 1) = some r := by simp only [bst, hbs, hmy, Bool.true_and, decide_eq_true hlt2, if_true]
          (replace hb0 := true_and True); refine Go1.mk ?_; repeat' ((first | (with_reducible refine Go1.go ?_) | ((with_reducible first | refine brv_mk ?_ ?_ | refine gsplitD ?_ ?_ | refine gsplitG ?_ ?_) <;> intro h <;> (try simp only [Bool.not_eq_true', Bool.not_eq_false'] at h) <;> replace hb0 := h) | ((with_reducible refine callA0_no (by simp [mentL, AV.ment, mentL_ext]) ?_); refine hmay _ r i _ m1 hrl hi ?_) | ((with_reducible refine isDraw [some 27, some 28, some 29, some 30, some 31, some 32, some 33, some 34, some 35, some 36, some 37, some 38, some 39, some 40, some 41, some 42, some 43] (by decide) ?_); refine draw_rule [(0, []), (1, []), (2, []), (3, []), (4, []), (5, []), (6, []), (7, []), (8, []), (9, []), (10, []), (11, [10]), (12, [10]), (13, [10]), (14, []), (15, []), (16, [])] [[], [], [], [0, 1, 2], [0, 1, 2, 3], [0, 1, 2, 3, 4], [0, 1, 2, 3, 4, 5], [0, 1, 2, 3, 4, 5, 6], [0, 1, 2, 3, 4, 5, 6, 7], [0, 1, 2, 3, 4, 5, 6, 7, 8], [0, 1, 2, 3, 4, 5, 6, 7, 8, 9], [0, 1, 2, 3, 4, 5, 6, 7], [0, 1, 2, 3, 4, 5, 6, 7, 11], [0, 1, 2, 3, 4, 5, 6, 7, 11, 12], [0, 1, 2, 3, 4, 5, 6, 7, 8, 9, 10, 11, 12, 13], [0, 1, 2, 3, 4, 5, 6, 7, 8, 9, 10, 11, 12, 13, 14], [0, 1, 2, 3, 4, 5, 6, 7, 8, 9, 10, 11, 12, 13, 14, 15]] [27, 28, 29, 35, 36, 37, 38, 39, 40] [] (by kernel_rfl) (by kernel_rfl) (by kernel_rfl) (by kernel_rfl) (by exact trivial) ?_) | ((with_reducible refine isDraw [some 48, some 49, some 50, some 51, some 52, some 53, some 54, some 55, some 56, some 57, none] (by decide) ?_); refine draw_rule [(0, []), (1, []), (2, []), (3, [2]), (4, [2]), (5, [2]), (6, [2]), (7, [2]), (8, []), (9, []), (10, [])] [[], [0], [0, 1], [], [], [3, 4], [3, 4, 5], [3, 4, 5, 6], [0, 1, 2, 3, 4, 5, 6, 7], [0, 1, 2, 3, 4, 5, 6, 7, 8], [0, 1, 2, 3, 4, 5, 6, 7, 8, 9]] [48, 49, 50, 51, 52, 53, 54, 55] [] (by kernel_rfl) (by kernel_rfl) (by kernel_rfl) (by kernel_rfl) (by exact trivial) ?_) | (refine And.intro ?_ ?_; (try simp only [sxO] at *); omega) | fail) <;> (try simp (maxSteps := 1000000) only [hb0, dvIn, dropH_no, subH_no, Nat.mul_one, bstI, dvH, c1, w1, a1, l8, c2, c3, a2, c4, c5, c6, c7, hmy, hcb, normL_exts, List.cons_append, hasK_nil, mentL_ext, List.nil_append, ↓hold_pre, awayP, runOps, regK, step1, newK, genR, appR, obl, buildR, Value.cells, closeK, keepH, outV, retK, ret1, retC, RetV, Option.getD, runD, stepD, afterK, undef, simprocAttr, sxB, ↓sxD, sxE, sxTab]))
          exact hend _ _ hb (le_sub ⟨rfl, rfl, rfl, rfl, rfl, rfl, rfl, rfl, rfl, rfl, rfl, rfl, trivial⟩ (by exact subHp_dv m E P) rfl rfl rfl (by exact keepLt_dv m E P))
        · have c7 : decide (((E.getD r 0 : Nat) : Int) < ((E.getD b 0 : Nat) : Int)) = false := by rw [decide_eq_false_iff_not]; omega
          have hb : bst (fun q => may q i) E (r + 1) = some b := by simp only [bst, hbs, hmy, Bool.true_and, decide_eq_false hlt2, Bool.false_eq_true, if_false]
          (replace hb0 := true_and True); refine Go1.mk ?_; repeat' ((first | (with_reducible refine Go1.go ?_) | ((with_reducible first | refine brv_mk ?_ ?_ | refine gsplitD ?_ ?_ | refine gsplitG ?_ ?_) <;> intro h <;> (try simp only [Bool.not_eq_true', Bool.not_eq_false'] at h) <;> replace hb0 := h) | ((with_reducible refine callA0_no (by simp [mentL, AV.ment, mentL_ext]) ?_); refine hmay _ r i _ m1 hrl hi ?_) | ((with_reducible refine isDraw [some 27, some 28, some 29, some 30, some 31, some 32, some 33, some 34, some 35, some 36, some 37, some 38, some 39, some 40, some 41, some 42, some 43] (by decide) ?_); refine draw_rule [(0, []), (1, []), (2, []), (3, []), (4, []), (5, []), (6, []), (7, []), (8, []), (9, []), (10, []), (11, [10]), (12, [10]), (13, [10]), (14, []), (15, []), (16, [])] [[], [], [], [0, 1, 2], [0, 1, 2, 3], [0, 1, 2, 3, 4], [0, 1, 2, 3, 4, 5], [0, 1, 2, 3, 4, 5, 6], [0, 1, 2, 3, 4, 5, 6, 7], [0, 1, 2, 3, 4, 5, 6, 7, 8], [0, 1, 2, 3, 4, 5, 6, 7, 8, 9], [0, 1, 2, 3, 4, 5, 6, 7], [0, 1, 2, 3, 4, 5, 6, 7, 11], [0, 1, 2, 3, 4, 5, 6, 7, 11, 12], [0, 1, 2, 3, 4, 5, 6, 7, 8, 9, 10, 11, 12, 13], [0, 1, 2, 3, 4, 5, 6, 7, 8, 9, 10, 11, 12, 13, 14], [0, 1, 2, 3, 4, 5, 6, 7, 8, 9, 10, 11, 12, 13, 14, 15]] [27, 28, 29, 35, 36, 37, 38, 39, 40] [] (by kernel_rfl) (by kernel_rfl) (by kernel_rfl) (by kernel_rfl) (by exact trivial) ?_) | ((with_reducible refine isDraw [some 48, some 49, some 50, some 51, some 52, some 53, some 54, some 55, some 56, some 57, none] (by decide) ?_); refine draw_rule [(0, []), (1, []), (2, []), (3, [2]), (4, [2]), (5, [2]), (6, [2]), (7, [2]), (8, []), (9, []), (10, [])] [[], [0], [0, 1], [], [], [3, 4], [3, 4, 5], [3, 4, 5, 6], [0, 1, 2, 3, 4, 5, 6, 7], [0, 1, 2, 3, 4, 5, 6, 7, 8], [0, 1, 2, 3, 4, 5, 6, 7, 8, 9]] [48, 49, 50, 51, 52, 53, 54, 55] [] (by kernel_rfl) (by kernel_rfl) (by kernel_rfl) (by kernel_rfl) (by exact trivial) ?_) | (refine And.intro ?_ ?_; (try simp only [sxO] at *); omega) | fail) <;> (try simp (maxSteps := 1000000) only [hb0, dvIn, dropH_no, subH_no, Nat.mul_one, bstI, dvH, c1, w1, a1, l8, c2, c3, a2, c4, c5, c6, c7, hmy, hcb, normL_exts, List.cons_append, hasK_nil, mentL_ext, List.nil_append, ↓hold_pre, awayP, runOps, regK, step1, newK, genR, appR, obl, buildR, Value.cells, closeK, keepH, outV, retK, ret1, retC, RetV, Option.getD, runD, stepD, afterK, undef, simprocAttr, sxB, ↓sxD, sxE, sxTab]))
          exact hend _ _ hb (le_sub ⟨rfl, rfl, rfl, rfl, rfl, rfl, rfl, rfl, rfl, rfl, rfl, rfl, trivial⟩ (by exact subHp_dv m E P) rfl rfl rfl (by exact keepLt_dv m E P))
  obtain rfl : r = m := by omega
  have c1 : decide ((r : Int) < (r : Int)) = false := by simp
  cases hbs : bst (fun q => may q i) E r with
  | none =>
    (replace hb0 := true_and True); refine Go1.mk ?_; repeat' ((first | (with_reducible refine Go1.go ?_) | ((with_reducible first | refine brv_mk ?_ ?_ | refine gsplitD ?_ ?_ | refine gsplitG ?_ ?_) <;> intro h <;> (try simp only [Bool.not_eq_true', Bool.not_eq_false'] at h) <;> replace hb0 := h) | (refine And.intro ?_ ?_; (try simp only [sxO] at *); omega) | fail) <;> (try simp (maxSteps := 1000000) only [hb0, dvIn, dropH_no, subH_no, Nat.mul_one, bstI, dvH, c1, hasK_nil, mentL_ext, List.nil_append, ↓hold_pre, awayP, runOps, regK, step1, newK, genR, appR, obl, buildR, Value.cells, closeK, keepH, outV, retK, ret1, retC, RetV, Option.getD, runD, stepD, afterK, undef, simprocAttr, sxB, ↓sxD, sxE, sxTab]))
    refine .inl (hK2 M1 m1 ⟨Z, z1, by rw [hg]; simp [giveS, hbs]⟩)
  | some b =>
    obtain ⟨hbr, _, _⟩ := bst_some hbs
    have c4 : decide ((b : Int) < 0) = false := by rw [decide_eq_false_iff_not]; omega
    have c5 : (0 : Int) ≤ (b : Int) := by omega
    have c6 : (b : Int) < 8 := by omega
    have c7 : (b : Int) < (r : Int) := by omega
    have a2 := end8_at hE hbr
    have l8 := end8_len hE hm8
    have p1 := hu1.pt hi
    have i1 : (0 : Int) ≤ (i : Int) := by omega
    have i2 : (i : Int) < (T.length : Int) := by omega
    have unn := hu1.nn hi
    have uat := hu1.atF (P := Try.prog) (T := 3) (fun _ => rfl) tk3 tz3 hi (o := 3) (v := .int .i64 T[i].cost) rfl
    have hci := hTc i hi
    have hcn : T[i].cost = ((cosN T i : Nat) : Int) := by unfold cosN; rw [Int.toNat_of_nonneg (by omega), cosI_in hi]
    rw [hcn] at uat
    have hcb2 : cosN T i ≤ 1048576 := by unfold cosN; omega
    have hEb2 : E.getD b 0 ≤ k * 1048576 := by
      rw [List.getD_eq_getElem?_getD, List.getElem?_eq_getElem (by omega)]
      exact hEb _ (List.getElem_mem _)
    have w2 : IntKind.i64.wrap (((E.getD b 0 : Nat) : Int) + ((cosN T i : Nat) : Int)) = ((E.getD b 0 + cosN T i : Nat) : Int) := by rw [wrap_id (by omega) (by omega)]; omega
    have st := end8_set hE hbr (E.getD b 0 + cosN T i)
    have w3 : IntKind.i64.wrap ((k : Int) + 1) = ((k + 1 : Nat) : Int) := succ_i (by omega)
    have hLl : (LsP P).length = r := by unfold LsP; rw [List.length_map, hP]
    have fl := famC_len (b := 1000) (Ls := LsP P)
    rw [hLl] at fl
    have hbL : b < (LsP P).length := by omega
    have hPb1 : P.getD b [] ∈ P := by rw [List.getD_eq_getElem?_getD, List.getElem?_eq_getElem (by omega)]; exact List.getElem_mem _
    have hPb2 := hPb _ hPb1
    have hLb := LsP_at hbL
    have fa := famC_at (b := 1000) hbL
    rw [hLb, List.length_map] at fa
    have fk : lkH (famH 1000 3 (LsP P) []) (b + 1000) = some (3, cE natV (P.getD b [])) := by rw [lkH_famI hbL, hLb]; unfold cE; rw [List.map_map]
    have f1 : hasK 565 (mentL (famC 1000 (LsP P))) = false := famC_ment (LsP P) 1000 (by omega)
    have f2 : hasK 565 (mentH (famH 1000 3 (LsP P) [])) = false := by rw [hasK_fam (by omega)]; rfl
    have f3 : killL (b + 1000) (famC 1000 (LsP P)) = (famC 1000 (LsP P)).set b .unk := famC_killI
    have f4 : killH (b + 1000) (famH 1000 3 (LsP P) []) = famX 1000 3 (LsP P) b [] := killH_famI
    have f5 : (famC 1000 (LsP P)).set b (.slo (b + 1000) 0 ((P.getD b []).length + 1) 1) = famC 1000 (LsP (P.set b (P.getD b [] ++ [i]))) := by
      rw [LsP_set, ← famC_set (n := (P.getD b []).length + 1) (by simp)]
    have f6 := fun j (hj : j < (LsP P).length) (hne : j ≠ b) => lkH_famXJ (b := 1000) (T := 3) (r := []) hj hne
    have hfx : ∀ H : Hp, (∀ j, 1000 ≤ j → lkH H j = if j = b + 1000 then some (3, cE natV (P.getD b []) ++ [.ext (.int .i64 (i : Int))]) else lkH (famX 1000 3 (LsP P) b []) j) → subHp (famH 1000 3 (LsP (P.set b (P.getD b [] ++ [i]))) []) H := fun H hH => subHp_fam (fun j hj => by
      have hj2 : j < (LsP P).length := by simpa [LsP] using hj
      rw [hH _ (by omega), LsP_at hj]
      by_cases e : j = b
      · subst e
        rw [if_pos rfl, getD_set (by omega), if_pos rfl, List.map_append, List.map_append]
        unfold cE; rw [List.map_map]; rfl
      · rw [if_neg (by omega), f6 j hj2 e, LsP_at hj2, getD_set (by omega), if_neg (fun h => e h.symm)]) trivial
    clear f6 hLb
    have hPset := setP_le hPb hPb2 (b := b) (i := i)
    have hEset := setE_le hEb (b := b) (y := E.getD b 0 + cosN T i) (Nat.le_trans (Nat.add_le_add hEb2 hcb2) (by rw [Nat.succ_mul]; exact Nat.le_refl _))
    have hg2 : giveS may (cosN T) r (i :: Z.drop (k + 1)) E P = giveS may (cosN T) r (Z.drop (k + 1)) (E.set b (E.getD b 0 + cosN T i)) (P.set b (P.getD b [] ++ [i])) := by
      simp only [giveS, hbs]
    rw [hg2] at hg
    clear hg2
    generalize hPl : P.getD b [] = pl at *
    (replace hb0 := true_and True); refine Go1.mk ?_; repeat' ((first | (with_reducible refine Go1.go ?_) | ((with_reducible first | refine brv_mk ?_ ?_ | refine gsplitD ?_ ?_ | refine gsplitG ?_ ?_) <;> intro h <;> (try simp only [Bool.not_eq_true', Bool.not_eq_false'] at h) <;> replace hb0 := h) | ((with_reducible refine isDraw [some 27, some 28, some 29, some 30, some 31, some 32, some 33, some 34, some 35, some 36, some 37, some 38, some 39, some 40, some 41, some 42, some 43] (by decide) ?_); refine draw_rule [(0, []), (1, []), (2, []), (3, []), (4, []), (5, []), (6, []), (7, []), (8, []), (9, []), (10, []), (11, [10]), (12, [10]), (13, [10]), (14, []), (15, []), (16, [])] [[], [], [], [0, 1, 2], [0, 1, 2, 3], [0, 1, 2, 3, 4], [0, 1, 2, 3, 4, 5], [0, 1, 2, 3, 4, 5, 6], [0, 1, 2, 3, 4, 5, 6, 7], [0, 1, 2, 3, 4, 5, 6, 7, 8], [0, 1, 2, 3, 4, 5, 6, 7, 8, 9], [0, 1, 2, 3, 4, 5, 6, 7], [0, 1, 2, 3, 4, 5, 6, 7, 11], [0, 1, 2, 3, 4, 5, 6, 7, 11, 12], [0, 1, 2, 3, 4, 5, 6, 7, 8, 9, 10, 11, 12, 13], [0, 1, 2, 3, 4, 5, 6, 7, 8, 9, 10, 11, 12, 13, 14], [0, 1, 2, 3, 4, 5, 6, 7, 8, 9, 10, 11, 12, 13, 14, 15]] [27, 28, 29, 35, 36, 37, 38, 39, 40] [] (by kernel_rfl) (by kernel_rfl) (by kernel_rfl) (by kernel_rfl) (by exact trivial) ?_) | ((with_reducible refine isDraw [some 48, some 49, some 50, some 51, some 52, some 53, some 54, some 55, some 56, some 57, none] (by decide) ?_); refine draw_rule [(0, []), (1, []), (2, []), (3, [2]), (4, [2]), (5, [2]), (6, [2]), (7, [2]), (8, []), (9, []), (10, [])] [[], [0], [0, 1], [], [], [3, 4], [3, 4, 5], [3, 4, 5, 6], [0, 1, 2, 3, 4, 5, 6, 7], [0, 1, 2, 3, 4, 5, 6, 7, 8], [0, 1, 2, 3, 4, 5, 6, 7, 8, 9]] [48, 49, 50, 51, 52, 53, 54, 55] [] (by kernel_rfl) (by kernel_rfl) (by kernel_rfl) (by kernel_rfl) (by exact trivial) ?_) | (refine And.intro ?_ ?_; (try simp only [sxO] at *); omega) | fail) <;> (try simp (maxSteps := 1000000) only [hb0, dvIn, dropH_no, subH_no, Nat.mul_one, bstI, dvH, c1, c4, c5, c6, c7, a2, l8, p1, i1, i2, unn, uat, w2, w3, st, fl, fa, fk, f1, f2, f3, f4, f5, killL_exts, hasK_app, List.set_set, List.length_set, cE_len, cE_ment, cE_kill, hu1.one, hu1.len, hu1.sl, end8_ment, end8_kill, hasK_nil, mentL_ext, List.nil_append, ↓hold_pre, awayP, runOps, regK, step1, newK, genR, appR, obl, buildR, Value.cells, closeK, keepH, outV, retK, ret1, retC, RetV, Option.getD, runD, stepD, afterK, undef, simprocAttr, sxB, ↓sxD, sxE, sxTab]))
    exact ⟨Z.length - (k + 1), dvSt M1 u v f cv r Z.length (k + 1) (E.set b (E.getD b 0 + cosN T i)) (P.set b (pl ++ [i])), by omega, le_sub ⟨rfl, rfl, rfl, rfl, rfl, rfl, rfl, rfl, trivial⟩ ⟨by simp [lkH], by simp [lkH], hfx _ (fun j hj => fam_lk hj (by omega) (by omega) (by omega))⟩ rfl rfl rfl ⟨.inl (show 500 ≤ b + 1000 by omega), .inl (show 500 ≤ 565 by omega), .inl (show 500 ≤ 508 by omega), .inl (show 500 ≤ 515 by omega), keepLt_famX (show 500 ≤ 1000 by omega) trivial⟩, k + 1, _, _, rfl, by omega, by rw [List.length_set, hE], by rw [List.length_set, hP], hEset, hPset, hg, rfl⟩
end
end Go.Proofs.Ytgkfmlgfmcpebaa.Sx
namespace Go.Proofs.Ytgkfmlgfmcpebaa.Sx
open Go Go.RowKit
set_option linter.unusedVariables false
set_option linter.unusedSimpArgs false
set_option maxRecDepth 100000
set_option maxHeartbeats 8000000
attribute [local congr] fin_congr finG_congr stepG_congr step1_congr runOps_congr brv_congr obl_congr condK_congr LoopK_congr seqK_congr CutK_congr vc_congr DrawK_congr regK_congr CallK_congr AskK_congr newK_congr retC_congr ret1_congr retK_congr outV_congr closeK_congr genR_congr appR_congr finD_congr finGD_congr stepGD_congr stepD_congr CallK0_congr runD_congr okR_congr CallS_congr vcX_congr
attribute [local congr] Stop_congr
section
variable {M : Mem} {K : AV → Hp → Mem → Prop}
def sameSt (M : Mem) (u1 u2 : Value) (i : Nat) : St := { env := [(5, .ext (.int .i64 (i : Int))), (4, .ext (.bool false)), (1, .ext u2), (0, .ext u1)], hp := [], M := M, kb := 0, fx := [] }
theorem sameInts_ok (u1 u2 : Value) (l1 l2 : List Int) (h1 : IsL M intV64 u1 l1) (h2 : IsL M intV64 u2 l2) (hb : l1.length < 1000000000) (hb2 : l2.length < 1000000000) (hK : K (.ext (.bool (decide (l1 = l2)))) [] M) : CallS Try.prog 20 [.ext u1, .ext u2] [] M [] K := by
  refine inlS (cs := []) Try.mixed Try.func20 rfl (by kernel_rfl) 0 rfl rfl ?_
  simp only [Try.f20]
  by_cases hl : l1.length = l2.length
  · have hl2 : decide ((l1.length : Int) = (l2.length : Int)) = true := by simp [hl]
    (replace hb0 := true_and True); refine Go1.mk ?_; repeat' ((first | (with_reducible refine Go1.go ?_) | ((with_reducible first | refine brv_mk ?_ ?_ | refine gsplitD ?_ ?_ | refine gsplitG ?_ ?_) <;> intro h <;> (try simp only [Bool.not_eq_true', Bool.not_eq_false'] at h) <;> replace hb0 := h) | ((with_reducible refine isDraw [some 17, some 18, some 19, some 20, some 21, some 22, some 23, some 24, some 25] (by decide) ?_); refine draw_rule [(0, []), (1, []), (2, []), (3, []), (4, [3]), (5, [3]), (6, [3]), (7, [3]), (8, [])] [[], [], [0, 1], [0, 1, 2], [], [], [4, 5], [4, 5, 6], [0, 1, 2, 3, 4, 5, 6, 7]] [17, 18, 19, 20, 21, 22, 23, 24] [] (by kernel_rfl) (by kernel_rfl) (by kernel_rfl) (by kernel_rfl) (by exact trivial) ?_) | (refine And.intro ?_ ?_; (try simp only [sxO] at *); omega) | fail) <;> (try simp (maxSteps := 1000000) only [hb0, h1.len, h1.sl, h2.len, h2.sl, hl2, ↓hold_pre, awayP, runOps, regK, step1, newK, genR, appR, obl, buildR, Value.cells, closeK, keepH, outV, retK, ret1, retC, RetV, Option.getD, runD, stepD, afterK, undef, simprocAttr, sxB, ↓sxD, sxE, sxTab]))
    refine ⟨fun m z => ∃ i, i ≤ l1.length ∧ l1.take i = l2.take i ∧ m = l1.length - i ∧ z = sameSt M u1 u2 i, ⟨l1.length, sameSt M u1 u2 0, le_sub ⟨rfl, rfl, rfl, rfl, trivial⟩ trivial rfl rfl rfl (keepLt0 _), ⟨0, by omega, rfl, rfl, rfl⟩⟩, ?_⟩
    rintro m z ⟨i, hi, hpre, rfl, rfl⟩
    by_cases hlt : i < l1.length
    · have hlt2 : i < l2.length := by omega
      have f1 := h1.idx (P := Try.prog) (T := 3) tk3 tz3 (by omega) hlt
      have f2 := h2.idx (P := Try.prog) (T := 3) tk3 tz3 (by omega) hlt2
      (replace hb0 := true_and True); refine Go1.mk ?_; repeat' ((first | (with_reducible refine Go1.go ?_) | ((with_reducible first | refine brv_mk ?_ ?_ | refine gsplitD ?_ ?_ | refine gsplitG ?_ ?_) <;> intro h <;> (try simp only [Bool.not_eq_true', Bool.not_eq_false'] at h) <;> replace hb0 := h) | ((with_reducible refine isDraw [some 17, some 18, some 19, some 20, some 21, some 22, some 23, some 24, some 25] (by decide) ?_); refine draw_rule [(0, []), (1, []), (2, []), (3, []), (4, [3]), (5, [3]), (6, [3]), (7, [3]), (8, [])] [[], [], [0, 1], [0, 1, 2], [], [], [4, 5], [4, 5, 6], [0, 1, 2, 3, 4, 5, 6, 7]] [17, 18, 19, 20, 21, 22, 23, 24] [] (by kernel_rfl) (by kernel_rfl) (by kernel_rfl) (by kernel_rfl) (by exact trivial) ?_) | (refine And.intro ?_ ?_; (try simp only [sxO] at *); omega) | fail) <;> (try simp (maxSteps := 1000000) only [hb0, f1, f2, intV64, sameSt, ↓hold_pre, awayP, runOps, regK, step1, newK, genR, appR, obl, buildR, Value.cells, closeK, keepH, outV, retK, ret1, retC, RetV, Option.getD, runD, stepD, afterK, undef, simprocAttr, sxB, ↓sxD, sxE, sxTab]))
      · have e : decide (l1 = l2) = false := by
          simp only [Bool.not_eq_true', decide_eq_false_iff_not] at h ⊢
          intro e; subst e; exact h rfl
        rw [e] at hK; exact hK
      · simp only [Bool.not_eq_false', decide_eq_true_eq] at h
        refine ⟨l1.length - (i + 1), sameSt M u1 u2 (i + 1), by omega, le_sub ⟨rfl, rfl, rfl, rfl, trivial⟩ trivial rfl rfl rfl (keepLt0 _), i + 1, by omega, ?_, rfl, rfl⟩
        rw [List.take_succ_eq_append_getElem hlt, List.take_succ_eq_append_getElem hlt2, hpre, h]
    · have f1 := h1.fin hlt
      have ei : i = l1.length := by omega
      subst ei
      rw [List.take_length, hl, List.take_length] at hpre
      have e : decide (l1 = l2) = true := by simp [hpre]
      rw [e] at hK
      (replace hb0 := true_and True); refine Go1.mk ?_; repeat' ((first | (with_reducible refine Go1.go ?_) | ((with_reducible first | refine brv_mk ?_ ?_ | refine gsplitD ?_ ?_ | refine gsplitG ?_ ?_) <;> intro h <;> (try simp only [Bool.not_eq_true', Bool.not_eq_false'] at h) <;> replace hb0 := h) | ((with_reducible refine isDraw [some 17, some 18, some 19, some 20, some 21, some 22, some 23, some 24, some 25] (by decide) ?_); refine draw_rule [(0, []), (1, []), (2, []), (3, []), (4, [3]), (5, [3]), (6, [3]), (7, [3]), (8, [])] [[], [], [0, 1], [0, 1, 2], [], [], [4, 5], [4, 5, 6], [0, 1, 2, 3, 4, 5, 6, 7]] [17, 18, 19, 20, 21, 22, 23, 24] [] (by kernel_rfl) (by kernel_rfl) (by kernel_rfl) (by kernel_rfl) (by exact trivial) ?_) | (refine And.intro ?_ ?_; (try simp only [sxO] at *); omega) | fail) <;> (try simp (maxSteps := 1000000) only [hb0, f1, sameSt, ↓hold_pre, awayP, runOps, regK, step1, newK, genR, appR, obl, buildR, Value.cells, closeK, keepH, outV, retK, ret1, retC, RetV, Option.getD, runD, stepD, afterK, undef, simprocAttr, sxB, ↓sxD, sxE, sxTab]))
      exact hK
  · have hl2 : decide ((l1.length : Int) = (l2.length : Int)) = false := by simp; omega
    have e : decide (l1 = l2) = false := by
      simp only [decide_eq_false_iff_not]
      intro e; subst e; exact hl rfl
    rw [e] at hK
    (replace hb0 := true_and True); refine Go1.mk ?_; repeat' ((first | (with_reducible refine Go1.go ?_) | ((with_reducible first | refine brv_mk ?_ ?_ | refine gsplitD ?_ ?_ | refine gsplitG ?_ ?_) <;> intro h <;> (try simp only [Bool.not_eq_true', Bool.not_eq_false'] at h) <;> replace hb0 := h) | ((with_reducible refine isDraw [some 17, some 18, some 19, some 20, some 21, some 22, some 23, some 24, some 25] (by decide) ?_); refine draw_rule [(0, []), (1, []), (2, []), (3, []), (4, [3]), (5, [3]), (6, [3]), (7, [3]), (8, [])] [[], [], [0, 1], [0, 1, 2], [], [], [4, 5], [4, 5, 6], [0, 1, 2, 3, 4, 5, 6, 7]] [17, 18, 19, 20, 21, 22, 23, 24] [] (by kernel_rfl) (by kernel_rfl) (by kernel_rfl) (by kernel_rfl) (by exact trivial) ?_) | (refine And.intro ?_ ?_; (try simp only [sxO] at *); omega) | fail) <;> (try simp (maxSteps := 1000000) only [hb0, h1.len, h1.sl, h2.len, h2.sl, hl2, ↓hold_pre, awayP, runOps, regK, step1, newK, genR, appR, obl, buildR, Value.cells, closeK, keepH, outV, retK, ret1, retC, RetV, Option.getD, runD, stepD, afterK, undef, simprocAttr, sxB, ↓sxD, sxE, sxTab]))
    exact hK
theorem IsL.nat {u : Value} {l : List Nat} (h : IsL M natV u l) : IsL M intV64 u (l.map fun (x : Nat) => (x : Int)) := by
  unfold IsL at h ⊢
  rw [List.map_map, List.length_map]
  exact h
def ixSt (M : Mem) (u : Value) (x : Int) (n i : Nat) : St := { env := [(8, .ext (.int .i64 (i : Int))), (7, .ext (.int .i64 (n : Int))), (1, .ext (.int .i64 x)), (0, .ext u)], hp := [], M := M, kb := 0, fx := [] }
theorem index_ok (u : Value) (l : List Int) (x : Int) (hu : IsL M intV64 u l) (hb : l.length < 1000000000) (hK : ∀ r : Int, ((r = -1 ∧ l.contains x = false) ∨ (0 ≤ r ∧ l.contains x = true)) → K (.ext (.int .i64 r)) [] M) : CallS Try.prog 55 [.ext u, .ext (.int .i64 x)] [] M [] K := by
  refine inlS (cs := []) Try.mixed Try.func55 rfl (by kernel_rfl) 0 rfl rfl ?_
  simp only [Try.f55]
  (replace hb0 := true_and True); refine Go1.mk ?_; repeat' ((first | (with_reducible refine Go1.go ?_) | ((with_reducible first | refine brv_mk ?_ ?_ | refine gsplitD ?_ ?_ | refine gsplitG ?_ ?_) <;> intro h <;> (try simp only [Bool.not_eq_true', Bool.not_eq_false'] at h) <;> replace hb0 := h) | (refine And.intro ?_ ?_; (try simp only [sxO] at *); omega) | fail) <;> (try simp (maxSteps := 1000000) only [hb0, hu.one, hu.len, hu.sl, ↓hold_pre, awayP, runOps, regK, step1, newK, genR, appR, obl, buildR, Value.cells, closeK, keepH, outV, retK, ret1, retC, RetV, Option.getD, runD, stepD, afterK, undef, simprocAttr, sxB, ↓sxD, sxE, sxTab]))
  refine ⟨fun m z => ∃ i, i ≤ l.length ∧ (∀ y ∈ l.take i, y ≠ x) ∧ m = l.length - i ∧ z = ixSt M u x l.length i, ⟨l.length, ixSt M u x l.length 0, le_sub ⟨rfl, rfl, rfl, rfl, trivial⟩ trivial rfl rfl rfl (keepLt0 _), ⟨0, by omega, by simp, rfl, rfl⟩⟩, ?_⟩
  rintro m z ⟨i, hi, hno, rfl, rfl⟩
  by_cases hlt : i < l.length
  case neg =>
    have f1 := hu.fin hlt
    obtain rfl : i = l.length := by omega
    have e : l.contains x = false := by
      rw [List.take_length] at hno
      cases h : l.contains x with
      | false => rfl
      | true => exact absurd rfl (hno x (by simpa using h))
    have hk := hK (-1) (.inl ⟨rfl, e⟩)
    (replace hb0 := true_and True); refine Go1.mk ?_; repeat' ((first | (with_reducible refine Go1.go ?_) | ((with_reducible first | refine brv_mk ?_ ?_ | refine gsplitD ?_ ?_ | refine gsplitG ?_ ?_) <;> intro h <;> (try simp only [Bool.not_eq_true', Bool.not_eq_false'] at h) <;> replace hb0 := h) | (refine And.intro ?_ ?_; (try simp only [sxO] at *); omega) | fail) <;> (try simp (maxSteps := 1000000) only [hb0, ixSt, f1, ↓hold_pre, awayP, runOps, regK, step1, newK, genR, appR, obl, buildR, Value.cells, closeK, keepH, outV, retK, ret1, retC, RetV, Option.getD, runD, stepD, afterK, undef, simprocAttr, sxB, ↓sxD, sxE, sxTab]))
    exact hk
  have f1 := hu.idx (P := Try.prog) (T := 3) tk3 tz3 (by omega) hlt
  have htk : l.take (i + 1) = l.take i ++ [l[i]] := by rw [List.take_add_one, List.getElem?_eq_getElem hlt]; rfl
  by_cases hx : l[i] = x
  · have d1 : decide (x = l[i]) = true := decide_eq_true hx.symm
    have e : l.contains x = true := by rw [List.contains_iff_mem]; exact hx ▸ List.getElem_mem hlt
    have hk := hK i (.inr ⟨by omega, e⟩)
    (replace hb0 := true_and True); refine Go1.mk ?_; repeat' ((first | (with_reducible refine Go1.go ?_) | ((with_reducible first | refine brv_mk ?_ ?_ | refine gsplitD ?_ ?_ | refine gsplitG ?_ ?_) <;> intro h <;> (try simp only [Bool.not_eq_true', Bool.not_eq_false'] at h) <;> replace hb0 := h) | (refine And.intro ?_ ?_; (try simp only [sxO] at *); omega) | fail) <;> (try simp (maxSteps := 1000000) only [hb0, ixSt, f1, intV64, d1, ↓hold_pre, awayP, runOps, regK, step1, newK, genR, appR, obl, buildR, Value.cells, closeK, keepH, outV, retK, ret1, retC, RetV, Option.getD, runD, stepD, afterK, undef, simprocAttr, sxB, ↓sxD, sxE, sxTab]))
    exact hk
  · have d1 : decide (x = l[i]) = false := decide_eq_false fun h => hx h.symm
    (replace hb0 := true_and True); refine Go1.mk ?_; repeat' ((first | (with_reducible refine Go1.go ?_) | ((with_reducible first | refine brv_mk ?_ ?_ | refine gsplitD ?_ ?_ | refine gsplitG ?_ ?_) <;> intro h <;> (try simp only [Bool.not_eq_true', Bool.not_eq_false'] at h) <;> replace hb0 := h) | (refine And.intro ?_ ?_; (try simp only [sxO] at *); omega) | fail) <;> (try simp (maxSteps := 1000000) only [hb0, ixSt, f1, intV64, d1, ↓hold_pre, awayP, runOps, regK, step1, newK, genR, appR, obl, buildR, Value.cells, closeK, keepH, outV, retK, ret1, retC, RetV, Option.getD, runD, stepD, afterK, undef, simprocAttr, sxB, ↓sxD, sxE, sxTab]))
    refine ⟨l.length - (i + 1), ixSt M u x l.length (i + 1), by omega, le_sub ⟨rfl, rfl, rfl, rfl, trivial⟩ trivial rfl rfl rfl (keepLt0 _), i + 1, by omega, ?_, rfl, rfl⟩
    rw [htk]
    intro y hy
    rcases List.mem_append.1 hy with hy | hy
    · exact hno y hy
    · rw [List.mem_singleton.1 hy]; exact hx
theorem contains_ok (u : Value) (l : List Int) (x : Int) (hu : IsL M intV64 u l) (hb : l.length < 1000000000) (hK : K (.ext (.bool (l.contains x))) [] M) : CallS Try.prog 43 [.ext u, .ext (.int .i64 x)] [] M [] K := by
  refine inlS (cs := []) Try.mixed Try.func43 rfl (by kernel_rfl) 0 rfl rfl ?_
  simp only [Try.f43]
  (replace hb0 := true_and True); refine Go1.mk ?_; repeat' ((first | (with_reducible refine Go1.go ?_) | ((with_reducible first | refine brv_mk ?_ ?_ | refine gsplitD ?_ ?_ | refine gsplitG ?_ ?_) <;> intro h <;> (try simp only [Bool.not_eq_true', Bool.not_eq_false'] at h) <;> replace hb0 := h) | (((with_reducible refine isCall (f := 55) ?_); refine callA_nil (by kernel_rfl) ?_; refine (index_ok u l x hu hb (fun r c => Stop.mk ?_)))) | (refine And.intro ?_ ?_; (try simp only [sxO] at *); omega) | fail) <;> (try simp (maxSteps := 1000000) only [hb0, hu.one, ↓hold_pre, awayP, runOps, regK, step1, newK, genR, appR, obl, buildR, Value.cells, closeK, keepH, outV, retK, ret1, retC, RetV, Option.getD, runD, stepD, afterK, undef, simprocAttr, sxB, ↓sxD, sxE, sxTab]))
  have c : (r = -1 ∧ l.contains x = false) ∨ (0 ≤ r ∧ l.contains x = true) := by assumption
  refine Stop.go ?_
  rcases c with ⟨rfl, h⟩ | ⟨h1, h⟩
  · rw [h] at hK
    (replace hb0 := true_and True); refine Go1.mk ?_; repeat' ((first | (with_reducible refine Go1.go ?_) | ((with_reducible first | refine brv_mk ?_ ?_ | refine gsplitD ?_ ?_ | refine gsplitG ?_ ?_) <;> intro h <;> (try simp only [Bool.not_eq_true', Bool.not_eq_false'] at h) <;> replace hb0 := h) | (refine And.intro ?_ ?_; (try simp only [sxO] at *); omega) | fail) <;> (try simp (maxSteps := 1000000) only [hb0, ↓hold_pre, awayP, runOps, regK, step1, newK, genR, appR, obl, buildR, Value.cells, closeK, keepH, outV, retK, ret1, retC, RetV, Option.getD, runD, stepD, afterK, undef, simprocAttr, sxB, ↓sxD, sxE, sxTab]))
    exact hK
  · rw [h] at hK
    have d1 : decide (0 ≤ r) = true := decide_eq_true h1
    (replace hb0 := true_and True); refine Go1.mk ?_; repeat' ((first | (with_reducible refine Go1.go ?_) | ((with_reducible first | refine brv_mk ?_ ?_ | refine gsplitD ?_ ?_ | refine gsplitG ?_ ?_) <;> intro h <;> (try simp only [Bool.not_eq_true', Bool.not_eq_false'] at h) <;> replace hb0 := h) | (refine And.intro ?_ ?_; (try simp only [sxO] at *); omega) | fail) <;> (try simp (maxSteps := 1000000) only [hb0, d1, ↓hold_pre, awayP, runOps, regK, step1, newK, genR, appR, obl, buildR, Value.cells, closeK, keepH, outV, retK, ret1, retC, RetV, Option.getD, runD, stepD, afterK, undef, simprocAttr, sxB, ↓sxD, sxE, sxTab]))
    exact hK
end
section
variable {M : Mem} {K : AV → Hp → Mem → Prop} {u up : Value} {T : List TK}
theorem errT_0 {n : Int} (h : errT T n = 0) : chkTL T = true ∧ 1 ≤ n ∧ n ≤ 8 := by
  unfold errT at h
  cases hc : chkTL T with
  | false => rw [hc] at h; simp at h
  | true =>
    rw [hc, if_pos rfl] at h
    by_cases h2 : 1 ≤ n ∧ n ≤ 8
    · exact ⟨rfl, h2⟩
    · rw [if_neg h2] at h; cases h
def divR (T : List TK) (n : Int) (may : Nat → Nat → Bool) (P : List (List Nat)) (e : Int) : Prop := (errT T n ≠ 0 ∧ P = [] ∧ e = errT T n) ∨ (errT T n = 0 ∧ ∃ m : Nat, n = m ∧ ∃ Q, divP T m may Q ∧ P = divO Q ∧ e = divE Q)
theorem divR_one {n : Int} {may : Nat → Nat → Bool} {P P' : List (List Nat)} {e e' : Int} (h : divR T n may P e) (k : divR T n may P' e') : P = P' ∧ e = e' := by
  rcases h with ⟨h1, rfl, rfl⟩ | ⟨h1, m, rfl, Q, h2, rfl, rfl⟩ <;> rcases k with ⟨k1, rfl, rfl⟩ | ⟨k1, m', hm, Q', k2, rfl, rfl⟩
  · exact ⟨rfl, rfl⟩
  · exact absurd k1 h1
  · exact absurd h1 k1
  · obtain rfl : m = m' := by omega
    rw [divP_one h2 k2]; exact ⟨rfl, rfl⟩
def allY (_ _ : Nat) : Bool := true
theorem LLF.nil (M : Mem) : LLF M M (.slice none 0 0) [] := ⟨[], ⟨slM_nil M 1 0, rfl, fun i h => absurd h (by simp)⟩, .inl rfl, fun u h => by cases h⟩
theorem divide1_ok (a b : Int) (hK : K (.ext (.bool true)) [] M) : CallS Try.prog 36 [.ext (.int .i64 a), .ext (.int .i64 b)] [] M [] K := by
  refine inlS (cs := []) Try.mixed Try.func36 rfl (by kernel_rfl) 0 rfl rfl ?_
  simp only [Try.f36]
  (replace hb0 := true_and True); refine Go1.mk ?_; repeat' ((first | (with_reducible refine Go1.go ?_) | ((with_reducible first | refine brv_mk ?_ ?_ | refine gsplitD ?_ ?_ | refine gsplitG ?_ ?_) <;> intro h <;> (try simp only [Bool.not_eq_true', Bool.not_eq_false'] at h) <;> replace hb0 := h) | (refine And.intro ?_ ?_; (try simp only [sxO] at *); omega) | fail) <;> (try simp (maxSteps := 1000000) only [hb0, ↓hold_pre, awayP, runOps, regK, step1, newK, genR, appR, obl, buildR, Value.cells, closeK, keepH, outV, retK, ret1, retC, RetV, Option.getD, runD, stepD, afterK, undef, simprocAttr, sxB, ↓sxD, sxE, sxTab]))
  exact hK
theorem Divide_ok (hu : IsR M 4 TK.c u T) (hb : T.length < 1000000) (n : Int) (hK : ∀ M' U P e, Mem.le M M' → divR T n allY P e → LLF M M' U (LsP P) → K (.ext (.tuple #[U, .int .i64 e])) [] M') : CallS Try.prog 13 [.ext u, .ext (.int .i64 n)] [] M [] K := by
  refine inlS (cs := []) Try.mixed Try.func13 rfl (by kernel_rfl) 0 rfl rfl ?_
  simp only [Try.f13]
  by_cases he : errT T n = 0
  case neg =>
    have d1 : decide (errT T n = 0) = false := decide_eq_false he
    (replace hb0 := true_and True); refine Go1.mk ?_; repeat' ((first | (with_reducible refine Go1.go ?_) | ((with_reducible first | refine brv_mk ?_ ?_ | refine gsplitD ?_ ?_ | refine gsplitG ?_ ?_) <;> intro h <;> (try simp only [Bool.not_eq_true', Bool.not_eq_false'] at h) <;> replace hb0 := h) | (((with_reducible refine isCall (f := 34) ?_); refine callA_nil (by kernel_rfl) ?_; refine (tcheck_ok hu hb n ?_))) | (refine And.intro ?_ ?_; (try simp only [sxO] at *); omega) | fail) <;> (try simp (maxSteps := 1000000) only [hb0, hu.one, d1, ↓hold_pre, awayP, runOps, regK, step1, newK, genR, appR, obl, buildR, Value.cells, closeK, keepH, outV, retK, ret1, retC, RetV, Option.getD, runD, stepD, afterK, undef, simprocAttr, sxB, ↓sxD, sxE, sxTab]))
    exact hK M _ [] _ (Mem.le.refl _) (.inl ⟨he, rfl, rfl⟩) (LLF.nil M)
  obtain ⟨hc, h1, h8⟩ := errT_0 he
  obtain ⟨m, rfl⟩ := Int.eq_ofNat_of_zero_le (show 0 ≤ n by omega)
  (replace hb0 := true_and True); refine Go1.mk ?_; repeat' ((first | (with_reducible refine Go1.go ?_) | ((with_reducible first | refine brv_mk ?_ ?_ | refine gsplitD ?_ ?_ | refine gsplitG ?_ ?_) <;> intro h <;> (try simp only [Bool.not_eq_true', Bool.not_eq_false'] at h) <;> replace hb0 := h) | (((with_reducible refine isCall (f := 34) ?_); refine callA_nil (by kernel_rfl) ?_; refine (tcheck_ok hu hb _ ?_))) | (((with_reducible refine isCall (f := 35) ?_); refine callA_nil (by kernel_rfl) ?_; refine (div_ok (cv := []) (may := allY) rfl hu hc (by omega) (by omega) (fun M1 r i K _ _ _ h => divide1_ok _ _ h) (fun M' U P c1 c2 c3 => Stop.mk ?_) (fun M' c1 c2 => Stop.mk ?_)))) | (refine And.intro ?_ ?_; (try simp only [sxO] at *); omega) | fail) <;> (try simp (maxSteps := 1000000) only [hb0, hu.one, he, ↓hold_pre, awayP, runOps, regK, step1, newK, genR, appR, obl, buildR, Value.cells, closeK, keepH, outV, retK, ret1, retC, RetV, Option.getD, runD, stepD, afterK, undef, simprocAttr, sxB, ↓sxD, sxE, sxTab]))
  · have hk := hK M' U P 0 c1 (.inr ⟨he, m, rfl, _, c2, rfl, rfl⟩) c3
    refine Stop.go ?_
    (replace hb0 := true_and True); refine Go1.mk ?_; repeat' ((first | (with_reducible refine Go1.go ?_) | ((with_reducible first | refine brv_mk ?_ ?_ | refine gsplitD ?_ ?_ | refine gsplitG ?_ ?_) <;> intro h <;> (try simp only [Bool.not_eq_true', Bool.not_eq_false'] at h) <;> replace hb0 := h) | (refine And.intro ?_ ?_; (try simp only [sxO] at *); omega) | fail) <;> (try simp (maxSteps := 1000000) only [hb0, ↓hold_pre, awayP, runOps, regK, step1, newK, genR, appR, obl, buildR, Value.cells, closeK, keepH, outV, retK, ret1, retC, RetV, Option.getD, runD, stepD, afterK, undef, simprocAttr, sxB, ↓sxD, sxE, sxTab]))
    exact hk
  · exfalso
    obtain ⟨Z, z1, z2⟩ := c2
    obtain ⟨E', P', e⟩ := give_all (c := cosN T) (m := m) (by omega) Z (List.replicate m 0) (List.replicate m [])
    have e2 : giveS allY (cosN T) m Z (List.replicate m 0) (List.replicate m []) = some (E', P') := e
    rw [e2] at z2; cases z2
def LsI (P : List (List Int)) : List (List Value) := P.map fun l => l.map intV64
theorem LsI_len (P : List (List Int)) : (LsI P).length = P.length := by unfold LsI; rw [List.length_map]
theorem LL.sl {U : Value} {Ls : List (List Value)} (h : LL M U Ls) : isSl U = true ∧ slen U = Ls.length ∧ U.oneCell' = true := by
  obtain ⟨us, h⟩ := h
  exact ⟨h.out.sl, h.out.len, one_sl h.out.sl⟩
theorem LL.at {P : Program} {Tt : TypeId} {U : Value} {Pl : List (List Int)} (h : LL M U (LsI Pl)) (hk : kindT P Tt = some false) (hz : szO P Tt = some 1) {i : Nat} (hi : i < Pl.length) : ∃ x, lookM P Tt M (elemP U 1 i) = some x ∧ IsL M intV64 x (Pl.getD i []) ∧ nilS U = false := by
  obtain ⟨us, h⟩ := h
  have hl := LsI_len Pl
  have h1 := h.at_ i (by omega)
  have h2 : us[i]? = some (us[i]'(by have := h.len; omega)) := List.getElem?_eq_getElem _
  refine ⟨_, h.out.at1 hk hz h2, ?_, h.out.nn (by omega)⟩
  have h3 : (LsI Pl)[i]'(by omega) = (Pl.getD i []).map intV64 := by
    rw [List.getD_eq_getElem?_getD, List.getElem?_eq_getElem hi]; simp [LsI]
  rw [h3, List.length_map] at h1
  exact h1
end
end Go.Proofs.Ytgkfmlgfmcpebaa.Sx
namespace Go.Proofs.Ytgkfmlgfmcpebaa.Sx
open Go Go.RowKit
set_option linter.unusedVariables false
set_option linter.unusedSimpArgs false
set_option maxRecDepth 100000
set_option maxHeartbeats 8000000
attribute [local congr] fin_congr finG_congr stepG_congr step1_congr runOps_congr brv_congr obl_congr condK_congr LoopK_congr seqK_congr CutK_congr vc_congr DrawK_congr regK_congr CallK_congr AskK_congr newK_congr retC_congr ret1_congr retK_congr outV_congr closeK_congr genR_congr appR_congr finD_congr finGD_congr stepGD_congr stepD_congr CallK0_congr runD_congr okR_congr CallS_congr vcX_congr
attribute [local congr] Stop_congr
theorem IsR.part {α : Type} {P : Program} {M : Mem} {z : Nat} {f : α → List Value} {u : Value} {l : List α} (h : IsR M z f u l) (hf : ∀ x, (f x).length = z) {T : TypeId} (hk : kindT P T = some true) {zz : Nat} (hz : szO P T = some zz) {i o : Nat} (hi : i < l.length) (ho : o + zz ≤ z) : lookM P T M (addP (elemP u z i) o) = some (.agg (((f l[i]).drop o).take zz).toArray) := by
  rw [SlM.atFS h hk hz hi ho, ← flat_part hf l i hi, List.drop_take, List.drop_drop, List.take_take, Nat.min_eq_left (by omega)]
section
variable {M : Mem} {K : AV → Hp → Mem → Prop} {u : Value} {T : List TK}
theorem rUsable_ok (pk ts : Bst) (hK : K (.ext (.bool (usaN pk ts))) [] M) : CallS Try.prog 49 [.ext (.agg #[.string (bs pk), .string (bs ts)])] [] M [] K := by
  refine inlS (cs := []) Try.mixed Try.func49 rfl (by kernel_rfl) 0 rfl rfl ?_
  simp only [Try.f49]
  (replace hb0 := true_and True); refine Go1.mk ?_; repeat' ((first | (with_reducible refine Go1.go ?_) | ((with_reducible first | refine brv_mk ?_ ?_ | refine gsplitD ?_ ?_ | refine gsplitG ?_ ?_) <;> intro h <;> (try simp only [Bool.not_eq_true', Bool.not_eq_false'] at h) <;> replace hb0 := h) | (refine And.intro ?_ ?_; (try simp only [sxO] at *); omega) | fail) <;> (try simp (maxSteps := 1000000) only [hb0, bs_mk, bs_app, bs_ext, bs_size, bs_toList, bs_at, bs_cells, List.take_length, imp_ga, guard_pk, guard_pk2, ↓hold_pre, awayP, runOps, regK, step1, newK, genR, appR, obl, buildR, Value.cells, closeK, keepH, outV, retK, ret1, retC, RetV, Option.getD, runD, stepD, afterK, undef, simprocAttr, sxB, ↓sxD, sxE, sxTab]))
  rw [show (decide (0 < (pk.length : Int)) && decide ((pk.length : Int) ≤ 24) && decide (0 < (ts.length : Int)) && decide ((ts.length : Int) ≤ 24)) = usaN pk ts by
    rw [Bool.eq_iff_iff]; unfold usaN; simp; omega]
  exact hK
theorem rPlace_ok (e : Int) (hK : K (.ext (.bool (decide (0 ≤ e) && decide (e ≤ 63)))) [] M) : CallS Try.prog 50 [.ext (.int .i64 e)] [] M [] K := by
  refine inlS (cs := []) Try.mixed Try.func50 rfl (by kernel_rfl) 0 rfl rfl ?_
  simp only [Try.f50]
  (replace hb0 := true_and True); refine Go1.mk ?_; repeat' ((first | (with_reducible refine Go1.go ?_) | ((with_reducible first | refine brv_mk ?_ ?_ | refine gsplitD ?_ ?_ | refine gsplitG ?_ ?_) <;> intro h <;> (try simp only [Bool.not_eq_true', Bool.not_eq_false'] at h) <;> replace hb0 := h) | (refine And.intro ?_ ?_; (try simp only [sxO] at *); omega) | fail) <;> (try simp (maxSteps := 1000000) only [hb0, ↓hold_pre, awayP, runOps, regK, step1, newK, genR, appR, obl, buildR, Value.cells, closeK, keepH, outV, retK, ret1, retC, RetV, Option.getD, runD, stepD, afterK, undef, simprocAttr, sxB, ↓sxD, sxE, sxTab]))
  exact hK
def rcSt (M : Mem) (u : Value) (i : Nat) : St := { env := [(3, .ext (.int .i64 (i : Int))), (0, .ext u)], hp := [], M := M, kb := 0, fx := [] }
theorem rCheck_ok (hu : IsR M 4 TK.c u T) (hb : T.length < 1000000) (hK : K (.ext (.bool (chkTL T))) [] M) : CallS Try.prog 30 [.ext u] [] M [] K := by
  refine inlS (cs := []) Try.mixed Try.func30 rfl (by kernel_rfl) 0 rfl rfl ?_
  simp only [Try.f30]
  unfold chkTL at hK
  by_cases h64 : T.length ≤ 64
  case neg =>
    have d1 : decide ((64 : Int) < (T.length : Int)) = true := by rw [decide_eq_true_eq]; omega
    rw [decide_eq_false h64] at hK
    (replace hb0 := true_and True); refine Go1.mk ?_; repeat' ((first | (with_reducible refine Go1.go ?_) | ((with_reducible first | refine brv_mk ?_ ?_ | refine gsplitD ?_ ?_ | refine gsplitG ?_ ?_) <;> intro h <;> (try simp only [Bool.not_eq_true', Bool.not_eq_false'] at h) <;> replace hb0 := h) | (refine And.intro ?_ ?_; (try simp only [sxO] at *); omega) | fail) <;> (try simp (maxSteps := 1000000) only [hb0, hu.one, hu.len, hu.sl, d1, ↓hold_pre, awayP, runOps, regK, step1, newK, genR, appR, obl, buildR, Value.cells, closeK, keepH, outV, retK, ret1, retC, RetV, Option.getD, runD, stepD, afterK, undef, simprocAttr, sxB, ↓sxD, sxE, sxTab]))
    exact hK
  have d1 : decide ((64 : Int) < (T.length : Int)) = false := by rw [decide_eq_false_iff_not]; omega
  rw [decide_eq_true h64, Bool.true_and] at hK
  (replace hb0 := true_and True); refine Go1.mk ?_; repeat' ((first | (with_reducible refine Go1.go ?_) | ((with_reducible first | refine brv_mk ?_ ?_ | refine gsplitD ?_ ?_ | refine gsplitG ?_ ?_) <;> intro h <;> (try simp only [Bool.not_eq_true', Bool.not_eq_false'] at h) <;> replace hb0 := h) | (refine And.intro ?_ ?_; (try simp only [sxO] at *); omega) | fail) <;> (try simp (maxSteps := 1000000) only [hb0, hu.one, hu.len, hu.sl, d1, ↓hold_pre, awayP, runOps, regK, step1, newK, genR, appR, obl, buildR, Value.cells, closeK, keepH, outV, retK, ret1, retC, RetV, Option.getD, runD, stepD, afterK, undef, simprocAttr, sxB, ↓sxD, sxE, sxTab]))
  refine ⟨fun m z => ∃ i, m = T.length - i ∧ i ≤ T.length ∧ (∀ x ∈ T.take i, chkT x = true) ∧ z = rcSt M u i,
    ⟨T.length, rcSt M u 0, le_sub ⟨rfl, rfl, trivial⟩ trivial rfl rfl rfl (keepLt0 _), ⟨0, by omega, by omega, by simp, rfl⟩⟩, ?_⟩
  rintro m z ⟨i, rfl, hi, hp, rfl⟩
  by_cases hlt : i < T.length
  case neg =>
    obtain rfl : i = T.length := by omega
    have e1 : decide ((T.length : Int) < (T.length : Int)) = false := by simp
    rw [List.take_of_length_le (Nat.le_refl _)] at hp
    rw [List.all_eq_true.2 hp] at hK
    (replace hb0 := true_and True); refine Go1.mk ?_; repeat' ((first | (with_reducible refine Go1.go ?_) | ((with_reducible first | refine brv_mk ?_ ?_ | refine gsplitD ?_ ?_ | refine gsplitG ?_ ?_) <;> intro h <;> (try simp only [Bool.not_eq_true', Bool.not_eq_false'] at h) <;> replace hb0 := h) | (refine And.intro ?_ ?_; (try simp only [sxO] at *); omega) | fail) <;> (try simp (maxSteps := 1000000) only [hb0, rcSt, hu.one, hu.len, hu.sl, e1, ↓hold_pre, awayP, runOps, regK, step1, newK, genR, appR, obl, buildR, Value.cells, closeK, keepH, outV, retK, ret1, retC, RetV, Option.getD, runD, stepD, afterK, undef, simprocAttr, sxB, ↓sxD, sxE, sxTab]))
    exact hK
  have e1 : decide ((i : Int) < (T.length : Int)) = true := by rw [decide_eq_true_eq]; omega
  have b1 : (0 : Int) ≤ (i : Int) := by omega
  have b2 : (i : Int) < (T.length : Int) := by omega
  have hnn := hu.nn hlt
  have p1 := hu.pt hlt
  have hnx := all_take hlt hp
  have hno := all_not (p := chkT) hlt
  have wi : IntKind.i64.wrap ((i : Int) + 1) = ((i + 1 : Nat) : Int) := succ_i (by omega)
  have a1 := hu.part (P := Try.prog) (fun _ => rfl) tk47 tz47 (o := 0) hlt (by decide)
  have a2 := hu.atF (P := Try.prog) (T := 3) (fun _ => rfl) tk3 tz3 hlt (o := 2) (v := .int .i64 T[i].env) rfl
  have a3 := hu.atF (P := Try.prog) (T := 3) (fun _ => rfl) tk3 tz3 hlt (o := 3) (v := .int .i64 T[i].cost) rfl
  generalize T[i] = x at *
  have a1 : lookM Try.prog 47 M (addP (elemP u 4 i) 0) = some (.agg #[.string (bs x.pk), .string (bs x.ts)]) := a1
  cases hc : chkT x with
  | false =>
    have hn := hno hc
    rw [hn] at hK
    cases h1 : usaN x.pk x.ts with
    | false =>
      (replace hb0 := true_and True); refine Go1.mk ?_; repeat' ((first | (with_reducible refine Go1.go ?_) | ((with_reducible first | refine brv_mk ?_ ?_ | refine gsplitD ?_ ?_ | refine gsplitG ?_ ?_) <;> intro h <;> (try simp only [Bool.not_eq_true', Bool.not_eq_false'] at h) <;> replace hb0 := h) | (((with_reducible refine isCall (f := 49) ?_); refine callA_nil (by kernel_rfl) ?_; refine (rUsable_ok _ _ ?_))) | (((with_reducible refine isCall (f := 50) ?_); refine callA_nil (by kernel_rfl) ?_; refine (rPlace_ok _ ?_))) | (refine And.intro ?_ ?_; (try simp only [sxO] at *); omega) | fail) <;> (try simp (maxSteps := 1000000) only [hb0, rcSt, hu.one, hu.len, hu.sl, hnn, p1, e1, b1, b2, a1, a2, a3, h1, ↓hold_pre, awayP, runOps, regK, step1, newK, genR, appR, obl, buildR, Value.cells, closeK, keepH, outV, retK, ret1, retC, RetV, Option.getD, runD, stepD, afterK, undef, simprocAttr, sxB, ↓sxD, sxE, sxTab]))
      exact hK
    | true =>
      cases h2 : (decide (0 ≤ x.env) && decide (x.env ≤ 63)) with
      | false =>
        (replace hb0 := true_and True); refine Go1.mk ?_; repeat' ((first | (with_reducible refine Go1.go ?_) | ((with_reducible first | refine brv_mk ?_ ?_ | refine gsplitD ?_ ?_ | refine gsplitG ?_ ?_) <;> intro h <;> (try simp only [Bool.not_eq_true', Bool.not_eq_false'] at h) <;> replace hb0 := h) | (((with_reducible refine isCall (f := 49) ?_); refine callA_nil (by kernel_rfl) ?_; refine (rUsable_ok _ _ ?_))) | (((with_reducible refine isCall (f := 50) ?_); refine callA_nil (by kernel_rfl) ?_; refine (rPlace_ok _ ?_))) | (refine And.intro ?_ ?_; (try simp only [sxO] at *); omega) | fail) <;> (try simp (maxSteps := 1000000) only [hb0, rcSt, hu.one, hu.len, hu.sl, hnn, p1, e1, b1, b2, a1, a2, a3, h1, h2, ↓hold_pre, awayP, runOps, regK, step1, newK, genR, appR, obl, buildR, Value.cells, closeK, keepH, outV, retK, ret1, retC, RetV, Option.getD, runD, stepD, afterK, undef, simprocAttr, sxB, ↓sxD, sxE, sxTab]))
        exact hK
      | true =>
        have h3 := chkT_4 h1 h2
        rw [hc] at h3
        by_cases h4 : x.cost < 1
        · have d4 : decide (x.cost < 1) = true := decide_eq_true h4
          (replace hb0 := true_and True); refine Go1.mk ?_; repeat' ((first | (with_reducible refine Go1.go ?_) | ((with_reducible first | refine brv_mk ?_ ?_ | refine gsplitD ?_ ?_ | refine gsplitG ?_ ?_) <;> intro h <;> (try simp only [Bool.not_eq_true', Bool.not_eq_false'] at h) <;> replace hb0 := h) | (((with_reducible refine isCall (f := 49) ?_); refine callA_nil (by kernel_rfl) ?_; refine (rUsable_ok _ _ ?_))) | (((with_reducible refine isCall (f := 50) ?_); refine callA_nil (by kernel_rfl) ?_; refine (rPlace_ok _ ?_))) | (refine And.intro ?_ ?_; (try simp only [sxO] at *); omega) | fail) <;> (try simp (maxSteps := 1000000) only [hb0, rcSt, hu.one, hu.len, hu.sl, hnn, p1, e1, b1, b2, a1, a2, a3, h1, h2, d4, ↓hold_pre, awayP, runOps, regK, step1, newK, genR, appR, obl, buildR, Value.cells, closeK, keepH, outV, retK, ret1, retC, RetV, Option.getD, runD, stepD, afterK, undef, simprocAttr, sxB, ↓sxD, sxE, sxTab]))
          exact hK
        · have d4 : decide (x.cost < 1) = false := decide_eq_false h4
          rw [d4] at h3
          have d5 : decide (1048576 < x.cost) = true := by simpa using h3
          (replace hb0 := true_and True); refine Go1.mk ?_; repeat' ((first | (with_reducible refine Go1.go ?_) | ((with_reducible first | refine brv_mk ?_ ?_ | refine gsplitD ?_ ?_ | refine gsplitG ?_ ?_) <;> intro h <;> (try simp only [Bool.not_eq_true', Bool.not_eq_false'] at h) <;> replace hb0 := h) | (((with_reducible refine isCall (f := 49) ?_); refine callA_nil (by kernel_rfl) ?_; refine (rUsable_ok _ _ ?_))) | (((with_reducible refine isCall (f := 50) ?_); refine callA_nil (by kernel_rfl) ?_; refine (rPlace_ok _ ?_))) | (refine And.intro ?_ ?_; (try simp only [sxO] at *); omega) | fail) <;> (try simp (maxSteps := 1000000) only [hb0, rcSt, hu.one, hu.len, hu.sl, hnn, p1, e1, b1, b2, a1, a2, a3, h1, h2, d4, d5, ↓hold_pre, awayP, runOps, regK, step1, newK, genR, appR, obl, buildR, Value.cells, closeK, keepH, outV, retK, ret1, retC, RetV, Option.getD, runD, stepD, afterK, undef, simprocAttr, sxB, ↓sxD, sxE, sxTab]))
          exact hK
  | true =>
    have hcp := chkT_parts hc
    have h1 : usaN x.pk x.ts = true := by
      cases h : usaN x.pk x.ts with
      | true => rfl
      | false => rw [chkT_1 h] at hc; cases hc
    have h2 : (decide (0 ≤ x.env) && decide (x.env ≤ 63)) = true := by rw [decide_eq_true hcp.1, decide_eq_true hcp.2.1]; rfl
    have d4 : decide (x.cost < 1) = false := by rw [decide_eq_false_iff_not]; omega
    have d5 : decide (1048576 < x.cost) = false := by rw [decide_eq_false_iff_not]; omega
    (replace hb0 := true_and True); refine Go1.mk ?_; repeat' ((first | (with_reducible refine Go1.go ?_) | ((with_reducible first | refine brv_mk ?_ ?_ | refine gsplitD ?_ ?_ | refine gsplitG ?_ ?_) <;> intro h <;> (try simp only [Bool.not_eq_true', Bool.not_eq_false'] at h) <;> replace hb0 := h) | (((with_reducible refine isCall (f := 49) ?_); refine callA_nil (by kernel_rfl) ?_; refine (rUsable_ok _ _ ?_))) | (((with_reducible refine isCall (f := 50) ?_); refine callA_nil (by kernel_rfl) ?_; refine (rPlace_ok _ ?_))) | (refine And.intro ?_ ?_; (try simp only [sxO] at *); omega) | fail) <;> (try simp (maxSteps := 1000000) only [hb0, rcSt, hu.one, hu.len, hu.sl, hnn, p1, e1, b1, b2, a1, a2, a3, h1, h2, d4, d5, wi, ↓hold_pre, awayP, runOps, regK, step1, newK, genR, appR, obl, buildR, Value.cells, closeK, keepH, outV, retK, ret1, retC, RetV, Option.getD, runD, stepD, afterK, undef, simprocAttr, sxB, ↓sxD, sxE, sxTab]))
    exact ⟨T.length - (i + 1), rcSt M u (i + 1), by omega, le_sub ⟨rfl, rfl, trivial⟩ trivial rfl rfl rfl (keepLt0 _), i + 1, rfl, by omega, hnx hc, rfl⟩
theorem rcheck_ok (hu : IsR M 4 TK.c u T) (hb : T.length < 1000000) (n : Int) (hK : K (.ext (.int .i64 (errT T n))) [] M) : CallS Try.prog 37 [.ext u, .ext (.int .i64 n)] [] M [] K := by
  refine inlS (cs := []) Try.mixed Try.func37 rfl (by kernel_rfl) 0 rfl rfl ?_
  simp only [Try.f37]
  (replace hb0 := true_and True); refine Go1.mk ?_; repeat' ((first | (with_reducible refine Go1.go ?_) | ((with_reducible first | refine brv_mk ?_ ?_ | refine gsplitD ?_ ?_ | refine gsplitG ?_ ?_) <;> intro h <;> (try simp only [Bool.not_eq_true', Bool.not_eq_false'] at h) <;> replace hb0 := h) | (((with_reducible refine isCall (f := 30) ?_); refine callA_nil (by kernel_rfl) ?_; refine (rCheck_ok hu hb ?_))) | (refine And.intro ?_ ?_; (try simp only [sxO] at *); omega) | fail) <;> (try simp (maxSteps := 1000000) only [hb0, hu.one, ↓hold_pre, awayP, runOps, regK, step1, newK, genR, appR, obl, buildR, Value.cells, closeK, keepH, outV, retK, ret1, retC, RetV, Option.getD, runD, stepD, afterK, undef, simprocAttr, sxB, ↓sxD, sxE, sxTab]))
  · rw [errT_1 h] at hK; exact hK
  · rename_i h2
    rw [errT_2 h2 h] at hK; exact hK
  · rename_i h2
    rw [errT_3 h2 h] at hK; exact hK
end
end Go.Proofs.Ytgkfmlgfmcpebaa.Sx
namespace Go.Proofs.Ytgkfmlgfmcpebaa.Sx
open Go Go.RowKit
set_option linter.unusedVariables false
set_option linter.unusedSimpArgs false
set_option maxRecDepth 100000
set_option maxHeartbeats 8000000
attribute [local congr] fin_congr finG_congr stepG_congr step1_congr runOps_congr brv_congr obl_congr condK_congr LoopK_congr seqK_congr CutK_congr vc_congr DrawK_congr regK_congr CallK_congr AskK_congr newK_congr retC_congr ret1_congr retK_congr outV_congr closeK_congr genR_congr appR_congr finD_congr finGD_congr stepGD_congr stepD_congr CallK0_congr runD_congr okR_congr CallS_congr vcX_congr
attribute [local congr] Stop_congr
def sT (T : List TK) (i : Nat) : Nat := ((List.range i).map (cosN T)).sum
def mT (T : List TK) (i : Nat) : Nat := maxL ((List.range i).map (cosN T))
theorem maxL_snoc : ∀ (l : List Nat) (x : Nat), maxL (l ++ [x]) = max (maxL l) x
  | [], x => by simp [maxL]
  | y :: l, x => by simp only [List.cons_append, maxL, maxL_snoc l x]; omega
theorem sT_succ (T : List TK) (i : Nat) : sT T (i + 1) = sT T i + cosN T i := by unfold sT; rw [List.range_succ]; simp
theorem mT_succ (T : List TK) (i : Nat) : mT T (i + 1) = max (mT T i) (cosN T i) := by unfold mT; rw [List.range_succ, List.map_append]; exact maxL_snoc _ _
theorem cosN_cost {T : List TK} {i : Nat} (hi : i < T.length) (h : 1 ≤ cosI T i) : T[i].cost = ((cosN T i : Nat) : Int) := by unfold cosN; rw [Int.toNat_of_nonneg (by omega), cosI_in hi]
theorem tdivN (a b : Nat) : ((a : Int)).tdiv (b : Int) = ((a / b : Nat) : Int) := rfl
def bndT (T : List TK) (m : Nat) : Nat := bndU (cosN T) m (List.range T.length)
theorem bndT_eq (T : List TK) (m : Nat) : bndT T m = max (mT T T.length) ((sT T T.length + m - 1) / m) := rfl
section
variable {M : Mem} {K : AV → Hp → Mem → Prop} {u : Value} {T : List TK}
theorem sT_le (hc : ∀ i, i < T.length → 1 ≤ cosI T i ∧ cosI T i ≤ 1048576) : ∀ i, i ≤ T.length → sT T i ≤ i * 1048576
  | 0, _ => by simp [sT]
  | i + 1, h => by
    have := sT_le hc i (by omega)
    have := hc i (by omega)
    rw [sT_succ]
    have : cosN T i ≤ 1048576 := by unfold cosN; omega
    omega
theorem mT_le (hc : ∀ i, i < T.length → 1 ≤ cosI T i ∧ cosI T i ≤ 1048576) : ∀ i, i ≤ T.length → mT T i ≤ 1048576
  | 0, _ => by simp [mT, maxL]
  | i + 1, h => by
    have := mT_le hc i (by omega)
    have := hc i (by omega)
    rw [mT_succ]
    have : cosN T i ≤ 1048576 := by unfold cosN; omega
    omega
theorem maxI (a b : Nat) : (if (a : Int) < (b : Int) then (b : Int) else (a : Int)) = ((max a b : Nat) : Int) := by split <;> omega
def boSt (M : Mem) (u : Value) (T : List TK) (m i : Nat) : St := { env := [(11, .ext (.int .i64 (i : Int))), (10, .ext (.int .i64 (T.length : Int))), (9, .ext u), (6, .ext (.int .i64 ((mT T i : Nat) : Int))), (5, .ext (.int .i64 ((sT T i : Nat) : Int))), (1, .ext (.int .i64 (m : Int)))], hp := [], M := M, kb := 0, fx := [] }
theorem bound_ok (hu : IsR M 4 TK.c u T) (hc : chkTL T = true) {m : Nat} (hm1 : 1 ≤ m) (hm8 : m ≤ 8) (hK : K (.ext (.int .i64 ((bndT T m : Nat) : Int))) [] M) : CallS Try.prog 40 [.ext u, .ext (.int .i64 (m : Int))] [] M [] K := by
  obtain ⟨hT64, hTc⟩ := chkTL_parts hc
  refine inlS (cs := []) Try.mixed Try.func40 rfl (by kernel_rfl) 0 rfl rfl ?_
  simp only [Try.f40]
  (replace hb0 := true_and True); refine Go1.mk ?_; repeat' ((first | (with_reducible refine Go1.go ?_) | ((with_reducible first | refine brv_mk ?_ ?_ | refine gsplitD ?_ ?_ | refine gsplitG ?_ ?_) <;> intro h <;> (try simp only [Bool.not_eq_true', Bool.not_eq_false'] at h) <;> replace hb0 := h) | (refine And.intro ?_ ?_; (try simp only [sxO] at *); omega) | fail) <;> (try simp (maxSteps := 1000000) only [hb0, hu.one, hu.len, hu.sl, ↓hold_pre, awayP, runOps, regK, step1, newK, genR, appR, obl, buildR, Value.cells, closeK, keepH, outV, retK, ret1, retC, RetV, Option.getD, runD, stepD, afterK, undef, simprocAttr, sxB, ↓sxD, sxE, sxTab]))
  refine ⟨fun d z => ∃ i, i ≤ T.length ∧ d = T.length - i ∧ z = boSt M u T m i, ⟨T.length, boSt M u T m 0, le_sub ⟨rfl, rfl, rfl, rfl, rfl, rfl, trivial⟩ trivial rfl rfl rfl (keepLt0 _), ⟨0, by omega, by omega, rfl⟩⟩, ?_⟩
  rintro d z ⟨i, hi, rfl, rfl⟩
  have b5 := sT_le hTc i hi
  have b6 := mT_le hTc i hi
  by_cases hlt : i < T.length
  case neg =>
    obtain rfl : i = T.length := by omega
    have d1 : decide ((T.length : Int) < (T.length : Int)) = false := by simp
    have w1 : IntKind.i64.wrap (((sT T T.length : Nat) : Int) + (m : Int)) = ((sT T T.length + m : Nat) : Int) := by rw [wrap_id (by omega) (by omega)]; omega
    have w2 : IntKind.i64.wrap (((sT T T.length + m : Nat) : Int) - 1) = ((sT T T.length + m - 1 : Nat) : Int) := by rw [wrap_id (by omega) (by omega)]; omega
    have hd : (sT T T.length + m - 1) / m ≤ sT T T.length + m - 1 := Nat.div_le_self _ _
    have w3 : IntKind.i64.wrap (((sT T T.length + m - 1 : Nat) : Int).tdiv (m : Int)) = (((sT T T.length + m - 1) / m : Nat) : Int) := by
      rw [tdivN]
      generalize (sT T T.length + m - 1) / m = q at hd
      exact wrap_id (by omega) (by omega)
    have n0 : ((m : Int) = 0) = False := eq_false (by omega)
    have hx := maxI (mT T T.length) ((sT T T.length + m - 1) / m)
    rw [bndT_eq] at hK
    (replace hb0 := true_and True); refine Go1.mk ?_; repeat' ((first | (with_reducible refine Go1.go ?_) | ((with_reducible first | refine brv_mk ?_ ?_ | refine gsplitD ?_ ?_ | refine gsplitG ?_ ?_) <;> intro h <;> (try simp only [Bool.not_eq_true', Bool.not_eq_false'] at h) <;> replace hb0 := h) | ((with_reducible refine isDraw [some 15, some 16, some 17, some 18, some 19, some 20, some 21, some 22, some 5, some 6] (by decide) ?_); refine draw_rule [(0, []), (1, []), (2, []), (3, []), (4, [2]), (5, [2]), (6, [2]), (7, [2]), (8, [6]), (9, [])] [[], [], [1], [0, 1, 2], [], [], [5], [4, 5, 6], [0, 1, 2, 3], [0, 1, 2, 3, 4, 5, 6, 7, 8]] [15, 16, 17, 18, 19, 20, 21, 22] [5] (by kernel_rfl) (by kernel_rfl) (by kernel_rfl) (by kernel_rfl) (by exact ⟨rfl, trivial⟩) ?_) | (refine And.intro ?_ ?_; (try simp only [sxO] at *); omega) | fail) <;> (try simp (maxSteps := 1000000) only [hb0, boSt, d1, w1, w2, w3, n0, hx, not_false_eq_true, ↓hold_pre, awayP, runOps, regK, step1, newK, genR, appR, obl, buildR, Value.cells, closeK, keepH, outV, retK, ret1, retC, RetV, Option.getD, runD, stepD, afterK, undef, simprocAttr, sxB, ↓sxD, sxE, sxTab]))
    exact hK
  have d1 : decide ((i : Int) < (T.length : Int)) = true := by rw [decide_eq_true_eq]; omega
  have b1 : (0 : Int) ≤ (i : Int) := by omega
  have b2 : (i : Int) < (T.length : Int) := by omega
  have hnn := hu.nn hlt
  have hci := hTc i hlt
  have hcb : cosN T i ≤ 1048576 := by unfold cosN; omega
  have hat := hu.at (P := Try.prog) (T := 49) (fun _ => rfl) tk49 tz49 hlt
  have hcn := cosN_cost hlt hci.1
  have hat : lookM Try.prog 49 M (elemP u 4 i) = some (.agg #[.string (bs T[i].pk), .string (bs T[i].ts), .int .i64 T[i].env, .int .i64 T[i].cost]) := hat
  rw [hcn] at hat
  clear hcn
  generalize T[i] = x at *
  have w1 : IntKind.i64.wrap (((sT T i : Nat) : Int) + ((cosN T i : Nat) : Int)) = ((sT T (i + 1) : Nat) : Int) := by rw [sT_succ, wrap_id (by omega) (by omega)]; omega
  have hx := maxI (mT T i) (cosN T i)
  rw [← mT_succ] at hx
  have wi : IntKind.i64.wrap ((i : Int) + 1) = ((i + 1 : Nat) : Int) := succ_i (by omega)
  (replace hb0 := true_and True); refine Go1.mk ?_; repeat' ((first | (with_reducible refine Go1.go ?_) | ((with_reducible first | refine brv_mk ?_ ?_ | refine gsplitD ?_ ?_ | refine gsplitG ?_ ?_) <;> intro h <;> (try simp only [Bool.not_eq_true', Bool.not_eq_false'] at h) <;> replace hb0 := h) | ((with_reducible refine isDraw [some 15, some 16, some 17, some 18, some 19, some 20, some 21, some 22, some 5, some 6] (by decide) ?_); refine draw_rule [(0, []), (1, []), (2, []), (3, []), (4, [2]), (5, [2]), (6, [2]), (7, [2]), (8, [6]), (9, [])] [[], [], [1], [0, 1, 2], [], [], [5], [4, 5, 6], [0, 1, 2, 3], [0, 1, 2, 3, 4, 5, 6, 7, 8]] [15, 16, 17, 18, 19, 20, 21, 22] [5] (by kernel_rfl) (by kernel_rfl) (by kernel_rfl) (by kernel_rfl) (by exact ⟨rfl, trivial⟩) ?_) | (refine And.intro ?_ ?_; (try simp only [sxO] at *); omega) | fail) <;> (try simp (maxSteps := 1000000) only [hb0, boSt, hu.one, hu.len, hu.sl, hnn, d1, b1, b2, hat, w1, wi, hx, ↓hold_pre, awayP, runOps, regK, step1, newK, genR, appR, obl, buildR, Value.cells, closeK, keepH, outV, retK, ret1, retC, RetV, Option.getD, runD, stepD, afterK, undef, simprocAttr, sxB, ↓sxD, sxE, sxTab]))
  exact ⟨T.length - (i + 1), boSt M u T m (i + 1), by omega, le_sub ⟨rfl, rfl, rfl, rfl, rfl, rfl, trivial⟩ trivial rfl rfl rfl (keepLt0 _), i + 1, by omega, rfl, rfl⟩
def bndQ (T : List TK) (n : Int) : Int := if errT T n = 0 then ((bndT T n.toNat : Nat) : Int) else 0
theorem Bound_ok (hu : IsR M 4 TK.c u T) (hb : T.length < 1000000) (n : Int) (hK : K (.ext (.tuple #[.int .i64 (bndQ T n), .int .i64 (errT T n)])) [] M) : CallS Try.prog 24 [.ext u, .ext (.int .i64 n)] [] M [] K := by
  refine inlS (cs := []) Try.mixed Try.func24 rfl (by kernel_rfl) 0 rfl rfl ?_
  simp only [Try.f24]
  unfold bndQ at hK
  by_cases he : errT T n = 0
  case neg =>
    have d1 : decide (errT T n = 0) = false := decide_eq_false he
    rw [if_neg he] at hK
    (replace hb0 := true_and True); refine Go1.mk ?_; repeat' ((first | (with_reducible refine Go1.go ?_) | ((with_reducible first | refine brv_mk ?_ ?_ | refine gsplitD ?_ ?_ | refine gsplitG ?_ ?_) <;> intro h <;> (try simp only [Bool.not_eq_true', Bool.not_eq_false'] at h) <;> replace hb0 := h) | (((with_reducible refine isCall (f := 34) ?_); refine callA_nil (by kernel_rfl) ?_; refine (tcheck_ok hu hb n ?_))) | (refine And.intro ?_ ?_; (try simp only [sxO] at *); omega) | fail) <;> (try simp (maxSteps := 1000000) only [hb0, hu.one, d1, ↓hold_pre, awayP, runOps, regK, step1, newK, genR, appR, obl, buildR, Value.cells, closeK, keepH, outV, retK, ret1, retC, RetV, Option.getD, runD, stepD, afterK, undef, simprocAttr, sxB, ↓sxD, sxE, sxTab]))
    exact hK
  obtain ⟨hc, h1, h8⟩ := errT_0 he
  rw [if_pos he, he] at hK
  obtain ⟨m, rfl⟩ := Int.eq_ofNat_of_zero_le (show 0 ≤ n by omega)
  rw [Int.toNat_natCast] at hK
  (replace hb0 := true_and True); refine Go1.mk ?_; repeat' ((first | (with_reducible refine Go1.go ?_) | ((with_reducible first | refine brv_mk ?_ ?_ | refine gsplitD ?_ ?_ | refine gsplitG ?_ ?_) <;> intro h <;> (try simp only [Bool.not_eq_true', Bool.not_eq_false'] at h) <;> replace hb0 := h) | (((with_reducible refine isCall (f := 34) ?_); refine callA_nil (by kernel_rfl) ?_; refine (tcheck_ok hu hb _ ?_))) | (((with_reducible refine isCall (f := 40) ?_); refine callA_nil (by kernel_rfl) ?_; refine (bound_ok hu hc (by omega) (by omega) ?_))) | (refine And.intro ?_ ?_; (try simp only [sxO] at *); omega) | fail) <;> (try simp (maxSteps := 1000000) only [hb0, hu.one, he, ↓hold_pre, awayP, runOps, regK, step1, newK, genR, appR, obl, buildR, Value.cells, closeK, keepH, outV, retK, ret1, retC, RetV, Option.getD, runD, stepD, afterK, undef, simprocAttr, sxB, ↓sxD, sxE, sxTab]))
  exact hK
end
end Go.Proofs.Ytgkfmlgfmcpebaa.Sx
namespace Go.Proofs.Ytgkfmlgfmcpebaa.Sx
open Go Go.RowKit
set_option linter.unusedVariables false
theorem nodup_part {α : Type} [DecidableEq α] : ∀ {A o : List α}, A.Nodup → (∀ x ∈ A, x ∈ o) → ∃ r, o.Perm (A ++ r)
  | [], o, _, _ => ⟨o, List.Perm.refl _⟩
  | a :: A, o, hn, hs => by
    have ha := hs a List.mem_cons_self
    have hn2 := List.nodup_cons.1 hn
    obtain ⟨r, hr⟩ := nodup_part (A := A) (o := o.erase a) hn2.2 fun x hx => by
      have hne : x ≠ a := fun e => hn2.1 (e ▸ hx)
      exact (List.mem_erase_of_ne hne).2 (hs x (List.mem_cons_of_mem _ hx))
    exact ⟨r, (List.perm_cons_erase ha).trans (hr.cons a)⟩
theorem nodup_full {α : Type} [DecidableEq α] {A o : List α} (hn : A.Nodup) (hs : ∀ x ∈ A, x ∈ o) (hl : o.length ≤ A.length) : o.Perm A := by
  obtain ⟨r, hr⟩ := nodup_part hn hs
  have h1 := hr.length_eq
  rw [List.length_append] at h1
  have : r = [] := List.length_eq_zero_iff.1 (by omega)
  rw [this, List.append_nil] at hr
  exact hr
def placesI (n : Nat) : List Int := (List.range n).map Int.ofNat
theorem placesI_nodup (n : Nat) : (placesI n).Nodup := List.Pairwise.map _ (fun a b h e => h (Int.ofNat.inj e)) List.nodup_range
theorem mem_placesI {n : Nat} {x : Int} : x ∈ placesI n ↔ 0 ≤ x ∧ x < n := by
  unfold placesI
  rw [List.mem_map]
  constructor
  · rintro ⟨a, h1, rfl⟩
    have := List.mem_range.1 h1
    exact ⟨Int.natCast_nonneg _, by simpa using this⟩
  · rintro ⟨h1, h2⟩
    obtain ⟨k, rfl⟩ := Int.eq_ofNat_of_zero_le h1
    exact ⟨k, List.mem_range.2 (by omega), rfl⟩
theorem placesI_len (n : Nat) : (placesI n).length = n := by unfold placesI; simp
def permB (n : Nat) (o : List Int) : Bool := decide (o.length = n) && (placesI n).all fun i => o.contains i
theorem permB_iff {n : Nat} {o : List Int} : permB n o = true ↔ o.Perm (placesI n) := by
  unfold permB
  rw [Bool.and_eq_true, decide_eq_true_eq, List.all_eq_true]
  constructor
  · rintro ⟨h1, h2⟩
    exact nodup_full (placesI_nodup n) (fun x hx => by simpa using h2 x hx) (by rw [placesI_len]; omega)
  · intro h
    exact ⟨by rw [h.length_eq, placesI_len], fun x hx => by simpa using h.symm.subset hx⟩
theorem permB_of {n : Nat} {o : List Int} (h1 : o.Nodup) (h2 : ∀ x ∈ o, 0 ≤ x ∧ x < n) (h3 : o.length = n) : permB n o = true := permB_iff.2 (nodup_full h1 (fun x hx => mem_placesI.2 (h2 x hx)) (by rw [placesI_len]; omega)).symm
theorem permB_bad {n : Nat} {o : List Int} (h : ¬ (o.Nodup ∧ ∀ x ∈ o, 0 ≤ x ∧ x < n)) : permB n o = false := by
  cases hb : permB n o with
  | false => rfl
  | true =>
    have hp := permB_iff.1 hb
    exact absurd ⟨hp.symm.nodup (placesI_nodup n), fun x hx => mem_placesI.1 (hp.subset hx)⟩ h
def boV (b : Bool) : Value := .bool b
def seenL (n i : Nat) (o : List Int) : List Bool := (List.range n).map fun (k : Nat) => (o.take i).contains (k : Int)
theorem repN_bool (n : Nat) : ∀ (o : List Int), (repN [.bool false] n).map AV.ext = cE boV (seenL n 0 o) := fun o => by
  have h : ∀ m, (repN [.bool false] m).map AV.ext = List.replicate m (.ext (.bool false)) := fun m => by
    induction m with
    | zero => rfl
    | succ m ih => rw [List.replicate_succ, ← ih]; rfl
  rw [h]
  unfold cE seenL
  refine List.ext_getElem (by simp) fun j h2 h3 => by simp [boV]
end Go.Proofs.Ytgkfmlgfmcpebaa.Sx
namespace Go.Proofs.Ytgkfmlgfmcpebaa.Sx
open Go
set_option linter.unusedVariables false
def doneD (Sh : List (List Int)) (i k : Nat) : List Int := (Sh.take i).flatten ++ (Sh.getD i []).take k
theorem doneD_zero (Sh : List (List Int)) : doneD Sh 0 0 = [] := by simp [doneD]
theorem doneD_next {Sh : List (List Int)} {i : Nat} (hi : i < Sh.length) : doneD Sh i (Sh.getD i []).length = doneD Sh (i + 1) 0 := by
  unfold doneD
  rw [List.take_length, List.take_zero, List.append_nil, List.take_add_one, List.getElem?_eq_getElem hi, List.flatten_append, List.getD_eq_getElem?_getD, List.getElem?_eq_getElem hi]
  simp
theorem doneD_all (Sh : List (List Int)) : doneD Sh Sh.length 0 = Sh.flatten := by simp [doneD]
theorem doneD_succ {Sh : List (List Int)} {i k : Nat} {x : Int} (hx : (Sh.getD i [])[k]? = some x) : doneD Sh i (k + 1) = doneD Sh i k ++ [x] := by
  unfold doneD
  rw [List.take_add_one, hx, List.append_assoc]; rfl
theorem doneD_pre {Sh : List (List Int)} {i k : Nat} (hi : i < Sh.length) : ∃ r, Sh.flatten = doneD Sh i k ++ r := by
  refine ⟨(Sh.getD i []).drop k ++ (Sh.drop (i + 1)).flatten, ?_⟩
  have h : Sh = Sh.take i ++ Sh[i] :: Sh.drop (i + 1) := by rw [List.getElem_cons_drop, List.take_append_drop]
  unfold doneD
  rw [List.append_assoc, ← List.append_assoc _ _ (Sh.drop (i + 1)).flatten, List.take_append_drop, List.getD_eq_getElem?_getD, List.getElem?_eq_getElem hi]
  have h2 := congrArg List.flatten h
  rw [List.flatten_append, List.flatten_cons] at h2
  exact h2
def goodD (n : Nat) (D : List Int) : Prop := D.Nodup ∧ ∀ x ∈ D, 0 ≤ x ∧ x < (n : Int)
theorem goodD_nil (n : Nat) : goodD n [] := ⟨List.nodup_nil, fun x h => by cases h⟩
theorem goodD_len {n : Nat} {D : List Int} (h : goodD n D) : D.length ≤ n := by
  obtain ⟨r, hr⟩ := nodup_part h.1 fun x hx => mem_placesI.2 (h.2 x hx)
  have := hr.length_eq
  rw [placesI_len, List.length_append] at this
  omega
theorem goodD_snoc {n : Nat} {D : List Int} {x : Int} (h : goodD n D) (h1 : 0 ≤ x) (h2 : x < (n : Int)) (h3 : x ∉ D) : goodD n (D ++ [x]) := by
  refine ⟨List.nodup_append.2 ⟨h.1, by simp, fun a ha b hb => ?_⟩, fun y hy => ?_⟩
  · rw [List.mem_singleton.1 hb]; exact fun e => h3 (e ▸ ha)
  · rcases List.mem_append.1 hy with hy | hy
    · exact h.2 y hy
    · rw [List.mem_singleton.1 hy]; exact ⟨h1, h2⟩
theorem goodD_bad {n : Nat} {D : List Int} {x : Int} (h : x < 0 ∨ (n : Int) ≤ x ∨ x ∈ D) : ¬ goodD n (D ++ [x]) := fun hg => by
  have h1 := hg.2 x (by simp)
  rcases h with h | h | h
  · omega
  · omega
  · exact (List.nodup_append.1 hg.1).2.2 x h x (by simp) rfl
theorem goodD_app {n : Nat} {D r : List Int} (h : goodD n (D ++ r)) : goodD n D := ⟨(List.nodup_append.1 h.1).1, fun x hx => h.2 x (List.mem_append_left _ hx)⟩
theorem perm_good {n : Nat} {o : List Int} (h : ¬ goodD n o) : permB n o = false := permB_bad h
def seenD (n : Nat) (D : List Int) : List Bool := (List.range n).map fun (k : Nat) => D.contains (k : Int)
theorem seenD_len (n : Nat) (D : List Int) : (seenD n D).length = n := by unfold seenD; simp
theorem seenD_at {n k : Nat} {D : List Int} (h : k < n) : (cE boV (seenD n D))[k]? = some (.ext (.bool (D.contains (k : Int)))) := by
  rw [cE_at boV (by rw [seenD_len]; exact h)]; unfold seenD; simp [boV]
theorem seenD_set {n k : Nat} {D : List Int} (hk : k < n) : (cE boV (seenD n D)).set k (.ext (.bool true)) = cE boV (seenD n (D ++ [(k : Int)])) := by
  have h1 := cE_set boV (seenD n D) k true
  refine h1.trans ?_
  congr 1
  refine List.ext_getElem (by rw [List.length_set, seenD_len, seenD_len]) fun j h2 h3 => ?_
  rw [List.getElem_set]
  have e : ∀ (D : List Int) (h : j < (seenD n D).length), (seenD n D)[j] = D.contains (j : Int) := fun D h => by simp [seenD]
  rw [e _ h3]
  by_cases hj : k = j
  · subst hj; rw [if_pos rfl]; simp
  · rw [if_neg hj, e]
    have : (k : Int) ≠ (j : Int) := fun h => hj (by omega)
    rw [Bool.eq_iff_iff]
    simp only [List.contains_iff_mem, List.mem_append, List.mem_singleton]
    constructor
    · exact .inl
    · rintro (h | h)
      · exact h
      · exact absurd h.symm this
theorem repN_boD (n : Nat) : (repN [.bool false] n).map AV.ext = cE boV (seenD n []) := by
  have h := repN_bool n []
  rw [h]; unfold seenL seenD; simp
def sumC (T : List TK) (l : List Int) : Int := (l.map fun x => cosI T x.toNat).sum
theorem sumC_snoc (T : List TK) (l : List Int) (x : Int) : sumC T (l ++ [x]) = sumC T l + cosI T x.toNat := by unfold sumC; simp
theorem sumC_bd {T : List TK} (hc : ∀ i, i < T.length → 1 ≤ cosI T i ∧ cosI T i ≤ 1048576) : ∀ {l : List Int}, (∀ x ∈ l, 0 ≤ x ∧ x < (T.length : Int)) → 0 ≤ sumC T l ∧ sumC T l ≤ l.length * 1048576
  | [], _ => by simp [sumC]
  | x :: l, h => by
    have h1 := sumC_bd hc (l := l) fun y hy => h y (List.mem_cons_of_mem _ hy)
    have h2 := h x List.mem_cons_self
    have h3 := hc x.toNat (by omega)
    have e : sumC T (x :: l) = cosI T x.toNat + sumC T l := by unfold sumC; simp
    rw [e, List.length_cons]
    omega
def endsV (T : List TK) (Sh : List (List Int)) : List Int := Sh.map (sumC T)
def partE (Sh : List (List Int)) (i k r : Nat) : List Int := if r < i then Sh.getD r [] else if r = i then (Sh.getD r []).take k else []
def endD (T : List TK) (Sh : List (List Int)) (i k : Nat) : List Int := (List.range Sh.length).map fun r => sumC T (partE Sh i k r)
theorem endD_len (T : List TK) (Sh : List (List Int)) (i k : Nat) : (endD T Sh i k).length = Sh.length := by simp [endD]
theorem endD_at {T : List TK} {Sh : List (List Int)} {i k : Nat} (hi : i < Sh.length) : (cE intV64 (endD T Sh i k))[i]? = some (.ext (.int .i64 (sumC T ((Sh.getD i []).take k)))) := by
  rw [cE_at intV64 (by rw [endD_len]; exact hi)]; simp [endD, partE, intV64]
theorem endD_set {T : List TK} {Sh : List (List Int)} {i k : Nat} {x : Int} (hi : i < Sh.length) (hx : (Sh.getD i [])[k]? = some x) : (cE intV64 (endD T Sh i k)).set i (.ext (.int .i64 (sumC T ((Sh.getD i []).take k) + cosI T x.toNat))) = cE intV64 (endD T Sh i (k + 1)) := by
  have h1 := cE_set intV64 (endD T Sh i k) i (sumC T ((Sh.getD i []).take k) + cosI T x.toNat)
  refine h1.trans ?_
  congr 1
  refine List.ext_getElem (by rw [List.length_set, endD_len, endD_len]) fun j h2 h3 => ?_
  rw [List.getElem_set]
  have e : ∀ k (h : j < (endD T Sh i k).length), (endD T Sh i k)[j] = sumC T (partE Sh i k j) := fun k h => by simp [endD]
  rw [e _ h3]
  by_cases hj : i = j
  · subst hj
    rw [if_pos rfl]
    unfold partE
    rw [if_neg (by omega), if_pos rfl, List.take_add_one, hx]
    exact (sumC_snoc T _ x).symm
  · rw [if_neg hj, e]
    have e2 : partE Sh i k j = partE Sh i (k + 1) j := by
      unfold partE
      rw [if_neg (c := j = i) fun h => hj h.symm, if_neg (c := j = i) fun h => hj h.symm]
    rw [e2]
theorem endD_next {T : List TK} {Sh : List (List Int)} {i : Nat} : endD T Sh i (Sh.getD i []).length = endD T Sh (i + 1) 0 := by
  unfold endD
  refine List.map_congr_left fun r _ => ?_
  unfold partE
  by_cases h1 : r < i
  · rw [if_pos h1, if_pos (by omega)]
  · by_cases h2 : r = i
    · subst h2; rw [if_neg h1, if_pos rfl, if_pos (by omega), List.take_length]
    · rw [if_neg h1, if_neg h2, if_neg (by omega)]
      split <;> simp
theorem endD_zero (T : List TK) (Sh : List (List Int)) : (repN [.int .i64 0] Sh.length).map AV.ext = cE intV64 (endD T Sh 0 0) := by
  have h : endD T Sh 0 0 = List.replicate Sh.length 0 := by
    unfold endD
    refine List.ext_getElem (by simp) fun j h2 h3 => ?_
    simp only [List.getElem_map, List.getElem_replicate]
    unfold partE
    rw [if_neg (by omega)]
    split <;> simp [sumC]
  rw [h]
  exact cE_rep intV64 Sh.length 0
theorem endD_all (T : List TK) (Sh : List (List Int)) : endD T Sh Sh.length 0 = endsV T Sh := by
  refine List.ext_getElem (by simp [endD, endsV]) fun j h2 h3 => ?_
  have hj : j < Sh.length := by rw [endD_len] at h2; exact h2
  simp only [endD, endsV, List.getElem_map, List.getElem_range]
  unfold partE
  rw [if_pos hj, List.getD_eq_getElem?_getD, List.getElem?_eq_getElem hj]; rfl
def endQ (T : List TK) (Sh : List (List Int)) : List Int × Int := if errT T Sh.length = 0 then (if permB T.length Sh.flatten then (endsV T Sh, 0) else ([], 40)) else ([], errT T Sh.length)
theorem endQ_err {T : List TK} {Sh : List (List Int)} (h : ¬ errT T Sh.length = 0) : endQ T Sh = ([], errT T Sh.length) := by unfold endQ; rw [if_neg h]
theorem endQ_bad {T : List TK} {Sh : List (List Int)} (h : errT T Sh.length = 0) (h2 : permB T.length Sh.flatten = false) : endQ T Sh = ([], 40) := by unfold endQ; rw [if_pos h, h2]; rfl
theorem endQ_ok {T : List TK} {Sh : List (List Int)} (h : errT T Sh.length = 0) (h2 : permB T.length Sh.flatten = true) : endQ T Sh = (endsV T Sh, 0) := by unfold endQ; rw [if_pos h, h2]; rfl
theorem endQ_stop {T : List TK} {Sh : List (List Int)} {i k : Nat} {x : Int} (h : errT T Sh.length = 0) (hi : i < Sh.length) (hx : (Sh.getD i [])[k]? = some x) (hb : x < 0 ∨ (T.length : Int) ≤ x ∨ x ∈ doneD Sh i k) : endQ T Sh = ([], 40) := by
  refine endQ_bad h (perm_good fun hg => ?_)
  obtain ⟨r, hr⟩ := doneD_pre (k := k + 1) hi
  rw [hr] at hg
  have := goodD_app hg
  rw [doneD_succ hx] at this
  exact goodD_bad hb this
theorem endQ_fin {T : List TK} {Sh : List (List Int)} (h : errT T Sh.length = 0) (hg : goodD T.length Sh.flatten) : endQ T Sh = if Sh.flatten.length = T.length then (endsV T Sh, 0) else ([], 40) := by
  by_cases e : Sh.flatten.length = T.length
  · rw [if_pos e]; exact endQ_ok h (permB_of hg.1 hg.2 e)
  · rw [if_neg e]
    refine endQ_bad h ?_
    unfold permB
    rw [decide_eq_false e]; rfl
theorem part_bd {T : List TK} {Sh : List (List Int)} {i k : Nat} (hc : ∀ i, i < T.length → 1 ≤ cosI T i ∧ cosI T i ≤ 1048576) (hg : goodD T.length (doneD Sh i k)) (h64 : T.length ≤ 64) : 0 ≤ sumC T ((Sh.getD i []).take k) ∧ sumC T ((Sh.getD i []).take k) ≤ 64 * 1048576 := by
  have h1 := sumC_bd hc (l := (Sh.getD i []).take k) fun x hx => hg.2 x (List.mem_append_right _ hx)
  have h2 := goodD_len hg
  unfold doneD at h2
  rw [List.length_append] at h2
  omega
end Go.Proofs.Ytgkfmlgfmcpebaa.Sx
namespace Go.Proofs.Ytgkfmlgfmcpebaa.Sx
open Go Go.RowKit
set_option linter.unusedVariables false
set_option linter.unusedSimpArgs false
set_option maxRecDepth 100000
set_option maxHeartbeats 8000000
attribute [local congr] fin_congr finG_congr stepG_congr step1_congr runOps_congr brv_congr obl_congr condK_congr LoopK_congr seqK_congr CutK_congr vc_congr DrawK_congr regK_congr CallK_congr AskK_congr newK_congr retC_congr ret1_congr retK_congr outV_congr closeK_congr genR_congr appR_congr finD_congr finGD_congr stepGD_congr stepD_congr CallK0_congr runD_congr okR_congr CallS_congr vcX_congr
attribute [local congr] Stop_congr
section
variable {M : Mem} {K : AV → Hp → Mem → Prop} {u us : Value} {T : List TK} {Sh : List (List Int)}
def enSt (M : Mem) (u us : Value) (T : List TK) (Sh : List (List Int)) (i : Nat) : St := { env := [(29, .ext (.int .i64 (i : Int))), (28, .ext (.int .i64 (Sh.length : Int))), (27, .ext us), (9, .ext (.int .i64 ((doneD Sh i 0).length : Int))), (8, .slo 26 0 Sh.length 1), (7, .slo 23 0 T.length 1), (0, .ext u)], hp := [(26, 3, cE intV64 (endD T Sh i 0)), (23, 4, cE boV (seenD T.length (doneD Sh i 0)))], M := M, kb := 0, fx := [] }
def enIn (M : Mem) (u us x : Value) (T : List TK) (Sh : List (List Int)) (i k : Nat) : St := { env := [(36, .ext (.int .i64 (k : Int))), (35, .ext (.int .i64 ((Sh.getD i []).length : Int))), (34, .ext x), (10, .ext (.int .i64 (i : Int))), (29, .ext (.int .i64 (i : Int))), (28, .ext (.int .i64 (Sh.length : Int))), (27, .ext us), (9, .ext (.int .i64 ((doneD Sh i k).length : Int))), (8, .slo 26 0 Sh.length 1), (7, .slo 23 0 T.length 1), (0, .ext u)], hp := [(26, 3, cE intV64 (endD T Sh i k)), (23, 4, cE boV (seenD T.length (doneD Sh i k)))], M := M, kb := 0, fx := [] }
theorem Ends_ok (hu : IsR M 4 TK.c u T) (hb : T.length < 1000000) (hS : LL M us (LsI Sh)) (hSl : ∀ l ∈ Sh, l.length ≤ 9223372036854775807) (hSn : Sh.length < 1000000) (hK : ∀ U M', Mem.le M M' → IsL M' intV64 U (endQ T Sh).1 → FreshS M U → K (.ext (.tuple #[U, .int .i64 (endQ T Sh).2])) [] M') : CallS Try.prog 18 [.ext u, .ext us] [] M [] K := by
  refine CallS.frzF ?_
  refine inlS (cs := []) Try.mixed Try.func18 rfl (by kernel_rfl) 0 rfl rfl ?_
  simp only [Try.f18]
  obtain ⟨s1, s2, s3⟩ := hS.sl
  rw [LsI_len] at s2
  by_cases he : errT T Sh.length = 0
  case neg =>
    have d1 : decide (errT T Sh.length = 0) = false := decide_eq_false he
    rw [endQ_err he] at hK
    (replace hb0 := true_and True); refine Go1.mk ?_; repeat' ((first | (with_reducible refine Go1.go ?_) | ((with_reducible first | refine brv_mk ?_ ?_ | refine gsplitD ?_ ?_ | refine gsplitG ?_ ?_) <;> intro h <;> (try simp only [Bool.not_eq_true', Bool.not_eq_false'] at h) <;> replace hb0 := h) | (((with_reducible refine isCall (f := 34) ?_); refine callA_nil (by kernel_rfl) ?_; refine (tcheck_ok hu hb _ ?_))) | (refine And.intro ?_ ?_; (try simp only [sxO] at *); omega) | fail) <;> (try simp (maxSteps := 1000000) only [hb0, hu.one, s1, s2, s3, d1, hasK_nil, ↓hold_pre, awayP, runOps, regK, step1, newK, genR, appR, obl, buildR, Value.cells, closeK, keepH, outV, retK, ret1, retC, RetV, Option.getD, runD, stepD, afterK, undef, simprocAttr, sxB, ↓sxD, sxE, sxTab]))
    exact .inl (hK _ _ (Mem.le.refl _) (isL_nil _ _ _) (freshS_nil _ _))
  obtain ⟨hc, hm1, hm8⟩ := errT_0 he
  obtain ⟨hT64, hTc⟩ := chkTL_parts hc
  have t1 := Int.toNat_natCast T.length
  have t2 := Int.toNat_natCast Sh.length
  have t3 := repN_boD T.length
  have t4 := endD_zero T Sh
  (replace hb0 := true_and True); refine Go1.mk ?_; repeat' ((first | (with_reducible refine Go1.go ?_) | ((with_reducible first | refine brv_mk ?_ ?_ | refine gsplitD ?_ ?_ | refine gsplitG ?_ ?_) <;> intro h <;> (try simp only [Bool.not_eq_true', Bool.not_eq_false'] at h) <;> replace hb0 := h) | (((with_reducible refine isCall (f := 34) ?_); refine callA_nil (by kernel_rfl) ?_; refine (tcheck_ok hu hb _ ?_))) | ((with_reducible refine isDraw [some 21, some 22, some 23, some 24, some 25, some 26, some 7, some 8, some 9] (by decide) ?_); refine draw_rule [(0, []), (1, []), (2, []), (3, []), (4, []), (5, []), (6, []), (7, []), (8, [])] [[], [0], [0, 1], [], [3], [3, 4], [0, 1, 2], [0, 1, 2, 3, 4, 5, 6], [0, 1, 2, 3, 4, 5, 6, 7]] [21, 22, 23, 24, 25, 26, 7] [] (by kernel_rfl) (by kernel_rfl) (by kernel_rfl) (by kernel_rfl) (by exact trivial) ?_) | ((with_reducible refine isDraw [some 57, some 58, some 59, some 60, some 61, some 62, some 63, some 64, some 65, some 66, some 67, none] (by decide) ?_); refine draw_rule [(0, []), (1, []), (2, []), (3, []), (4, [3]), (5, [3]), (6, [3]), (7, [3]), (8, [3]), (9, []), (10, []), (11, [])] [[], [], [0, 1], [0, 1, 2], [], [], [4, 5], [4, 5, 6], [4, 5, 6, 7], [0, 1, 2, 3, 4, 5, 6, 7, 8], [0, 1, 2, 3, 4, 5, 6, 7, 8, 9], [0, 1, 2, 3, 4, 5, 6, 7, 8, 9, 10]] [57, 58, 59, 60, 61, 62, 63, 64, 65] [] (by kernel_rfl) (by kernel_rfl) (by kernel_rfl) (by kernel_rfl) (by exact trivial) ?_) | (refine And.intro ?_ ?_; (try simp only [sxO] at *); omega) | fail) <;> (try simp (maxSteps := 1000000) only [hb0, hu.one, hu.len, hu.sl, s1, s2, s3, he, t1, t2, t3, t4, cE_ment, cE_kill, hasK_nil, List.nil_append, ↓hold_pre, awayP, runOps, regK, step1, newK, genR, appR, obl, buildR, Value.cells, closeK, keepH, outV, retK, ret1, retC, RetV, Option.getD, runD, stepD, afterK, undef, simprocAttr, sxB, ↓sxD, sxE, sxTab]))
  refine ⟨fun d z => ∃ i, i ≤ Sh.length ∧ d = Sh.length - i ∧ goodD T.length (doneD Sh i 0) ∧ z = enSt M u us T Sh i, ⟨Sh.length, enSt M u us T Sh 0, le_sub ⟨rfl, rfl, rfl, rfl, rfl, rfl, rfl, trivial⟩ ⟨by simp [lkH, enSt], by simp [lkH, enSt, doneD_zero], trivial⟩ rfl rfl rfl (keepLt0 _), ⟨0, by omega, by omega, by rw [doneD_zero]; exact goodD_nil _, rfl⟩⟩, ?_⟩
  clear t1 t2 t3 t4
  rintro d z ⟨i, hi, rfl, hg, rfl⟩
  have g5 := goodD_len hg
  by_cases hlt : i < Sh.length
  case neg =>
    obtain rfl : i = Sh.length := by omega
    have d1 : decide ((Sh.length : Int) < (Sh.length : Int)) = false := by simp
    rw [doneD_all] at hg
    have hq := endQ_fin he hg
    have hda := doneD_all Sh
    by_cases hn : Sh.flatten.length = T.length
    · have d2 : decide ((Sh.flatten.length : Int) = (T.length : Int)) = true := by rw [decide_eq_true_eq]; omega
      rw [if_pos hn] at hq
      rw [hq] at hK
      (replace hb0 := true_and True); refine Go1.mk ?_; repeat' ((first | (with_reducible refine Go1.go ?_) | ((with_reducible first | refine brv_mk ?_ ?_ | refine gsplitD ?_ ?_ | refine gsplitG ?_ ?_) <;> intro h <;> (try simp only [Bool.not_eq_true', Bool.not_eq_false'] at h) <;> replace hb0 := h) | (refine And.intro ?_ ?_; (try simp only [sxO] at *); omega) | fail) <;> (try simp (maxSteps := 1000000) only [hb0, enSt, hda, hu.len, hu.sl, d1, d2, cE_ment, cE_kill, hasK_nil, ↓hold_pre, awayP, runOps, regK, step1, newK, genR, appR, obl, buildR, Value.cells, closeK, keepH, outV, retK, ret1, retC, RetV, Option.getD, runD, stepD, afterK, undef, simprocAttr, sxB, ↓sxD, sxE, sxTab]))
      refine FrzF.tup [] [.int .i64 0] ((endD T Sh Sh.length 0).map intV64) rfl (by simp [endD_len]) fun w M3 h1 h2 h3 => hK w M3 h1 ?_ h3
      rw [endD_all] at h2
      unfold IsL
      have : (endsV T Sh).length = Sh.length := by simp [endsV]
      rw [this]; exact h2
    · have d2 : decide ((Sh.flatten.length : Int) = (T.length : Int)) = false := by rw [decide_eq_false_iff_not]; omega
      rw [if_neg hn] at hq
      rw [hq] at hK
      (replace hb0 := true_and True); refine Go1.mk ?_; repeat' ((first | (with_reducible refine Go1.go ?_) | ((with_reducible first | refine brv_mk ?_ ?_ | refine gsplitD ?_ ?_ | refine gsplitG ?_ ?_) <;> intro h <;> (try simp only [Bool.not_eq_true', Bool.not_eq_false'] at h) <;> replace hb0 := h) | (refine And.intro ?_ ?_; (try simp only [sxO] at *); omega) | fail) <;> (try simp (maxSteps := 1000000) only [hb0, enSt, hda, hu.len, hu.sl, d1, d2, cE_ment, cE_kill, hasK_nil, ↓hold_pre, awayP, runOps, regK, step1, newK, genR, appR, obl, buildR, Value.cells, closeK, keepH, outV, retK, ret1, retC, RetV, Option.getD, runD, stepD, afterK, undef, simprocAttr, sxB, ↓sxD, sxE, sxTab]))
      exact .inl (hK _ _ (Mem.le.refl _) (isL_nil _ _ _) (freshS_nil _ _))
  have d1 : decide ((i : Int) < (Sh.length : Int)) = true := by rw [decide_eq_true_eq]; omega
  have b1 : (0 : Int) ≤ (i : Int) := by omega
  have b2 : (i : Int) < (Sh.length : Int) := by omega
  have wi : IntKind.i64.wrap ((i : Int) + 1) = ((i + 1 : Nat) : Int) := succ_i (by omega)
  obtain ⟨x, x1, x2, x3⟩ := hS.at (P := Try.prog) (Tt := 22) tk22 tz22 hlt
  have hxl : (Sh.getD i []).length ≤ 9223372036854775807 := hSl _ (by rw [List.getD_eq_getElem?_getD, List.getElem?_eq_getElem hlt]; exact List.getElem_mem _)
  (replace hb0 := true_and True); refine Go1.mk ?_; repeat' ((first | (with_reducible refine Go1.go ?_) | ((with_reducible first | refine brv_mk ?_ ?_ | refine gsplitD ?_ ?_ | refine gsplitG ?_ ?_) <;> intro h <;> (try simp only [Bool.not_eq_true', Bool.not_eq_false'] at h) <;> replace hb0 := h) | (refine And.intro ?_ ?_; (try simp only [sxO] at *); omega) | fail) <;> (try simp (maxSteps := 1000000) only [hb0, enSt, d1, b1, b2, s1, s2, s3, x1, x3, x2.one, x2.len, x2.sl, cE_ment, cE_kill, hasK_nil, ↓hold_pre, awayP, runOps, regK, step1, newK, genR, appR, obl, buildR, Value.cells, closeK, keepH, outV, retK, ret1, retC, RetV, Option.getD, runD, stepD, afterK, undef, simprocAttr, sxB, ↓sxD, sxE, sxTab]))
  refine ⟨fun d z => ∃ k, k ≤ (Sh.getD i []).length ∧ d = (Sh.getD i []).length - k ∧ goodD T.length (doneD Sh i k) ∧ z = enIn M u us x T Sh i k, ⟨(Sh.getD i []).length, enIn M u us x T Sh i 0, le_sub ⟨rfl, rfl, rfl, rfl, rfl, rfl, rfl, rfl, rfl, rfl, rfl, trivial⟩ ⟨rfl, rfl, trivial⟩ rfl rfl rfl (keepLt0 _), ⟨0, by omega, by omega, hg, rfl⟩⟩, ?_⟩
  clear hg g5
  rintro d z ⟨k, hk, rfl, hg, rfl⟩
  have g5 := goodD_len hg
  by_cases hlk : k < (Sh.getD i []).length
  case neg =>
    have ek : k = (Sh.getD i []).length := by omega
    subst ek
    have f1 := x2.fin hlk
    (replace hb0 := true_and True); refine Go1.mk ?_; repeat' ((first | (with_reducible refine Go1.go ?_) | ((with_reducible first | refine brv_mk ?_ ?_ | refine gsplitD ?_ ?_ | refine gsplitG ?_ ?_) <;> intro h <;> (try simp only [Bool.not_eq_true', Bool.not_eq_false'] at h) <;> replace hb0 := h) | (refine And.intro ?_ ?_; (try simp only [sxO] at *); omega) | fail) <;> (try simp (maxSteps := 1000000) only [hb0, enIn, f1, wi, cE_ment, cE_kill, hasK_nil, ↓hold_pre, awayP, runOps, regK, step1, newK, genR, appR, obl, buildR, Value.cells, closeK, keepH, outV, retK, ret1, retC, RetV, Option.getD, runD, stepD, afterK, undef, simprocAttr, sxB, ↓sxD, sxE, sxTab]))
    rw [doneD_next hlt] at hg
    exact ⟨Sh.length - (i + 1), enSt M u us T Sh (i + 1), by omega, le_sub ⟨rfl, rfl, rfl, by rw [doneD_next hlt]; rfl, rfl, rfl, rfl, trivial⟩ ⟨by rw [endD_next]; rfl, by rw [doneD_next hlt]; rfl, trivial⟩ rfl rfl rfl (keepLt0 _), i + 1, by omega, rfl, hg, rfl⟩
  have f1 := x2.idx (P := Try.prog) (T := 3) tk3 tz3 (by omega) hlk
  have hxk : (Sh.getD i [])[k]? = some (Sh.getD i [])[k] := List.getElem?_eq_getElem hlk
  generalize (Sh.getD i [])[k] = y at *
  by_cases hbad : y < 0 ∨ (T.length : Int) ≤ y
  · rw [endQ_stop he hlt hxk (by rcases hbad with h | h; exact .inl h; exact .inr (.inl h))] at hK
    have hl2 := seenD_len T.length (doneD Sh i k)
    by_cases h1 : y < 0
    · have d2 : decide (y < 0) = true := decide_eq_true h1
      (replace hb0 := true_and True); refine Go1.mk ?_; repeat' ((first | (with_reducible refine Go1.go ?_) | ((with_reducible first | refine brv_mk ?_ ?_ | refine gsplitD ?_ ?_ | refine gsplitG ?_ ?_) <;> intro h <;> (try simp only [Bool.not_eq_true', Bool.not_eq_false'] at h) <;> replace hb0 := h) | (refine And.intro ?_ ?_; (try simp only [sxO] at *); omega) | fail) <;> (try simp (maxSteps := 1000000) only [hb0, enIn, f1, intV64, hu.len, hu.sl, d2, cE_ment, cE_kill, hasK_nil, ↓hold_pre, awayP, runOps, regK, step1, newK, genR, appR, obl, buildR, Value.cells, closeK, keepH, outV, retK, ret1, retC, RetV, Option.getD, runD, stepD, afterK, undef, simprocAttr, sxB, ↓sxD, sxE, sxTab]))
      exact .inl (hK _ _ (Mem.le.refl _) (isL_nil _ _ _) (freshS_nil _ _))
    · have d2 : decide (y < 0) = false := decide_eq_false h1
      have d3 : decide ((T.length : Int) ≤ y) = true := by rw [decide_eq_true_eq]; omega
      (replace hb0 := true_and True); refine Go1.mk ?_; repeat' ((first | (with_reducible refine Go1.go ?_) | ((with_reducible first | refine brv_mk ?_ ?_ | refine gsplitD ?_ ?_ | refine gsplitG ?_ ?_) <;> intro h <;> (try simp only [Bool.not_eq_true', Bool.not_eq_false'] at h) <;> replace hb0 := h) | (refine And.intro ?_ ?_; (try simp only [sxO] at *); omega) | fail) <;> (try simp (maxSteps := 1000000) only [hb0, enIn, f1, intV64, hu.len, hu.sl, d2, d3, cE_ment, cE_kill, hasK_nil, ↓hold_pre, awayP, runOps, regK, step1, newK, genR, appR, obl, buildR, Value.cells, closeK, keepH, outV, retK, ret1, retC, RetV, Option.getD, runD, stepD, afterK, undef, simprocAttr, sxB, ↓sxD, sxE, sxTab]))
      exact .inl (hK _ _ (Mem.le.refl _) (isL_nil _ _ _) (freshS_nil _ _))
  obtain ⟨n, rfl⟩ := Int.eq_ofNat_of_zero_le (show 0 ≤ y by omega)
  have hnT : n < T.length := by omega
  have d2 : decide ((n : Int) < 0) = false := by rw [decide_eq_false_iff_not]; omega
  have d3 : decide ((T.length : Int) ≤ (n : Int)) = false := by rw [decide_eq_false_iff_not]; omega
  have b3 : (0 : Int) ≤ (n : Int) := by omega
  have b4 : (n : Int) < (T.length : Int) := by omega
  have hl2 : (cE boV (seenD T.length (doneD Sh i k))).length = T.length := by rw [cE_len, seenD_len]
  have hl3 : (cE intV64 (endD T Sh i k)).length = Sh.length := by rw [cE_len, endD_len]
  have hsa := seenD_at (n := T.length) (D := doneD Sh i k) hnT
  cases hcn : (doneD Sh i k).contains (n : Int) with
  | true =>
    rw [endQ_stop he hlt hxk (.inr (.inr (by simpa using hcn)))] at hK
    (replace hb0 := true_and True); refine Go1.mk ?_; repeat' ((first | (with_reducible refine Go1.go ?_) | ((with_reducible first | refine brv_mk ?_ ?_ | refine gsplitD ?_ ?_ | refine gsplitG ?_ ?_) <;> intro h <;> (try simp only [Bool.not_eq_true', Bool.not_eq_false'] at h) <;> replace hb0 := h) | (refine And.intro ?_ ?_; (try simp only [sxO] at *); omega) | fail) <;> (try simp (maxSteps := 1000000) only [hb0, enIn, f1, intV64, hu.len, hu.sl, d2, d3, b3, b4, hl2, hsa, hcn, Nat.mul_one, cE_ment, cE_kill, hasK_nil, ↓hold_pre, awayP, runOps, regK, step1, newK, genR, appR, obl, buildR, Value.cells, closeK, keepH, outV, retK, ret1, retC, RetV, Option.getD, runD, stepD, afterK, undef, simprocAttr, sxB, ↓sxD, sxE, sxTab]))
    exact .inl (hK _ _ (Mem.le.refl _) (isL_nil _ _ _) (freshS_nil _ _))
  | false =>
    have hss := seenD_set (n := T.length) (D := doneD Sh i k) hnT
    rw [← doneD_succ hxk] at hss
    have hg2 : goodD T.length (doneD Sh i (k + 1)) := by rw [doneD_succ hxk]; exact goodD_snoc hg (by omega) (by omega) (by simpa using hcn)
    have hen : (doneD Sh i (k + 1)).length = (doneD Sh i k).length + 1 := by rw [doneD_succ hxk, List.length_append]; rfl
    have w1 : IntKind.i64.wrap (((doneD Sh i k).length : Int) + 1) = ((doneD Sh i (k + 1)).length : Int) := by rw [hen]; exact succ_i (by omega)
    have hea := endD_at (T := T) (k := k) hlt
    have hes := endD_set (T := T) hlt hxk
    rw [Int.toNat_natCast] at hes
    have hpb := part_bd hTc hg hT64
    have hcb := hTc n hnT
    have hnn := hu.nn hnT
    have hpt := hu.pt hnT
    have hat := hu.atF (P := Try.prog) (T := 3) (fun _ => rfl) tk3 tz3 hnT (o := 3) (v := .int .i64 T[n].cost) rfl
    rw [← cosI_in hnT] at hat
    have w2 : IntKind.i64.wrap (sumC T ((Sh.getD i []).take k) + cosI T n) = sumC T ((Sh.getD i []).take k) + cosI T n := wrap_id (by omega) (by omega)
    (replace hb0 := true_and True); refine Go1.mk ?_; repeat' ((first | (with_reducible refine Go1.go ?_) | ((with_reducible first | refine brv_mk ?_ ?_ | refine gsplitD ?_ ?_ | refine gsplitG ?_ ?_) <;> intro h <;> (try simp only [Bool.not_eq_true', Bool.not_eq_false'] at h) <;> replace hb0 := h) | ((with_reducible refine isDraw [some 21, some 22, some 23, some 24, some 25, some 26, some 7, some 8, some 9] (by decide) ?_); refine draw_rule [(0, []), (1, []), (2, []), (3, []), (4, []), (5, []), (6, []), (7, []), (8, [])] [[], [0], [0, 1], [], [3], [3, 4], [0, 1, 2], [0, 1, 2, 3, 4, 5, 6], [0, 1, 2, 3, 4, 5, 6, 7]] [21, 22, 23, 24, 25, 26, 7] [] (by kernel_rfl) (by kernel_rfl) (by kernel_rfl) (by kernel_rfl) (by exact trivial) ?_) | ((with_reducible refine isDraw [some 57, some 58, some 59, some 60, some 61, some 62, some 63, some 64, some 65, some 66, some 67, none] (by decide) ?_); refine draw_rule [(0, []), (1, []), (2, []), (3, []), (4, [3]), (5, [3]), (6, [3]), (7, [3]), (8, [3]), (9, []), (10, []), (11, [])] [[], [], [0, 1], [0, 1, 2], [], [], [4, 5], [4, 5, 6], [4, 5, 6, 7], [0, 1, 2, 3, 4, 5, 6, 7, 8], [0, 1, 2, 3, 4, 5, 6, 7, 8, 9], [0, 1, 2, 3, 4, 5, 6, 7, 8, 9, 10]] [57, 58, 59, 60, 61, 62, 63, 64, 65] [] (by kernel_rfl) (by kernel_rfl) (by kernel_rfl) (by kernel_rfl) (by exact trivial) ?_) | (refine And.intro ?_ ?_; (try simp only [sxO] at *); omega) | fail) <;> (try simp (maxSteps := 1000000) only [hb0, enIn, f1, intV64, hu.one, hu.len, hu.sl, hnn, hpt, hat, d2, d3, b1, b2, b3, b4, hl2, hl3, hsa, hcn, hss, hea, hes, w1, w2, Nat.mul_one, cE_ment, cE_kill, hasK_nil, ↓hold_pre, awayP, runOps, regK, step1, newK, genR, appR, obl, buildR, Value.cells, closeK, keepH, outV, retK, ret1, retC, RetV, Option.getD, runD, stepD, afterK, undef, simprocAttr, sxB, ↓sxD, sxE, sxTab]))
    exact ⟨(Sh.getD i []).length - (k + 1), enIn M u us x T Sh i (k + 1), by omega, le_sub ⟨rfl, rfl, rfl, rfl, rfl, rfl, rfl, rfl, rfl, rfl, rfl, trivial⟩ ⟨rfl, rfl, trivial⟩ rfl rfl rfl (keepLt0 _), k + 1, by omega, rfl, hg2, rfl⟩
def renSt (M : Mem) (u us : Value) (T : List TK) (Sh : List (List Int)) (i : Nat) : St := { env := [(10, .ext (.int .i64 (i : Int))), (9, .ext (.int .i64 ((doneD Sh i 0).length : Int))), (8, .slo 25 0 T.length 1), (7, .slo 22 0 Sh.length 1), (1, .ext us), (0, .ext u)], hp := [(25, 4, cE boV (seenD T.length (doneD Sh i 0))), (22, 3, cE intV64 (endD T Sh i 0))], M := M, kb := 0, fx := [] }
def renIn (M : Mem) (u us : Value) (T : List TK) (Sh : List (List Int)) (i k : Nat) : St := { env := [(11, .ext (.int .i64 (k : Int))), (10, .ext (.int .i64 (i : Int))), (9, .ext (.int .i64 ((doneD Sh i k).length : Int))), (8, .slo 25 0 T.length 1), (7, .slo 22 0 Sh.length 1), (1, .ext us), (0, .ext u)], hp := [(25, 4, cE boV (seenD T.length (doneD Sh i k))), (22, 3, cE intV64 (endD T Sh i k))], M := M, kb := 0, fx := [] }
theorem rEnds_ok (hu : IsR M 4 TK.c u T) (hb : T.length < 1000000) (hS : LL M us (LsI Sh)) (hSl : ∀ l ∈ Sh, l.length ≤ 9223372036854775807) (hSn : Sh.length < 1000000) (hK : ∀ U M', Mem.le M M' → IsL M' intV64 U (endQ T Sh).1 → FreshS M U → K (.ext (.tuple #[U, .int .i64 (endQ T Sh).2])) [] M') : CallS Try.prog 19 [.ext u, .ext us] [] M [] K := by
  refine CallS.frzF ?_
  refine inlS (cs := []) Try.mixed Try.func19 rfl (by kernel_rfl) 0 rfl rfl ?_
  simp only [Try.f19]
  obtain ⟨s1, s2, s3⟩ := hS.sl
  rw [LsI_len] at s2
  by_cases he : errT T Sh.length = 0
  case neg =>
    have d1 : decide (errT T Sh.length = 0) = false := decide_eq_false he
    rw [endQ_err he] at hK
    (replace hb0 := true_and True); refine Go1.mk ?_; repeat' ((first | (with_reducible refine Go1.go ?_) | ((with_reducible first | refine brv_mk ?_ ?_ | refine gsplitD ?_ ?_ | refine gsplitG ?_ ?_) <;> intro h <;> (try simp only [Bool.not_eq_true', Bool.not_eq_false'] at h) <;> replace hb0 := h) | (((with_reducible refine isCall (f := 37) ?_); refine callA_nil (by kernel_rfl) ?_; refine (rcheck_ok hu hb _ ?_))) | (refine And.intro ?_ ?_; (try simp only [sxO] at *); omega) | fail) <;> (try simp (maxSteps := 1000000) only [hb0, hu.one, s1, s2, s3, d1, hasK_nil, ↓hold_pre, awayP, runOps, regK, step1, newK, genR, appR, obl, buildR, Value.cells, closeK, keepH, outV, retK, ret1, retC, RetV, Option.getD, runD, stepD, afterK, undef, simprocAttr, sxB, ↓sxD, sxE, sxTab]))
    exact .inl (hK _ _ (Mem.le.refl _) (isL_nil _ _ _) (freshS_nil _ _))
  obtain ⟨hc, hm1, hm8⟩ := errT_0 he
  obtain ⟨hT64, hTc⟩ := chkTL_parts hc
  have t1 := Int.toNat_natCast T.length
  have t2 := Int.toNat_natCast Sh.length
  have t3 := repN_boD T.length
  have t4 := endD_zero T Sh
  (replace hb0 := true_and True); refine Go1.mk ?_; repeat' ((first | (with_reducible refine Go1.go ?_) | ((with_reducible first | refine brv_mk ?_ ?_ | refine gsplitD ?_ ?_ | refine gsplitG ?_ ?_) <;> intro h <;> (try simp only [Bool.not_eq_true', Bool.not_eq_false'] at h) <;> replace hb0 := h) | (((with_reducible refine isCall (f := 37) ?_); refine callA_nil (by kernel_rfl) ?_; refine (rcheck_ok hu hb _ ?_))) | ((with_reducible refine isDraw [some 20, some 21, some 22, some 23, some 24, some 25, some 7, some 8, some 9] (by decide) ?_); refine draw_rule [(0, []), (1, []), (2, []), (3, []), (4, []), (5, []), (6, []), (7, []), (8, [])] [[], [0], [0, 1], [], [3], [3, 4], [0, 1, 2], [0, 1, 2, 3, 4, 5, 6], [0, 1, 2, 3, 4, 5, 6, 7]] [20, 21, 22, 23, 24, 25, 7] [] (by kernel_rfl) (by kernel_rfl) (by kernel_rfl) (by kernel_rfl) (by exact trivial) ?_) | ((with_reducible refine isDraw [some 65, some 66, some 67, some 68, some 69, some 70, some 71, some 72, some 73, some 74, some 75, none] (by decide) ?_); refine draw_rule [(0, []), (1, []), (2, []), (3, []), (4, [3]), (5, [3]), (6, [3]), (7, [3]), (8, [3]), (9, []), (10, []), (11, [])] [[], [], [0, 1], [0, 1, 2], [], [], [4, 5], [4, 5, 6], [4, 5, 6, 7], [0, 1, 2, 3, 4, 5, 6, 7, 8], [0, 1, 2, 3, 4, 5, 6, 7, 8, 9], [0, 1, 2, 3, 4, 5, 6, 7, 8, 9, 10]] [65, 66, 67, 68, 69, 70, 71, 72, 73] [] (by kernel_rfl) (by kernel_rfl) (by kernel_rfl) (by kernel_rfl) (by exact trivial) ?_) | (refine And.intro ?_ ?_; (try simp only [sxO] at *); omega) | fail) <;> (try simp (maxSteps := 1000000) only [hb0, hu.one, hu.len, hu.sl, s1, s2, s3, he, t1, t2, t3, t4, cE_ment, cE_kill, hasK_nil, List.nil_append, ↓hold_pre, awayP, runOps, regK, step1, newK, genR, appR, obl, buildR, Value.cells, closeK, keepH, outV, retK, ret1, retC, RetV, Option.getD, runD, stepD, afterK, undef, simprocAttr, sxB, ↓sxD, sxE, sxTab]))
  refine ⟨fun d z => ∃ i, i ≤ Sh.length ∧ d = Sh.length - i ∧ goodD T.length (doneD Sh i 0) ∧ z = renSt M u us T Sh i, ⟨Sh.length, renSt M u us T Sh 0, le_sub ⟨rfl, rfl, rfl, rfl, rfl, rfl, trivial⟩ ⟨by simp [lkH, renSt, doneD_zero], by simp [lkH, renSt], trivial⟩ rfl rfl rfl (keepLt0 _), ⟨0, by omega, by omega, by rw [doneD_zero]; exact goodD_nil _, rfl⟩⟩, ?_⟩
  clear t1 t2 t3 t4
  rintro d z ⟨i, hi, rfl, hg, rfl⟩
  have g5 := goodD_len hg
  by_cases hlt : i < Sh.length
  case neg =>
    obtain rfl : i = Sh.length := by omega
    have d1 : decide ((Sh.length : Int) < (Sh.length : Int)) = false := by simp
    rw [doneD_all] at hg
    have hq := endQ_fin he hg
    have hda := doneD_all Sh
    by_cases hn : Sh.flatten.length = T.length
    · have d2 : decide ((Sh.flatten.length : Int) = (T.length : Int)) = true := by rw [decide_eq_true_eq]; omega
      rw [if_pos hn] at hq
      rw [hq] at hK
      (replace hb0 := true_and True); refine Go1.mk ?_; repeat' ((first | (with_reducible refine Go1.go ?_) | ((with_reducible first | refine brv_mk ?_ ?_ | refine gsplitD ?_ ?_ | refine gsplitG ?_ ?_) <;> intro h <;> (try simp only [Bool.not_eq_true', Bool.not_eq_false'] at h) <;> replace hb0 := h) | (refine And.intro ?_ ?_; (try simp only [sxO] at *); omega) | fail) <;> (try simp (maxSteps := 1000000) only [hb0, renSt, s1, s2, s3, hda, hu.len, hu.sl, d1, d2, cE_ment, cE_kill, hasK_nil, ↓hold_pre, awayP, runOps, regK, step1, newK, genR, appR, obl, buildR, Value.cells, closeK, keepH, outV, retK, ret1, retC, RetV, Option.getD, runD, stepD, afterK, undef, simprocAttr, sxB, ↓sxD, sxE, sxTab]))
      refine FrzF.tup [] [.int .i64 0] ((endD T Sh Sh.length 0).map intV64) rfl (by simp [endD_len]) fun w M3 h1 h2 h3 => hK w M3 h1 ?_ h3
      rw [endD_all] at h2
      unfold IsL
      have : (endsV T Sh).length = Sh.length := by simp [endsV]
      rw [this]; exact h2
    · have d2 : decide ((Sh.flatten.length : Int) = (T.length : Int)) = false := by rw [decide_eq_false_iff_not]; omega
      rw [if_neg hn] at hq
      rw [hq] at hK
      (replace hb0 := true_and True); refine Go1.mk ?_; repeat' ((first | (with_reducible refine Go1.go ?_) | ((with_reducible first | refine brv_mk ?_ ?_ | refine gsplitD ?_ ?_ | refine gsplitG ?_ ?_) <;> intro h <;> (try simp only [Bool.not_eq_true', Bool.not_eq_false'] at h) <;> replace hb0 := h) | (refine And.intro ?_ ?_; (try simp only [sxO] at *); omega) | fail) <;> (try simp (maxSteps := 1000000) only [hb0, renSt, s1, s2, s3, hda, hu.len, hu.sl, d1, d2, cE_ment, cE_kill, hasK_nil, ↓hold_pre, awayP, runOps, regK, step1, newK, genR, appR, obl, buildR, Value.cells, closeK, keepH, outV, retK, ret1, retC, RetV, Option.getD, runD, stepD, afterK, undef, simprocAttr, sxB, ↓sxD, sxE, sxTab]))
      exact .inl (hK _ _ (Mem.le.refl _) (isL_nil _ _ _) (freshS_nil _ _))
  have d1 : decide ((i : Int) < (Sh.length : Int)) = true := by rw [decide_eq_true_eq]; omega
  have b1 : (0 : Int) ≤ (i : Int) := by omega
  have b2 : (i : Int) < (Sh.length : Int) := by omega
  have wi : IntKind.i64.wrap ((i : Int) + 1) = ((i + 1 : Nat) : Int) := succ_i (by omega)
  obtain ⟨x, x1, x2, x3⟩ := hS.at (P := Try.prog) (Tt := 22) tk22 tz22 hlt
  have hxl : (Sh.getD i []).length ≤ 9223372036854775807 := hSl _ (by rw [List.getD_eq_getElem?_getD, List.getElem?_eq_getElem hlt]; exact List.getElem_mem _)
  (replace hb0 := true_and True); refine Go1.mk ?_; repeat' ((first | (with_reducible refine Go1.go ?_) | ((with_reducible first | refine brv_mk ?_ ?_ | refine gsplitD ?_ ?_ | refine gsplitG ?_ ?_) <;> intro h <;> (try simp only [Bool.not_eq_true', Bool.not_eq_false'] at h) <;> replace hb0 := h) | (refine And.intro ?_ ?_; (try simp only [sxO] at *); omega) | fail) <;> (try simp (maxSteps := 1000000) only [hb0, renSt, d1, b1, b2, s1, s2, s3, x1, x3, x2.one, x2.len, x2.sl, cE_ment, cE_kill, hasK_nil, ↓hold_pre, awayP, runOps, regK, step1, newK, genR, appR, obl, buildR, Value.cells, closeK, keepH, outV, retK, ret1, retC, RetV, Option.getD, runD, stepD, afterK, undef, simprocAttr, sxB, ↓sxD, sxE, sxTab]))
  refine ⟨fun d z => ∃ k, k ≤ (Sh.getD i []).length ∧ d = (Sh.getD i []).length - k ∧ goodD T.length (doneD Sh i k) ∧ z = renIn M u us T Sh i k, ⟨(Sh.getD i []).length, renIn M u us T Sh i 0, le_sub ⟨rfl, rfl, rfl, rfl, rfl, rfl, rfl, trivial⟩ ⟨rfl, rfl, trivial⟩ rfl rfl rfl (keepLt0 _), ⟨0, by omega, by omega, hg, rfl⟩⟩, ?_⟩
  clear hg g5
  rintro d z ⟨k, hk, rfl, hg, rfl⟩
  have g5 := goodD_len hg
  by_cases hlk : k < (Sh.getD i []).length
  case neg =>
    have ek : k = (Sh.getD i []).length := by omega
    subst ek
    have f1 := x2.fin hlk
    (replace hb0 := true_and True); refine Go1.mk ?_; repeat' ((first | (with_reducible refine Go1.go ?_) | ((with_reducible first | refine brv_mk ?_ ?_ | refine gsplitD ?_ ?_ | refine gsplitG ?_ ?_) <;> intro h <;> (try simp only [Bool.not_eq_true', Bool.not_eq_false'] at h) <;> replace hb0 := h) | (refine And.intro ?_ ?_; (try simp only [sxO] at *); omega) | fail) <;> (try simp (maxSteps := 1000000) only [hb0, renIn, x1, x3, x2.one, s1, s2, s3, b1, b2, f1, wi, cE_ment, cE_kill, hasK_nil, ↓hold_pre, awayP, runOps, regK, step1, newK, genR, appR, obl, buildR, Value.cells, closeK, keepH, outV, retK, ret1, retC, RetV, Option.getD, runD, stepD, afterK, undef, simprocAttr, sxB, ↓sxD, sxE, sxTab]))
    rw [doneD_next hlt] at hg
    exact ⟨Sh.length - (i + 1), renSt M u us T Sh (i + 1), by omega, le_sub ⟨rfl, by rw [doneD_next hlt]; rfl, rfl, rfl, rfl, rfl, trivial⟩ ⟨by rw [doneD_next hlt]; rfl, by rw [endD_next]; rfl, trivial⟩ rfl rfl rfl (keepLt0 _), i + 1, by omega, rfl, hg, rfl⟩
  have f1 := x2.idx (P := Try.prog) (T := 3) tk3 tz3 (by omega) hlk
  have hxk : (Sh.getD i [])[k]? = some (Sh.getD i [])[k] := List.getElem?_eq_getElem hlk
  generalize (Sh.getD i [])[k] = y at *
  by_cases hbad : y < 0 ∨ (T.length : Int) ≤ y
  · rw [endQ_stop he hlt hxk (by rcases hbad with h | h; exact .inl h; exact .inr (.inl h))] at hK
    have hl2 := seenD_len T.length (doneD Sh i k)
    by_cases h1 : y < 0
    · have d2 : decide (y < 0) = true := decide_eq_true h1
      (replace hb0 := true_and True); refine Go1.mk ?_; repeat' ((first | (with_reducible refine Go1.go ?_) | ((with_reducible first | refine brv_mk ?_ ?_ | refine gsplitD ?_ ?_ | refine gsplitG ?_ ?_) <;> intro h <;> (try simp only [Bool.not_eq_true', Bool.not_eq_false'] at h) <;> replace hb0 := h) | (refine And.intro ?_ ?_; (try simp only [sxO] at *); omega) | fail) <;> (try simp (maxSteps := 1000000) only [hb0, renIn, x1, x3, x2.one, s1, s2, s3, b1, b2, f1, intV64, hu.len, hu.sl, d2, cE_ment, cE_kill, hasK_nil, ↓hold_pre, awayP, runOps, regK, step1, newK, genR, appR, obl, buildR, Value.cells, closeK, keepH, outV, retK, ret1, retC, RetV, Option.getD, runD, stepD, afterK, undef, simprocAttr, sxB, ↓sxD, sxE, sxTab]))
      exact .inl (hK _ _ (Mem.le.refl _) (isL_nil _ _ _) (freshS_nil _ _))
    · have d2 : decide (y < 0) = false := decide_eq_false h1
      have d3 : decide ((T.length : Int) ≤ y) = true := by rw [decide_eq_true_eq]; omega
      (replace hb0 := true_and True); refine Go1.mk ?_; repeat' ((first | (with_reducible refine Go1.go ?_) | ((with_reducible first | refine brv_mk ?_ ?_ | refine gsplitD ?_ ?_ | refine gsplitG ?_ ?_) <;> intro h <;> (try simp only [Bool.not_eq_true', Bool.not_eq_false'] at h) <;> replace hb0 := h) | (refine And.intro ?_ ?_; (try simp only [sxO] at *); omega) | fail) <;> (try simp (maxSteps := 1000000) only [hb0, renIn, x1, x3, x2.one, s1, s2, s3, b1, b2, f1, intV64, hu.len, hu.sl, d2, d3, cE_ment, cE_kill, hasK_nil, ↓hold_pre, awayP, runOps, regK, step1, newK, genR, appR, obl, buildR, Value.cells, closeK, keepH, outV, retK, ret1, retC, RetV, Option.getD, runD, stepD, afterK, undef, simprocAttr, sxB, ↓sxD, sxE, sxTab]))
      exact .inl (hK _ _ (Mem.le.refl _) (isL_nil _ _ _) (freshS_nil _ _))
  obtain ⟨n, rfl⟩ := Int.eq_ofNat_of_zero_le (show 0 ≤ y by omega)
  have hnT : n < T.length := by omega
  have d2 : decide ((n : Int) < 0) = false := by rw [decide_eq_false_iff_not]; omega
  have d3 : decide ((T.length : Int) ≤ (n : Int)) = false := by rw [decide_eq_false_iff_not]; omega
  have b3 : (0 : Int) ≤ (n : Int) := by omega
  have b4 : (n : Int) < (T.length : Int) := by omega
  have hl2 : (cE boV (seenD T.length (doneD Sh i k))).length = T.length := by rw [cE_len, seenD_len]
  have hl3 : (cE intV64 (endD T Sh i k)).length = Sh.length := by rw [cE_len, endD_len]
  have hsa := seenD_at (n := T.length) (D := doneD Sh i k) hnT
  cases hcn : (doneD Sh i k).contains (n : Int) with
  | true =>
    rw [endQ_stop he hlt hxk (.inr (.inr (by simpa using hcn)))] at hK
    (replace hb0 := true_and True); refine Go1.mk ?_; repeat' ((first | (with_reducible refine Go1.go ?_) | ((with_reducible first | refine brv_mk ?_ ?_ | refine gsplitD ?_ ?_ | refine gsplitG ?_ ?_) <;> intro h <;> (try simp only [Bool.not_eq_true', Bool.not_eq_false'] at h) <;> replace hb0 := h) | (refine And.intro ?_ ?_; (try simp only [sxO] at *); omega) | fail) <;> (try simp (maxSteps := 1000000) only [hb0, renIn, x1, x3, x2.one, s1, s2, s3, b1, b2, f1, intV64, hu.len, hu.sl, d2, d3, b3, b4, hl2, hsa, hcn, Nat.mul_one, cE_ment, cE_kill, hasK_nil, ↓hold_pre, awayP, runOps, regK, step1, newK, genR, appR, obl, buildR, Value.cells, closeK, keepH, outV, retK, ret1, retC, RetV, Option.getD, runD, stepD, afterK, undef, simprocAttr, sxB, ↓sxD, sxE, sxTab]))
    exact .inl (hK _ _ (Mem.le.refl _) (isL_nil _ _ _) (freshS_nil _ _))
  | false =>
    have hss := seenD_set (n := T.length) (D := doneD Sh i k) hnT
    rw [← doneD_succ hxk] at hss
    have hg2 : goodD T.length (doneD Sh i (k + 1)) := by rw [doneD_succ hxk]; exact goodD_snoc hg (by omega) (by omega) (by simpa using hcn)
    have hen : (doneD Sh i (k + 1)).length = (doneD Sh i k).length + 1 := by rw [doneD_succ hxk, List.length_append]; rfl
    have w1 : IntKind.i64.wrap (((doneD Sh i k).length : Int) + 1) = ((doneD Sh i (k + 1)).length : Int) := by rw [hen]; exact succ_i (by omega)
    have hea := endD_at (T := T) (k := k) hlt
    have hes := endD_set (T := T) hlt hxk
    rw [Int.toNat_natCast] at hes
    have hpb := part_bd hTc hg hT64
    have hcb := hTc n hnT
    have hnn := hu.nn hnT
    have hpt := hu.pt hnT
    have hat := hu.atF (P := Try.prog) (T := 3) (fun _ => rfl) tk3 tz3 hnT (o := 3) (v := .int .i64 T[n].cost) rfl
    rw [← cosI_in hnT] at hat
    have w2 : IntKind.i64.wrap (sumC T ((Sh.getD i []).take k) + cosI T n) = sumC T ((Sh.getD i []).take k) + cosI T n := wrap_id (by omega) (by omega)
    (replace hb0 := true_and True); refine Go1.mk ?_; repeat' ((first | (with_reducible refine Go1.go ?_) | ((with_reducible first | refine brv_mk ?_ ?_ | refine gsplitD ?_ ?_ | refine gsplitG ?_ ?_) <;> intro h <;> (try simp only [Bool.not_eq_true', Bool.not_eq_false'] at h) <;> replace hb0 := h) | ((with_reducible refine isDraw [some 20, some 21, some 22, some 23, some 24, some 25, some 7, some 8, some 9] (by decide) ?_); refine draw_rule [(0, []), (1, []), (2, []), (3, []), (4, []), (5, []), (6, []), (7, []), (8, [])] [[], [0], [0, 1], [], [3], [3, 4], [0, 1, 2], [0, 1, 2, 3, 4, 5, 6], [0, 1, 2, 3, 4, 5, 6, 7]] [20, 21, 22, 23, 24, 25, 7] [] (by kernel_rfl) (by kernel_rfl) (by kernel_rfl) (by kernel_rfl) (by exact trivial) ?_) | ((with_reducible refine isDraw [some 65, some 66, some 67, some 68, some 69, some 70, some 71, some 72, some 73, some 74, some 75, none] (by decide) ?_); refine draw_rule [(0, []), (1, []), (2, []), (3, []), (4, [3]), (5, [3]), (6, [3]), (7, [3]), (8, [3]), (9, []), (10, []), (11, [])] [[], [], [0, 1], [0, 1, 2], [], [], [4, 5], [4, 5, 6], [4, 5, 6, 7], [0, 1, 2, 3, 4, 5, 6, 7, 8], [0, 1, 2, 3, 4, 5, 6, 7, 8, 9], [0, 1, 2, 3, 4, 5, 6, 7, 8, 9, 10]] [65, 66, 67, 68, 69, 70, 71, 72, 73] [] (by kernel_rfl) (by kernel_rfl) (by kernel_rfl) (by kernel_rfl) (by exact trivial) ?_) | (refine And.intro ?_ ?_; (try simp only [sxO] at *); omega) | fail) <;> (try simp (maxSteps := 1000000) only [hb0, renIn, x1, x3, x2.one, s1, s2, s3, b1, b2, f1, intV64, hu.one, hu.len, hu.sl, hnn, hpt, hat, d2, d3, b1, b2, b3, b4, hl2, hl3, hsa, hcn, hss, hea, hes, w1, w2, Nat.mul_one, cE_ment, cE_kill, hasK_nil, ↓hold_pre, awayP, runOps, regK, step1, newK, genR, appR, obl, buildR, Value.cells, closeK, keepH, outV, retK, ret1, retC, RetV, Option.getD, runD, stepD, afterK, undef, simprocAttr, sxB, ↓sxD, sxE, sxTab]))
    exact ⟨(Sh.getD i []).length - (k + 1), renIn M u us T Sh i (k + 1), by omega, le_sub ⟨rfl, rfl, rfl, rfl, rfl, rfl, rfl, trivial⟩ ⟨rfl, rfl, trivial⟩ rfl rfl rfl (keepLt0 _), k + 1, by omega, rfl, hg2, rfl⟩
end
end Go.Proofs.Ytgkfmlgfmcpebaa.Sx
namespace Go.Proofs.Ytgkfmlgfmcpebaa.Sx
open Go Go.RowKit
set_option linter.unusedVariables false
set_option linter.unusedSimpArgs false
set_option maxRecDepth 100000
set_option maxHeartbeats 8000000
attribute [local congr] fin_congr finG_congr stepG_congr step1_congr runOps_congr brv_congr obl_congr condK_congr LoopK_congr seqK_congr CutK_congr vc_congr DrawK_congr regK_congr CallK_congr AskK_congr newK_congr retC_congr ret1_congr retK_congr outV_congr closeK_congr genR_congr appR_congr finD_congr finGD_congr stepGD_congr stepD_congr CallK0_congr runD_congr okR_congr CallS_congr vcX_congr
attribute [local congr] Stop_congr
set_option maxRecDepth 100000
section
variable {M : Mem} {K : AV → Hp → Mem → Prop} {u v : Value} {T : List TK}
end
end Go.Proofs.Ytgkfmlgfmcpebaa.Sx
namespace Go.Proofs.Ytgkfmlgfmcpebaa.Sx
open Go Go.RowKit
set_option linter.unusedVariables false
set_option linter.unusedSimpArgs false
set_option maxRecDepth 100000
set_option maxHeartbeats 8000000
attribute [local congr] fin_congr finG_congr stepG_congr step1_congr runOps_congr brv_congr obl_congr condK_congr LoopK_congr seqK_congr CutK_congr vc_congr DrawK_congr regK_congr CallK_congr AskK_congr newK_congr retC_congr ret1_congr retK_congr outV_congr closeK_congr genR_congr appR_congr finD_congr finGD_congr stepGD_congr stepD_congr CallK0_congr runD_congr okR_congr CallS_congr vcX_congr
attribute [local congr] Stop_congr
section
variable {M : Mem} {K : AV → Hp → Mem → Prop} {u v up : Value} {T : List TK} {Pl : List (List Int)}
end
end Go.Proofs.Ytgkfmlgfmcpebaa.Sx
namespace Go.Proofs.Ytgkfmlgfmcpebaa.Sx
open Go Go.RowKit
set_option linter.unusedVariables false
set_option linter.unusedSimpArgs false
set_option maxRecDepth 100000
set_option maxHeartbeats 8000000
attribute [local congr] fin_congr finG_congr stepG_congr step1_congr runOps_congr brv_congr obl_congr condK_congr LoopK_congr seqK_congr CutK_congr vc_congr DrawK_congr regK_congr CallK_congr AskK_congr newK_congr retC_congr ret1_congr retK_congr outV_congr closeK_congr genR_congr appR_congr finD_congr finGD_congr stepGD_congr stepD_congr CallK0_congr runD_congr okR_congr CallS_congr vcX_congr
attribute [local congr] Stop_congr
section
variable {M : Mem} {K : AV → Hp → Mem → Prop} {u up v : Value} {T : List TK}
end
end Go.Proofs.Ytgkfmlgfmcpebaa.Sx
namespace Go.Proofs.Ytgkfmlgfmcpebaa.Sx
open Go Go.RowKit
set_option linter.unusedVariables false
set_option linter.unusedSimpArgs false
set_option maxRecDepth 100000
set_option maxHeartbeats 8000000
attribute [local congr] fin_congr finG_congr stepG_congr step1_congr runOps_congr brv_congr obl_congr condK_congr LoopK_congr seqK_congr CutK_congr vc_congr DrawK_congr regK_congr CallK_congr AskK_congr newK_congr retC_congr ret1_congr retK_congr outV_congr closeK_congr genR_congr appR_congr finD_congr finGD_congr stepGD_congr stepD_congr CallK0_congr runD_congr okR_congr CallS_congr vcX_congr
attribute [local congr] Stop_congr
section
variable {M : Mem} {K : AV → Hp → Mem → Prop} {u : Value} {T : List TK}
theorem set_back {E : List Nat} {k x : Nat} (h : k < E.length) : (E.set k x).set k (E.getD k 0) = E := by
  rw [List.set_set, List.getD_eq_getElem?_getD, List.getElem?_eq_getElem h]
  exact List.set_getElem_self h
def bestN (T : List TK) (m : Nat) : Nat := rbs (cosN T) (List.range T.length) (List.replicate m 0)
def bestQ (T : List TK) (n : Int) : Int × Int := if errT T n = 0 then (if T.length ≤ 10 then (((bestN T n.toNat : Nat) : Int), 0) else (0, 2)) else (0, errT T n)
theorem bestQ_err {n : Int} (h : ¬ errT T n = 0) : bestQ T n = (0, errT T n) := by unfold bestQ; rw [if_neg h]
theorem bestQ_many {n : Int} (h : errT T n = 0) (h2 : ¬ T.length ≤ 10) : bestQ T n = (0, 2) := by unfold bestQ; rw [if_pos h, if_neg h2]
theorem bestQ_ok {m : Nat} (h : errT T m = 0) (h2 : T.length ≤ 10) : bestQ T m = (((bestN T m : Nat) : Int), 0) := by unfold bestQ; rw [if_pos h, if_pos h2, Int.toNat_natCast]
end
end Go.Proofs.Ytgkfmlgfmcpebaa.Sx
namespace Go.Proofs.Ytgkfmlgfmcpebaa.Sx
open Go Go.RowKit
set_option linter.unusedVariables false
set_option linter.unusedSimpArgs false
set_option maxRecDepth 100000
set_option maxHeartbeats 8000000
attribute [local congr] fin_congr finG_congr stepG_congr step1_congr runOps_congr brv_congr obl_congr condK_congr LoopK_congr seqK_congr CutK_congr vc_congr DrawK_congr regK_congr CallK_congr AskK_congr newK_congr retC_congr ret1_congr retK_congr outV_congr closeK_congr genR_congr appR_congr finD_congr finGD_congr stepGD_congr stepD_congr CallK0_congr runD_congr okR_congr CallS_congr vcX_congr
attribute [local congr] Stop_congr
theorem maxL_one {l : List Nat} (h : 0 < l.length) : l[0] = maxL (l.take 1) := by
  cases l with
  | nil => simp at h
  | cons x r => simp [maxL]
section
variable {M : Mem} {K : AV → Hp → Mem → Prop} {u v : Value} {T : List TK}
def mxSt (M : Mem) (u : Value) (l : List Nat) (j : Nat) : St := { env := [(4, .ext (.int .i64 (j : Int))), (3, .ext (.int .i64 ((maxL (l.take j) : Nat) : Int))), (0, .ext u)], hp := [], M := M, kb := 0, fx := [] }
theorem max_ok (l : List Nat) (hu : IsL M natV u l) (h1 : 1 ≤ l.length) (hb : l.length < 1000000) (hK : K (.ext (.int .i64 ((maxL l : Nat) : Int))) [] M) : CallS Try.prog 42 [.ext u] [] M [] K := by
  refine inlS (cs := []) Try.mixed Try.func42 rfl (by kernel_rfl) 0 rfl rfl ?_
  simp only [Try.f42]
  have d0 : decide ((l.length : Int) < 1) = false := by rw [decide_eq_false_iff_not]; omega
  have f0 := hu.idx (P := Try.prog) (T := 3) tk3 tz3 (by omega) (i := 0) (by omega)
  have hm1 := maxL_one (l := l) (by omega)
  have f0 : lookM Try.prog 3 M (elemP u 1 0) = some (.int .i64 ((maxL (l.take 1) : Nat) : Int)) ∧ nilS u = false ∧ isSl u = true ∧ slen u = l.length ∧ (0 : Int) < (l.length : Int) := ⟨by rw [← hm1]; exact f0.1, f0.2.1, f0.2.2.1, f0.2.2.2.1, by omega⟩
  clear hm1
  (replace hb0 := true_and True); refine Go1.mk ?_; repeat' ((first | (with_reducible refine Go1.go ?_) | ((with_reducible first | refine brv_mk ?_ ?_ | refine gsplitD ?_ ?_ | refine gsplitG ?_ ?_) <;> intro h <;> (try simp only [Bool.not_eq_true', Bool.not_eq_false'] at h) <;> replace hb0 := h) | (refine And.intro ?_ ?_; (try simp only [sxO] at *); omega) | fail) <;> (try simp (maxSteps := 1000000) only [hb0, hu.one, f0, d0, ↓hold_pre, awayP, runOps, regK, step1, newK, genR, appR, obl, buildR, Value.cells, closeK, keepH, outV, retK, ret1, retC, RetV, Option.getD, runD, stepD, afterK, undef, simprocAttr, sxB, ↓sxD, sxE, sxTab]))
  refine ⟨fun d z => ∃ j, j ≤ l.length ∧ d = l.length - j ∧ z = mxSt M u l j, ⟨l.length - 1, mxSt M u l 1, le_sub ⟨rfl, rfl, rfl, trivial⟩ trivial rfl rfl rfl (keepLt0 _), ⟨1, by omega, by omega, rfl⟩⟩, ?_⟩
  rintro d z ⟨j, hj, rfl, rfl⟩
  by_cases hlt : j < l.length
  case neg =>
    obtain rfl : j = l.length := by omega
    have d1 : decide ((l.length : Int) < (l.length : Int)) = false := by simp
    have ht : l.take l.length = l := List.take_length
    (replace hb0 := true_and True); refine Go1.mk ?_; repeat' ((first | (with_reducible refine Go1.go ?_) | ((with_reducible first | refine brv_mk ?_ ?_ | refine gsplitD ?_ ?_ | refine gsplitG ?_ ?_) <;> intro h <;> (try simp only [Bool.not_eq_true', Bool.not_eq_false'] at h) <;> replace hb0 := h) | (refine And.intro ?_ ?_; (try simp only [sxO] at *); omega) | fail) <;> (try simp (maxSteps := 1000000) only [hb0, mxSt, f0, d1, ht, ↓hold_pre, awayP, runOps, regK, step1, newK, genR, appR, obl, buildR, Value.cells, closeK, keepH, outV, retK, ret1, retC, RetV, Option.getD, runD, stepD, afterK, undef, simprocAttr, sxB, ↓sxD, sxE, sxTab]))
    exact hK
  have f1 := hu.idx (P := Try.prog) (T := 3) tk3 tz3 (by omega) hlt
  have hx := maxI (maxL (l.take j)) l[j]
  have ht : max (maxL (l.take j)) l[j] = maxL (l.take (j + 1)) := by
    rw [List.take_add_one, List.getElem?_eq_getElem hlt]
    exact (maxL_snoc _ _).symm
  rw [ht] at hx
  (replace hb0 := true_and True); refine Go1.mk ?_; repeat' ((first | (with_reducible refine Go1.go ?_) | ((with_reducible first | refine brv_mk ?_ ?_ | refine gsplitD ?_ ?_ | refine gsplitG ?_ ?_) <;> intro h <;> (try simp only [Bool.not_eq_true', Bool.not_eq_false'] at h) <;> replace hb0 := h) | (refine And.intro ?_ ?_; (try simp only [sxO] at *); omega) | fail) <;> (try simp (maxSteps := 1000000) only [hb0, mxSt, f1, natV, hx, ↓hold_pre, awayP, runOps, regK, step1, newK, genR, appR, obl, buildR, Value.cells, closeK, keepH, outV, retK, ret1, retC, RetV, Option.getD, runD, stepD, afterK, undef, simprocAttr, sxB, ↓sxD, sxE, sxTab]))
  exact ⟨l.length - (j + 1), mxSt M u l (j + 1), by omega, le_sub ⟨rfl, rfl, rfl, trivial⟩ trivial rfl rfl rfl (keepLt0 _), j + 1, by omega, rfl, rfl⟩
end
end Go.Proofs.Ytgkfmlgfmcpebaa.Sx
