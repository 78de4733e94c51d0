/- Part 26 of the texts of this claim: a symbolic executor and contracts of functions. -/
import Derived.Test.YtgkfmlgfmcpebaaSLhRP2
import Derived.Test.YtgkfmlgfmcpebaaSLhRCRow
namespace Go.Proofs.Ytgkfmlgfmcpebaa.Sx
open Go Go.RowKit
set_option linter.unusedVariables false
set_option linter.unusedSimpArgs false
set_option maxRecDepth 100000
set_option maxHeartbeats 8000000
attribute [local congr] fin_congr finG_congr stepG_congr step1_congr runOps_congr brv_congr obl_congr condK_congr LoopK_congr seqK_congr CutK_congr vc_congr DrawK_congr regK_congr CallK_congr AskK_congr newK_congr retC_congr ret1_congr retK_congr outV_congr closeK_congr genR_congr appR_congr finD_congr finGD_congr stepGD_congr stepD_congr CallK0_congr runD_congr okR_congr CallS_congr vcX_congr
attribute [local congr] Stop_congr
set_option maxRecDepth 100000
theorem slops_hi (a b : Operand) : (#[a] ++ (none : Option Operand).toArray ++ (some b).toArray ++ (none : Option Operand).toArray).toList = [a, b] := rfl
theorem slops_lo (a b : Operand) : (#[a] ++ (some b).toArray ++ (none : Option Operand).toArray ++ (none : Option Operand).toArray).toList = [a, b] := rfl
theorem ins_sorted {c : Nat → Nat → Int} (h : CmpO c) {Z : List Nat} {i a : Nat} (hZ : Z.Pairwise (ltS c)) (hlt : ∀ z ∈ Z, z < i) (h1 : ∀ z ∈ Z.take a, c z i ≤ 0) (h2 : ∀ y, Z[a]? = some y → ¬ c y i ≤ 0) : (Z.take a ++ i :: Z.drop a).Pairwise (ltS c) := by
  have hsp := hZ
  rw [← List.take_append_drop a Z, pw_app] at hsp
  obtain ⟨p1, p2, p3⟩ := hsp
  have hin : ∀ y ∈ Z.drop a, ltS c i y := fun y hy => by
    have ha : a < Z.length := by
      have := List.length_pos_of_mem hy
      rw [List.length_drop] at this; omega
    have h3 := h2 Z[a] (List.getElem?_eq_getElem ha)
    have h4 : ltS c i Z[a] := .inl ((h.anti i Z[a]).2 (by omega))
    rw [List.drop_eq_getElem_cons ha] at hy p2
    rcases List.mem_cons.1 hy with rfl | hy
    · exact h4
    · exact ltS_trans h h4 ((List.pairwise_cons.1 p2).1 y hy)
  rw [pw_app, List.pairwise_cons]
  refine ⟨p1, ⟨hin, p2⟩, fun x hx y hy => ?_⟩
  rcases List.mem_cons.1 hy with rfl | hy
  · have hx1 := h1 x hx
    have hx2 := hlt x (List.mem_of_mem_take hx)
    rcases Int.lt_or_eq_of_le hx1 with h5 | h5
    · exact .inl h5
    · exact .inr ⟨h5, hx2⟩
  · exact p3 x hx y hy
theorem ins_perm {Z : List Nat} {i : Nat} (a : Nat) (h : Z.Perm (List.range i)) : (Z.take a ++ i :: Z.drop a).Perm (List.range (i + 1)) := by
  rw [List.range_succ]
  refine List.perm_middle.trans ?_
  rw [List.take_append_drop]
  exact (h.cons i).trans (List.perm_append_singleton i (List.range i)).symm
section
variable {M : Mem} {K : AV → Hp → Mem → Prop} {u v : Value} {T : List TK}
theorem cosC_le {T : List TK} {x y : Nat} : cosC T x y ≤ 0 ↔ cosI T y ≤ cosI T x := by
  unfold cosC cmpZ
  (repeat' split) <;> omega
def bcSt (M : Mem) (u : Value) (i : Nat) (Z : List Nat) : St := { env := [(4, .ext (.int .i64 (i : Int))), (3, .slo 1000003 0 i 1), (0, .ext u)], hp := [(1000003, 3, cE natV Z)], M := M, kb := 1000000, fx := [] }
def bcIn (M : Mem) (u : Value) (i a : Nat) (Z : List Nat) : St := { env := [(5, .ext (.int .i64 (a : Int))), (4, .ext (.int .i64 (i : Int))), (3, .slo 1000003 0 i 1), (0, .ext u)], hp := [(1000003, 3, cE natV Z)], M := M, kb := 1000000, fx := [] }
theorem rlon_ok (hu : IsR M 4 TK.c u T) (hb : T.length < 1000000) (hK : ∀ v Z M', Mem.le M M' → lonZ T Z → IsL M' natV v Z → FreshS M v → K (.ext v) [] M') : CallS Try.prog 51 [.ext u] [] M [] K := by
  refine CallS.frzF ?_
  refine inlS (cs := [8]) Try.mixed Try.func51 rfl (by kernel_rfl) 1000000 rfl rfl ?_
  simp only [Try.f51]
  have hao := fun l => eq_true (allOne_cE natV (fun _ => rfl) l)
  (try with_reducible refine Fz.of ?_); (replace hb0 := true_and True); refine Go1.mk ?_; repeat' ((first | (with_reducible refine Go1.go ?_) | ((with_reducible first | refine brv_mk ?_ ?_ | refine gsplitD ?_ ?_ | refine gsplitG ?_ ?_) <;> intro h <;> (try simp only [Bool.not_eq_true', Bool.not_eq_false'] at h) <;> replace hb0 := h) | (refine And.intro ?_ ?_; (try simp only [sxO] at *); omega) | fail) <;> (try simp (maxSteps := 1000000) only [hb0, hu.one, ↓hold_pre, awayP, runOps, regK, step1, newK, genR, appR, obl, buildR, Value.cells, closeK, keepH, outV, retK, ret1, retC, RetV, Option.getD, runD, stepD, afterK, undef, simprocAttr, sxB, ↓sxD, sxE, sxTab]))
  refine ⟨fun m z => ∃ Z i, m = T.length - i ∧ i ≤ T.length ∧ Z.Perm (List.range i) ∧ Z.Pairwise (ltS (cosC T)) ∧ z = bcSt M u i Z,
    ⟨T.length, bcSt M u 0 [], (le_nil 3 1000003 3 1 rfl (.inl (by simp [awayB, mentE, mentH, mentL, AV.ment, hasK]))).trans (le_sub ⟨rfl, rfl, rfl, trivial⟩ ⟨by simp [lkH, bcSt, cE], trivial⟩ rfl rfl rfl (keepLt_of rfl)), ⟨[], 0, by omega, by omega, List.Perm.refl _, List.Pairwise.nil, rfl⟩⟩, ?_⟩
  rintro m z ⟨Z, i, rfl, hi, hZ, hS, rfl⟩
  have hZl : Z.length = i := by rw [hZ.length_eq, List.length_range]
  have hlen : (cE natV Z).length = i := by rw [cE_len, hZl]
  have hZi : ∀ z ∈ Z, z < i := fun z hz => List.mem_range.1 (hZ.subset hz)
  by_cases hlt : i < T.length
  case neg =>
    obtain rfl : i = T.length := by omega
    have d1 : decide ((T.length : Int) < (T.length : Int)) = false := by simp
    (try with_reducible refine Fz.of ?_); (replace hb0 := true_and True); refine Go1.mk ?_; repeat' ((first | (with_reducible refine Go1.go ?_) | ((with_reducible first | refine brv_mk ?_ ?_ | refine gsplitD ?_ ?_ | refine gsplitG ?_ ?_) <;> intro h <;> (try simp only [Bool.not_eq_true', Bool.not_eq_false'] at h) <;> replace hb0 := h) | (refine And.intro ?_ ?_; (try simp only [sxO] at *); omega) | fail) <;> (try simp (maxSteps := 1000000) only [hb0, bcSt, d1, hu.one, hu.len, hu.sl, cE_ment, cE_kill, hasK_nil, ↓hold_pre, awayP, runOps, regK, step1, newK, genR, appR, obl, buildR, Value.cells, closeK, keepH, outV, retK, ret1, retC, RetV, Option.getD, runD, stepD, afterK, undef, simprocAttr, sxB, ↓sxD, sxE, sxTab]))
    refine FrzF.one (Z.map natV) rfl (by simp [hZl]) ?_
    intro v M3 h1 h2 h3
    refine hK v Z M3 h1 ⟨hZ, hS⟩ ?_ h3
    unfold IsL
    rw [hZl]; exact h2
  have d1 : decide ((i : Int) < (T.length : Int)) = true := by rw [decide_eq_true_eq]; omega
  have b1 : (0 : Int) ≤ (i : Int) := by omega
  have b2 : (i : Int) < (T.length : Int) := by omega
  have wi : IntKind.i64.wrap ((i : Int) + 1) = ((i + 1 : Nat) : Int) := succ_i (by omega)
  (try with_reducible refine Fz.of ?_); (replace hb0 := true_and True); refine Go1.mk ?_; repeat' ((first | (with_reducible refine Go1.go ?_) | ((with_reducible first | refine brv_mk ?_ ?_ | refine gsplitD ?_ ?_ | refine gsplitG ?_ ?_) <;> intro h <;> (try simp only [Bool.not_eq_true', Bool.not_eq_false'] at h) <;> replace hb0 := h) | (refine And.intro ?_ ?_; (try simp only [sxO] at *); omega) | fail) <;> (try simp (maxSteps := 1000000) only [hb0, bcSt, d1, hu.one, hu.len, hu.sl, cE_ment, cE_kill, hasK_nil, ↓hold_pre, awayP, runOps, regK, step1, newK, genR, appR, obl, buildR, Value.cells, closeK, keepH, outV, retK, ret1, retC, RetV, Option.getD, runD, stepD, afterK, undef, simprocAttr, sxB, ↓sxD, sxE, sxTab]))
  refine ⟨fun z => ∃ a, a ≤ i ∧ (∀ x ∈ Z.take a, cosC T x i ≤ 0) ∧ (∀ y, Z[a]? = some y → ¬ cosC T y i ≤ 0) ∧ z = bcIn M u i a Z, ?_, ?_⟩
  · (try with_reducible refine Fz.of ?_); (replace hb0 := true_and True); refine Go1.mk ?_; repeat' ((first | (with_reducible refine Go1.go ?_) | ((with_reducible first | refine brv_mk ?_ ?_ | refine gsplitD ?_ ?_ | refine gsplitG ?_ ?_) <;> intro h <;> (try simp only [Bool.not_eq_true', Bool.not_eq_false'] at h) <;> replace hb0 := h) | (refine And.intro ?_ ?_; (try simp only [sxO] at *); omega) | fail) <;> (try simp (maxSteps := 1000000) only [hb0, hu.one, hu.len, hu.sl, cE_ment, cE_kill, hasK_nil, ↓hold_pre, awayP, runOps, regK, step1, newK, genR, appR, obl, buildR, Value.cells, closeK, keepH, outV, retK, ret1, retC, RetV, Option.getD, runD, stepD, afterK, undef, simprocAttr, sxB, ↓sxD, sxE, sxTab]))
    refine ⟨fun m z => ∃ a, m = i - a ∧ a ≤ i ∧ (∀ x ∈ Z.take a, cosC T x i ≤ 0) ∧ z = bcIn M u i a Z,
      ⟨i, bcIn M u i 0 Z, le_sub ⟨rfl, rfl, rfl, rfl, trivial⟩ ⟨rfl, trivial⟩ rfl rfl rfl (keepLt_of rfl), ⟨0, by omega, by omega, by simp, rfl⟩⟩, ?_⟩
    rintro m z ⟨a, rfl, ha, hpre, rfl⟩
    by_cases hal : a < i
    case neg =>
      obtain rfl : a = i := by omega
      have e1 : decide ((a : Int) < (a : Int)) = false := by simp
      (try with_reducible refine Fz.of ?_); (replace hb0 := true_and True); refine Go1.mk ?_; repeat' ((first | (with_reducible refine Go1.go ?_) | ((with_reducible first | refine brv_mk ?_ ?_ | refine gsplitD ?_ ?_ | refine gsplitG ?_ ?_) <;> intro h <;> (try simp only [Bool.not_eq_true', Bool.not_eq_false'] at h) <;> replace hb0 := h) | ((with_reducible refine isDraw [some 12, some 13, some 14, some 15, some 16, some 17, some 18, some 19, some 20, some 21, some 22, some 23, some 24, some 25, some 26, some 27, some 28, some 29, some 30, some 31] (by decide) ?_); refine draw_rule [(0, []), (1, []), (2, []), (3, []), (4, []), (5, []), (6, []), (7, []), (8, []), (9, []), (10, []), (11, []), (12, []), (13, [9, 12]), (14, [9, 12]), (15, [9, 12]), (16, [9, 12]), (17, [9, 12]), (18, []), (19, [])] [[], [], [1], [0, 1, 2], [0, 1, 2, 3], [0, 1, 2, 3, 4], [0, 1, 2, 3, 4], [0, 1, 2, 3, 4], [0, 1, 2, 3, 4, 6, 7], [0, 1, 2, 3, 4, 6, 7, 8], [0, 1, 2, 3, 4, 5, 6, 7, 8, 9], [0, 1, 2, 3, 4, 5, 6, 7, 8, 9, 10], [0, 1, 2, 3, 4, 5, 6, 7, 8, 9, 10, 11], [0, 1, 2, 3, 4], [0, 1, 2, 3, 4], [0, 1, 2, 3, 4, 13, 14], [0, 1, 2, 3, 4, 13, 14, 15], [0, 1, 2, 3, 4, 13, 14, 15, 16], [0, 1, 2, 3, 4, 5, 6, 7, 8, 9, 10, 11, 12, 13, 14, 15, 16, 17], [0, 1, 2, 3, 4, 5, 6, 7, 8, 9, 10, 11, 12, 13, 14, 15, 16, 17, 18]] [12, 13, 14, 17, 18, 19, 20, 21, 22, 23, 24, 25, 26, 27, 28, 29] [] (by kernel_rfl) (by kernel_rfl) (by kernel_rfl) (by kernel_rfl) (by exact trivial) ?_) | (refine And.intro ?_ ?_; (try simp only [sxO] at *); omega) | fail) <;> (try simp (maxSteps := 1000000) only [hb0, bcIn, e1, hu.one, hu.len, hu.sl, cE_ment, cE_kill, hasK_nil, ↓hold_pre, awayP, runOps, regK, step1, newK, genR, appR, obl, buildR, Value.cells, closeK, keepH, outV, retK, ret1, retC, RetV, Option.getD, runD, stepD, afterK, undef, simprocAttr, sxB, ↓sxD, sxE, sxTab]))
      exact ⟨bcIn M u a a Z, le_sub ⟨rfl, rfl, rfl, rfl, trivial⟩ ⟨rfl, trivial⟩ rfl rfl rfl (keepLt_of rfl), a, by omega, hpre, fun y hy => (by rw [List.getElem?_eq_none (by omega)] at hy; cases hy), rfl⟩
    have e1 : decide ((a : Int) < (i : Int)) = true := by rw [decide_eq_true_eq]; omega
    have c1 : (0 : Int) ≤ (a : Int) := by omega
    have c2 : (a : Int) < (i : Int) := by omega
    have haz : a < Z.length := by omega
    have hzat := cE_at natV haz
    have hzi := hZi _ (List.getElem_mem haz)
    have hget : Z[a]? = some Z[a] := List.getElem?_eq_getElem haz
    have htk : Z.take (a + 1) = Z.take a ++ [Z[a]] := by rw [List.take_add_one, hget]; rfl
    have wa : IntKind.i64.wrap ((a : Int) + 1) = ((a + 1 : Nat) : Int) := succ_i (by omega)
    generalize Z[a] = y at *
    have hyl : y < T.length := by omega
    have c3 : (0 : Int) ≤ (y : Int) := by omega
    have c4 : (y : Int) < (T.length : Int) := by omega
    have hny := hu.nn hyl
    have p1 := hu.pt hyl
    have p2 := hu.pt hlt
    have hay := hu.atF (P := Try.prog) (T := 3) (fun _ => rfl) tk3 tz3 hyl (o := 3) (v := .int .i64 T[y].cost) rfl
    have hai := hu.atF (P := Try.prog) (T := 3) (fun _ => rfl) tk3 tz3 hlt (o := 3) (v := .int .i64 T[i].cost) rfl
    rw [← cosI_in hyl] at hay
    rw [← cosI_in hlt] at hai
    by_cases hle : cosI T i ≤ cosI T y
    · have d2 : decide (cosI T i ≤ cosI T y) = true := decide_eq_true hle
      (try with_reducible refine Fz.of ?_); (replace hb0 := true_and True); refine Go1.mk ?_; repeat' ((first | (with_reducible refine Go1.go ?_) | ((with_reducible first | refine brv_mk ?_ ?_ | refine gsplitD ?_ ?_ | refine gsplitG ?_ ?_) <;> intro h <;> (try simp only [Bool.not_eq_true', Bool.not_eq_false'] at h) <;> replace hb0 := h) | ((with_reducible refine isDraw [some 12, some 13, some 14, some 15, some 16, some 17, some 18, some 19, some 20, some 21, some 22, some 23, some 24, some 25, some 26, some 27, some 28, some 29, some 30, some 31] (by decide) ?_); refine draw_rule [(0, []), (1, []), (2, []), (3, []), (4, []), (5, []), (6, []), (7, []), (8, []), (9, []), (10, []), (11, []), (12, []), (13, [9, 12]), (14, [9, 12]), (15, [9, 12]), (16, [9, 12]), (17, [9, 12]), (18, []), (19, [])] [[], [], [1], [0, 1, 2], [0, 1, 2, 3], [0, 1, 2, 3, 4], [0, 1, 2, 3, 4], [0, 1, 2, 3, 4], [0, 1, 2, 3, 4, 6, 7], [0, 1, 2, 3, 4, 6, 7, 8], [0, 1, 2, 3, 4, 5, 6, 7, 8, 9], [0, 1, 2, 3, 4, 5, 6, 7, 8, 9, 10], [0, 1, 2, 3, 4, 5, 6, 7, 8, 9, 10, 11], [0, 1, 2, 3, 4], [0, 1, 2, 3, 4], [0, 1, 2, 3, 4, 13, 14], [0, 1, 2, 3, 4, 13, 14, 15], [0, 1, 2, 3, 4, 13, 14, 15, 16], [0, 1, 2, 3, 4, 5, 6, 7, 8, 9, 10, 11, 12, 13, 14, 15, 16, 17], [0, 1, 2, 3, 4, 5, 6, 7, 8, 9, 10, 11, 12, 13, 14, 15, 16, 17, 18]] [12, 13, 14, 17, 18, 19, 20, 21, 22, 23, 24, 25, 26, 27, 28, 29] [] (by kernel_rfl) (by kernel_rfl) (by kernel_rfl) (by kernel_rfl) (by exact trivial) ?_) | (refine And.intro ?_ ?_; (try simp only [sxO] at *); omega) | fail) <;> (try simp (maxSteps := 1000000) only [hb0, bcIn, natV, e1, b1, b2, c1, c2, c3, c4, hzat, hny, p1, p2, hay, hai, d2, wa, hlen, hu.one, hu.len, hu.sl, cE_ment, cE_kill, hasK_nil, Nat.mul_one, Nat.zero_add, ↓hold_pre, awayP, runOps, regK, step1, newK, genR, appR, obl, buildR, Value.cells, closeK, keepH, outV, retK, ret1, retC, RetV, Option.getD, runD, stepD, afterK, undef, simprocAttr, sxB, ↓sxD, sxE, sxTab]))
      exact ⟨i - (a + 1), bcIn M u i (a + 1) Z, by omega, le_sub ⟨rfl, rfl, rfl, rfl, trivial⟩ ⟨rfl, trivial⟩ rfl rfl rfl (keepLt_of rfl), a + 1, rfl, by omega, fun x hx => by
        rw [htk] at hx
        rcases List.mem_append.1 hx with hx | hx
        · exact hpre x hx
        · rw [List.mem_singleton.1 hx, cosC_le]; exact hle, rfl⟩
    · have d2 : decide (cosI T i ≤ cosI T y) = false := decide_eq_false hle
      (try with_reducible refine Fz.of ?_); (replace hb0 := true_and True); refine Go1.mk ?_; repeat' ((first | (with_reducible refine Go1.go ?_) | ((with_reducible first | refine brv_mk ?_ ?_ | refine gsplitD ?_ ?_ | refine gsplitG ?_ ?_) <;> intro h <;> (try simp only [Bool.not_eq_true', Bool.not_eq_false'] at h) <;> replace hb0 := h) | ((with_reducible refine isDraw [some 12, some 13, some 14, some 15, some 16, some 17, some 18, some 19, some 20, some 21, some 22, some 23, some 24, some 25, some 26, some 27, some 28, some 29, some 30, some 31] (by decide) ?_); refine draw_rule [(0, []), (1, []), (2, []), (3, []), (4, []), (5, []), (6, []), (7, []), (8, []), (9, []), (10, []), (11, []), (12, []), (13, [9, 12]), (14, [9, 12]), (15, [9, 12]), (16, [9, 12]), (17, [9, 12]), (18, []), (19, [])] [[], [], [1], [0, 1, 2], [0, 1, 2, 3], [0, 1, 2, 3, 4], [0, 1, 2, 3, 4], [0, 1, 2, 3, 4], [0, 1, 2, 3, 4, 6, 7], [0, 1, 2, 3, 4, 6, 7, 8], [0, 1, 2, 3, 4, 5, 6, 7, 8, 9], [0, 1, 2, 3, 4, 5, 6, 7, 8, 9, 10], [0, 1, 2, 3, 4, 5, 6, 7, 8, 9, 10, 11], [0, 1, 2, 3, 4], [0, 1, 2, 3, 4], [0, 1, 2, 3, 4, 13, 14], [0, 1, 2, 3, 4, 13, 14, 15], [0, 1, 2, 3, 4, 13, 14, 15, 16], [0, 1, 2, 3, 4, 5, 6, 7, 8, 9, 10, 11, 12, 13, 14, 15, 16, 17], [0, 1, 2, 3, 4, 5, 6, 7, 8, 9, 10, 11, 12, 13, 14, 15, 16, 17, 18]] [12, 13, 14, 17, 18, 19, 20, 21, 22, 23, 24, 25, 26, 27, 28, 29] [] (by kernel_rfl) (by kernel_rfl) (by kernel_rfl) (by kernel_rfl) (by exact trivial) ?_) | (refine And.intro ?_ ?_; (try simp only [sxO] at *); omega) | fail) <;> (try simp (maxSteps := 1000000) only [hb0, bcIn, natV, e1, b1, b2, c1, c2, c3, c4, hzat, hny, p1, p2, hay, hai, d2, wa, hlen, hu.one, hu.len, hu.sl, cE_ment, cE_kill, hasK_nil, Nat.mul_one, Nat.zero_add, ↓hold_pre, awayP, runOps, regK, step1, newK, genR, appR, obl, buildR, Value.cells, closeK, keepH, outV, retK, ret1, retC, RetV, Option.getD, runD, stepD, afterK, undef, simprocAttr, sxB, ↓sxD, sxE, sxTab]))
      exact ⟨bcIn M u i a Z, le_sub ⟨rfl, rfl, rfl, rfl, trivial⟩ ⟨rfl, trivial⟩ rfl rfl rfl (keepLt_of rfl), a, by omega, hpre, fun w hw => (by rw [hget] at hw; cases hw; rw [cosC_le]; exact hle), rfl⟩
  · rintro z ⟨a, ha, hpre, hnext, rfl⟩
    have b3 : (0 : Int) ≤ (a : Int) := by omega
    have b4 : (a : Int) ≤ (i : Int) := by omega
    have hnew : cE natV (Z.take a) ++ AV.ext (.int .i64 (i : Int)) :: cE natV ((Z.drop a).take (i - a)) = cE natV (Z.take a ++ i :: Z.drop a) := by
      rw [List.take_of_length_le (l := Z.drop a) (by rw [List.length_drop]; omega)]
      simp [cE, natV]
    have hsum : a + (1 + (i - a)) = i + 1 := by omega
    have hdl : ((Z.drop a).take (i - a)).length = i - a := by rw [List.length_take, List.length_drop]; omega
    have htw : List.take (1 + (i - a)) (AV.ext (.int .i64 (i : Int)) :: cE natV ((Z.drop a).take (i - a))) = AV.ext (.int .i64 (i : Int)) :: cE natV ((Z.drop a).take (i - a)) := List.take_of_length_le (by rw [List.length_cons, cE_len, hdl]; omega)
    have hso : 1 + (i - a) ≤ i - a + 1 := by omega
    (try with_reducible refine Fz.of ?_); (replace hb0 := true_and True); refine Go1.mk ?_; repeat' ((first | (with_reducible refine Go1.go ?_) | ((with_reducible first | refine brv_mk ?_ ?_ | refine gsplitD ?_ ?_ | refine gsplitG ?_ ?_) <;> intro h <;> (try simp only [Bool.not_eq_true', Bool.not_eq_false'] at h) <;> replace hb0 := h) | ((with_reducible refine isDraw [some 34, some 35, some 36, some 37, some 38, some 39, some 40, some 41, some 42, some 43, some 3] (by decide) ?_); refine draw_rule [(0, []), (1, []), (2, []), (3, [2]), (4, [2]), (5, [2]), (6, [2]), (7, [2]), (8, [0, 1, 2]), (9, []), (10, [])] [[], [], [0, 1], [], [3], [], [], [5, 6], [3, 4, 5, 6, 7], [0, 1, 2, 3, 4, 5, 6, 7, 8], [0, 1, 2, 3, 4, 5, 6, 7, 8, 9]] [34, 35, 36, 37, 38, 39, 40, 41, 42] [] (by kernel_rfl) (by kernel_rfl) (by kernel_rfl) (by kernel_rfl) (by exact trivial) ?_) | (refine And.intro ?_ ?_; (try simp only [sxO] at *); omega) | fail) <;> (try simp (maxSteps := 1000000) only [hb0, bcIn, ownK, wi, hnew, hsum, hdl, htw, hso, slops_hi, slops_lo, hlen, hao, b1, b3, b4, cE_len, cE_take, cE_drop, cE_ment, cE_kill, hasK_nil, Nat.mul_one, Nat.zero_add, Nat.sub_zero, Int.toNat_natCast, Int.toNat_zero, ↓hold_pre, awayP, runOps, regK, step1, newK, genR, appR, obl, buildR, Value.cells, closeK, keepH, outV, retK, ret1, retC, RetV, Option.getD, runD, stepD, afterK, undef, simprocAttr, sxB, ↓sxD, sxE, sxTab]))
    exact ⟨T.length - (i + 1), bcSt M u (i + 1) (Z.take a ++ i :: Z.drop a), by omega, le_sub ⟨rfl, rfl, rfl, trivial⟩ ⟨by simp [lkH, bcSt], trivial⟩ rfl rfl rfl (keepLt_of rfl), _, i + 1, rfl, by omega, ins_perm a hZ, ins_sorted (cosC_ord T) hS hZi hpre hnext, rfl⟩
end
end Go.Proofs.Ytgkfmlgfmcpebaa.Sx
namespace Go.Proofs.Ytgkfmlgfmcpebaa.Sx
open Go Go.RowKit
set_option linter.unusedVariables false
set_option linter.unusedSimpArgs false
set_option maxRecDepth 100000
set_option maxHeartbeats 8000000
attribute [local congr] fin_congr finG_congr stepG_congr step1_congr runOps_congr brv_congr obl_congr condK_congr LoopK_congr seqK_congr CutK_congr vc_congr DrawK_congr regK_congr CallK_congr AskK_congr newK_congr retC_congr ret1_congr retK_congr outV_congr closeK_congr genR_congr appR_congr finD_congr finGD_congr stepGD_congr stepD_congr CallK0_congr runD_congr okR_congr CallS_congr vcX_congr
attribute [local congr] Stop_congr
def gvH (m : Nat) (E : List Nat) (P : List (List Nat)) : Hp := (520, 3, cE natV E) :: (518, 22, famC 1000 (LsP P)) :: famH 1000 3 (LsP P) []
def gvJ (m : Nat) (x : TK) (E : List Nat) (P : List (List Nat)) : Hp := (514, 49, x.c.map .ext) :: gvH m E P
theorem subHp_gvJ (m : Nat) (x : TK) (E : List Nat) (P : List (List Nat)) : subHp (gvJ m x E P) (gvJ m x E P) := ⟨by simp [gvJ, lkH], by simp [gvJ, gvH, lkH], by simp [gvJ, gvH, lkH], subHp_fam (fun i hi => by unfold gvJ gvH; simp only [lkH]; rw [if_neg (by omega), if_neg (by omega), if_neg (by omega)]; exact lkH_famI hi) trivial⟩
theorem keepLt_gvJ (m : Nat) (x : TK) (E : List Nat) (P : List (List Nat)) {z : Hp} : keepLt 500 z (gvJ m x E P) := by
  unfold gvJ gvH
  simp only [keepLt]
  exact ⟨.inl (by omega), .inl (by omega), .inl (by omega), keepLt_fam (by omega) trivial⟩
theorem nat_at {E : List Nat} {r : Nat} (h : r < E.length) : (cE natV E)[r]? = some (.ext (.int .i64 ((E.getD r 0 : Nat) : Int))) := by
  rw [cE_at natV h, List.getD_eq_getElem?_getD, List.getElem?_eq_getElem h]; rfl
theorem fam_lk4 {b q : Nat} {x y z w t : TypeId × List AV} {F : Hp} {j k1 k2 k3 k4 : Nat} (hj : q ≤ j) (h1 : k1 < q) (h2 : k2 < q) (h3 : k3 < q) (h4 : k4 < q) : lkH ((b + q, x) :: (k4, t) :: (k1, y) :: (k2, z) :: (k3, w) :: F) j = if j = b + q then some x else lkH F j := by
  rw [← fam_lk (x := x) (y := y) (z := z) (w := w) (F := F) hj h1 h2 h3]
  simp only [lkH]
  rw [if_neg (c := k4 = j) (by omega)]
section
variable {M : Mem} {K : AV → Hp → Mem → Prop} {u v up : Value} {T : List TK} {Pl : List (List Int)}
def gvFSt (M : Mem) (u v : Value) (m k : Nat) (E : List Nat) (P : List (List Nat)) : St := { env := [(13, .ext (.int .i64 (k : Int))), (12, .ext v), (11, .slo 520 0 m 1), (10, .slo 518 0 m 1), (3, .ext (.slice none 0 0)), (2, .ext (.bool true)), (1, .ext (.int .i64 (m : Int))), (0, .ext u)], hp := gvH m E P, M := M, kb := 500, fx := [] }
def gvFIn (M : Mem) (u v : Value) (m k : Nat) (E : List Nat) (P : List (List Nat)) (x : TK) (r : Nat) (b : Option Nat) : St := { env := [(16, .ext (.int .i64 (r : Int))), (15, .ext (.int .i64 (bstI b))), (14, .own 514 0), (13, .ext (.int .i64 (k : Int))), (12, .ext v), (11, .slo 520 0 m 1), (10, .slo 518 0 m 1), (3, .ext (.slice none 0 0)), (2, .ext (.bool true)), (1, .ext (.int .i64 (m : Int))), (0, .ext u)], hp := gvJ m x E P, M := M, kb := 500, fx := [] }
theorem giveF_ok {m : Nat} (hu : IsR M 4 TK.c u T) (hc : chkTL T = true) (hm1 : 1 ≤ m) (hm8 : m ≤ 8)
    (hK1 : ∀ M' U P, Mem.le M M' → divP T m allY (some P) → LLF M M' U (LsP P) → K (.ext (.tuple #[U, .int .i64 0])) [] M') (hK2 : ∀ M', Mem.le M M' → divP T m allY none → K (.ext (.tuple #[.slice none 0 0, .int .i64 18])) [] M') :
    CallS Try.prog 38 [.ext u, .ext (.int .i64 (m : Int)), .ext (.bool true), .ext (.slice none 0 0)] [] M [] K := by
  obtain ⟨hT64, hTc⟩ := chkTL_parts hc
  refine CallS.frzO ?_
  refine inlS (cs := []) Try.mixed Try.func38 rfl (by kernel_rfl) 500 rfl rfl ?_
  simp only [Try.f38]
  have t1 := Int.toNat_natCast m
  have t2 := repN_nil m
  have t3 : (repN [.int .i64 0] m).map AV.ext = cE natV (List.replicate m 0) := cE_rep natV m 0
  (replace hb0 := true_and True); refine Go1.mk ?_; repeat' ((first | (with_reducible refine Go1.go ?_) | ((with_reducible first | refine brv_mk ?_ ?_ | refine gsplitD ?_ ?_ | refine gsplitG ?_ ?_) <;> intro h <;> (try simp only [Bool.not_eq_true', Bool.not_eq_false'] at h) <;> replace hb0 := h) | (((with_reducible refine isCall (f := 51) ?_); refine callA_nil (by kernel_rfl) ?_; refine (rlon_ok hu (by omega) (fun v Z M1 m1 z1 z2 z3 => Stop.mk ?_)))) | ((with_reducible refine isDraw [some 17, some 18, some 19, some 20, some 10, some 11] (by decide) ?_); refine draw_rule [(0, []), (1, []), (2, []), (3, []), (4, []), (5, [])] [[], [0], [], [2], [0, 1], [0, 1, 2, 3, 4]] [17, 18, 19, 20, 10] [] (by kernel_rfl) (by kernel_rfl) (by kernel_rfl) (by kernel_rfl) (by exact trivial) ?_) | (refine And.intro ?_ ?_; (try simp only [sxO] at *); omega) | fail) <;> (try simp (maxSteps := 1000000) only [hb0, hu.one, hasK_nil, t1, t2, t3, mentL_rep, cE_ment, cE_kill, List.nil_append, ↓hold_pre, awayP, runOps, regK, step1, newK, genR, appR, obl, buildR, Value.cells, closeK, keepH, outV, retK, ret1, retC, RetV, Option.getD, runD, stepD, afterK, undef, simprocAttr, sxB, ↓sxD, sxE, sxTab]))
  have m1 : Mem.le M M1 := m1
  have z1 : lonZ T Z := z1
  have z2 : IsL M1 natV v Z := z2
  have hu1 := hu.le m1
  clear z3 t1 t2 t3
  refine Stop.go ?_
  (replace hb0 := true_and True); refine Go1.mk ?_; repeat' ((first | (with_reducible refine Go1.go ?_) | ((with_reducible first | refine brv_mk ?_ ?_ | refine gsplitD ?_ ?_ | refine gsplitG ?_ ?_) <;> intro h <;> (try simp only [Bool.not_eq_true', Bool.not_eq_false'] at h) <;> replace hb0 := h) | (refine And.intro ?_ ?_; (try simp only [sxO] at *); omega) | fail) <;> (try simp (maxSteps := 1000000) only [hb0, z2.one, hasK_nil, mentL_rep, cE_ment, cE_kill, List.nil_append, ↓hold_pre, awayP, runOps, regK, step1, newK, genR, appR, obl, buildR, Value.cells, closeK, keepH, outV, retK, ret1, retC, RetV, Option.getD, runD, stepD, afterK, undef, simprocAttr, sxB, ↓sxD, sxE, sxTab]))
  have hZl : Z.length = T.length := by rw [z1.1.length_eq, List.length_range]
  have hZin := lonZ_in z1
  refine ⟨fun d z => ∃ k E P, d = Z.length - k ∧ k ≤ Z.length ∧ E.length = m ∧ P.length = m ∧ (∀ x ∈ E, x ≤ k * 1048576) ∧ (∀ l ∈ P, l.length ≤ k) ∧ giveS allY (cosN T) m Z (List.replicate m 0) (List.replicate m []) = giveS allY (cosN T) m (Z.drop k) E P ∧ z = gvFSt M1 u v m k E P,
    ⟨Z.length, gvFSt M1 u v m 0 (List.replicate m 0) (List.replicate m []), (le_fam (O := 518) (b := 1000) (n := m) 3 (T0 := 22) (by simp [lkH]) (by simp [ltB, mentE, AV.ment, mentL_ext]) (by simp [ltB, mentH, mentL, AV.ment, mentL_rep, cE_ment]) (by simp [ltB]) (by simp)).trans (le_sub ⟨rfl, rfl, rfl, rfl, rfl, rfl, rfl, rfl, trivial⟩ ⟨by rw [lkH_fam (by omega)]; simp [lkH, upH], by rw [lkH_fam (by omega)]; simp [lkH, upH, LsP], by
      rw [LsP_rep]
      exact subHp_fam (fun i hi => lkH_famI hi) trivial⟩ rfl rfl rfl (keepLt_fam (show 500 ≤ 1000 by omega) (by simp [keepLt, upH]))),
    ⟨0, _, _, by omega, by omega, List.length_replicate, List.length_replicate, fun x hx => by rw [(List.mem_replicate.1 hx).2]; omega, fun l hl => by rw [(List.mem_replicate.1 hl).2]; simp, rfl, rfl⟩⟩, ?_⟩
  rintro d z ⟨k, E, P, rfl, hk, hE, hPm2, hEb, hPb, hg, rfl⟩
  by_cases hlt : k < Z.length
  case neg =>
    obtain rfl : k = Z.length := by omega
    have d1 : decide ((Z.length : Int) < (Z.length : Int)) = false := by simp
    (replace hb0 := true_and True); refine Go1.mk ?_; repeat' ((first | (with_reducible refine Go1.go ?_) | ((with_reducible first | refine brv_mk ?_ ?_ | refine gsplitD ?_ ?_ | refine gsplitG ?_ ?_) <;> intro h <;> (try simp only [Bool.not_eq_true', Bool.not_eq_false'] at h) <;> replace hb0 := h) | (refine And.intro ?_ ?_; (try simp only [sxO] at *); omega) | fail) <;> (try simp (maxSteps := 1000000) only [hb0, gvFSt, gvH, d1, z2.one, z2.len, z2.sl, hasK_nil, mentL_ext, List.nil_append, ↓hold_pre, awayP, runOps, regK, step1, newK, genR, appR, obl, buildR, Value.cells, closeK, keepH, retK, ret1, retC, RetV, Option.getD, runD, stepD, afterK, undef, simprocAttr, sxB, ↓sxD, sxE, sxTab]))
    rw [List.drop_length] at hg
    have hlk : ∀ i (hi : i < (LsP P).length), lkH (gvH m E P) (i + 1000) = some (3, (LsP P)[i].map .ext) := fun i hi => by
      unfold gvH
      simp only [lkH]
      rw [if_neg (by omega), if_neg (by omega)]
      exact lkH_famI hi
    refine outV_fam (O := 518) (b := 1000) (Ls := LsP P) (T0 := 22) (T := 3) rfl (onceH_fam (A := [(520, 3, cE natV E), (518, 22, famC 1000 (LsP P))]) (fun q T' cs hq => ?_) (by simp [ltB, keysH])) (by simp [lkH]) hlk (by unfold LsP; rw [List.length_map, hPm2]) fun U M'' hM hU => ?_
    · simp only [List.mem_cons, Prod.mk.injEq, List.not_mem_nil, or_false] at hq
      rcases hq with ⟨rfl, rfl, rfl⟩ | ⟨rfl, rfl, rfl⟩ <;> simp [lkH]
    · exact hK1 M'' U P (m1.trans hM) ⟨Z, z1, by rw [hg]; rfl⟩ (hU.older m1)
  have d1 : decide ((k : Int) < (Z.length : Int)) = true := by rw [decide_eq_true_eq]; omega
  have b1 : (0 : Int) ≤ (k : Int) := by omega
  have b2 : (k : Int) < (Z.length : Int) := by omega
  have znn := z2.nn hlt
  have zat := z2.at (P := Try.prog) (T := 3) tk3 tz3 hlt
  have zat : lookM Try.prog 3 M1 (elemP v 1 k) = some (.int .i64 (Z[k] : Int)) := zat
  have hi := hZin _ (List.getElem_mem hlt)
  have hdr : Z.drop k = Z[k] :: Z.drop (k + 1) := (List.getElem_cons_drop hlt).symm
  rw [hdr] at hg
  clear hdr
  have hzk0 : Z[k] = Z[k] := rfl
  generalize hzk : Z[k] = i at *
  clear hzk0
  have i1 : (0 : Int) ≤ (i : Int) := by omega
  have i2 : (i : Int) < (T.length : Int) := by omega
  have unn := hu1.nn hi
  have uat := hu1.at (P := Try.prog) (T := 49) (fun _ => rfl) tk49 tz49 hi
  have uat : lookM Try.prog 49 M1 (elemP u 4 i) = some (.agg #[.string (bs T[i].pk), .string (bs T[i].ts), .int .i64 T[i].env, .int .i64 T[i].cost]) := uat
  have hci := hTc i hi
  have hcn : T[i].cost = ((cosN T i : Nat) : Int) := cosN_cost hi hci.1
  generalize hX : T[i] = X at *
  clear hX
  have f7 : hasK 514 (mentL (famC 1000 (LsP P))) = false := famC_ment (LsP P) 1000 (by omega)
  have f8 : hasK 514 (mentH (famH 1000 3 (LsP P) [])) = false := by rw [hasK_fam (by omega)]; rfl
  (replace hb0 := true_and True); refine Go1.mk ?_; repeat' ((first | (with_reducible refine Go1.go ?_) | ((with_reducible first | refine brv_mk ?_ ?_ | refine gsplitD ?_ ?_ | refine gsplitG ?_ ?_) <;> intro h <;> (try simp only [Bool.not_eq_true', Bool.not_eq_false'] at h) <;> replace hb0 := h) | (refine And.intro ?_ ?_; (try simp only [sxO] at *); omega) | fail) <;> (try simp (maxSteps := 1000000) only [hb0, gvFSt, gvH, d1, b1, b2, znn, zat, i1, i2, unn, uat, z2.one, z2.len, z2.sl, hu1.one, hu1.len, hu1.sl, f7, f8, hasK_app, cE_ment, hasK_nil, mentL_ext, List.nil_append, ↓hold_pre, awayP, runOps, regK, step1, newK, genR, appR, obl, buildR, Value.cells, closeK, keepH, outV, retK, ret1, retC, RetV, Option.getD, runD, stepD, afterK, undef, simprocAttr, sxB, ↓sxD, sxE, sxTab]))
  refine ⟨fun d z => ∃ r, d = m - r ∧ r ≤ m ∧ z = gvFIn M1 u v m k E P X r (bst (fun q => allY q i) E r),
    ⟨m, gvFIn M1 u v m k E P X 0 none, le_sub ⟨rfl, rfl, rfl, rfl, rfl, rfl, rfl, rfl, rfl, rfl, rfl, trivial⟩ (subHp_gvJ m X E P) rfl rfl rfl (keepLt_gvJ m X E P), ⟨0, by omega, by omega, rfl⟩⟩, ?_⟩
  clear f7 f8 zat
  rintro d z ⟨r, rfl, hr, rfl⟩
  have l8 : (cE natV E).length = m := by rw [cE_len, hE]
  by_cases hrl : r < m
  · have c1 : decide ((r : Int) < (m : Int)) = true := by rw [decide_eq_true_eq]; omega
    have c2 : (0 : Int) ≤ (r : Int) := by omega
    have c3 : (r : Int) < (m : Int) := by omega
    have w1 : IntKind.i64.wrap ((r : Int) + 1) = ((r + 1 : Nat) : Int) := succ_i (by omega)
    have a1 := nat_at (E := E) (r := r) (by omega)
    have a0 := nat_at (E := E) (r := 0) (by omega)
    have hend : ∀ b' s'', bst (fun q => allY q i) E (r + 1) = b' → Le s'' (gvFIn M1 u v m k E P X (r + 1) b') → ∃ m' z, m' < m - r ∧ Le s'' z ∧ (∃ r, m' = m - r ∧ r ≤ m ∧ z = gvFIn M1 u v m k E P X r (bst (fun q => allY q i) E r)) := fun b' s'' e h => ⟨m - (r + 1), _, by omega, h, r + 1, rfl, by omega, by rw [e]⟩
    cases hbs : bst (fun q => allY q i) E r with
    | none =>
      have hmy : allY r i = true := rfl
      have hb : bst (fun q => allY q i) E (r + 1) = some r := by simp only [bst, hbs, hmy, if_true]
      (replace hb0 := true_and True); refine Go1.mk ?_; repeat' ((first | (with_reducible refine Go1.go ?_) | ((with_reducible first | refine brv_mk ?_ ?_ | refine gsplitD ?_ ?_ | refine gsplitG ?_ ?_) <;> intro h <;> (try simp only [Bool.not_eq_true', Bool.not_eq_false'] at h) <;> replace hb0 := h) | ((with_reducible refine isDraw [some 17, some 18, some 19, some 20, some 10, some 11] (by decide) ?_); refine draw_rule [(0, []), (1, []), (2, []), (3, []), (4, []), (5, [])] [[], [0], [], [2], [0, 1], [0, 1, 2, 3, 4]] [17, 18, 19, 20, 10] [] (by kernel_rfl) (by kernel_rfl) (by kernel_rfl) (by kernel_rfl) (by exact trivial) ?_) | ((with_reducible refine isDraw [some 41, some 42, some 43, some 44, some 45, some 46, some 47, some 48, some 49, some 50, some 51, some 52, some 53, some 54, some 55, some 56, some 57, some 58, some 59, some 60, some 61, some 62, some 63, some 64, some 65] (by decide) ?_); refine draw_rule [(0, []), (1, []), (2, []), (3, []), (4, []), (5, []), (6, [5]), (7, [5]), (8, []), (9, []), (10, []), (11, []), (12, []), (13, []), (14, []), (15, []), (16, []), (17, []), (18, [17]), (19, [17]), (20, [17]), (21, [17]), (22, []), (23, []), (24, [])] [[], [0], [0, 1], [0, 1], [0, 1, 2, 3], [0, 1, 2, 3, 4], [0, 1], [0, 1, 6], [0, 1, 2, 3, 4, 5, 6, 7], [0, 1, 2, 3, 4, 5, 6, 7, 8], [0, 1, 2, 3, 4, 5, 6, 7, 8, 9], [0, 1, 2, 3, 4, 5, 6, 7, 8, 9, 10], [0, 1, 2, 3, 4, 5, 6, 7, 8, 9, 10, 11], [0, 1, 2, 3, 4, 5, 6, 7, 8, 9, 10, 11, 12], [0, 1, 2, 3, 4, 5, 6, 7, 8, 9, 10, 11, 12, 13], [0, 1, 2, 3, 4, 5, 6, 7, 8, 9, 10, 11, 12, 13], [0, 1, 2, 3, 4, 5, 6, 7, 8, 9, 10, 11, 12, 13, 14, 15], [0, 1, 2, 3, 4, 5, 6, 7, 8, 9, 10, 11, 12, 13, 14, 15, 16], [0, 1, 2, 3, 4, 5, 6, 7, 8, 9, 10, 11, 12, 13], [0, 1, 2, 3, 4, 5, 6, 7, 8, 9, 10, 11, 12, 13], [0, 1, 2, 3, 4, 5, 6, 7, 8, 9, 10, 11, 12, 13, 18, 19], [0, 1, 2, 3, 4, 5, 6, 7, 8, 9, 10, 11, 12, 13, 18, 19, 20], [0, 1, 2, 3, 4, 5, 6, 7, 8, 9, 10, 11, 12, 13, 14, 15, 16, 17, 18, 19, 20, 21], [0, 1, 2, 3, 4, 5, 6, 7, 8, 9, 10, 11, 12, 13, 14, 15, 16, 17, 18, 19, 20, 21, 22], [0, 1, 2, 3, 4, 5, 6, 7, 8, 9, 10, 11, 12, 13, 14, 15, 16, 17, 18, 19, 20, 21, 22, 23]] [43, 44, 45, 46, 47, 48, 55, 56, 57, 58, 59, 60, 61, 62] [] (by kernel_rfl) (by kernel_rfl) (by kernel_rfl) (by kernel_rfl) (by exact trivial) ?_) | ((with_reducible refine isDraw [some 69, some 70, some 71, some 72, some 73, some 74, some 75, some 76, some 77, some 78, some 79, some 80, some 81, none] (by decide) ?_); refine draw_rule [(0, []), (1, []), (2, []), (3, []), (4, []), (5, []), (6, [5]), (7, [5]), (8, [5]), (9, [5]), (10, [5]), (11, [0, 1]), (12, []), (13, [])] [[], [], [], [], [2, 3], [2, 3, 4], [], [], [6, 7], [6, 7, 8], [6, 7, 8, 9], [2, 3, 4, 5, 6, 7, 8, 9, 10], [0, 1, 2, 3, 4, 5, 6, 7, 8, 9, 10, 11], [0, 1, 2, 3, 4, 5, 6, 7, 8, 9, 10, 11, 12]] [69, 70, 71, 72, 73, 74, 75, 76, 77, 78, 79, 80] [] (by kernel_rfl) (by kernel_rfl) (by kernel_rfl) (by kernel_rfl) (by exact trivial) ?_) | ((with_reducible refine isDraw [some 82, some 83, some 84, some 85, some 86, some 87, some 88, some 89, none] (by decide) ?_); refine draw_rule [(0, []), (1, []), (2, []), (3, []), (4, [3]), (5, [3]), (6, []), (7, []), (8, [])] [[], [], [0, 1], [0, 1, 2], [], [4], [0, 1, 2, 3, 4, 5], [0, 1, 2, 3, 4, 5, 6], [0, 1, 2, 3, 4, 5, 6, 7]] [82, 83, 84, 85, 86, 87] [] (by kernel_rfl) (by kernel_rfl) (by kernel_rfl) (by kernel_rfl) (by exact trivial) ?_) | (refine And.intro ?_ ?_; (try simp only [sxO] at *); omega) | fail) <;> (try simp (maxSteps := 1000000) only [hb0, gvFIn, dropH_no, subH_no, Nat.mul_one, Nat.zero_add, bstI, gvJ, gvH, TK.c, c1, w1, a1, l8, c2, c3, a0, cE_ment, cE_kill, hasK_nil, mentL_ext, List.nil_append, List.map_cons, List.map_nil, ↓hold_pre, awayP, runOps, regK, step1, newK, genR, appR, obl, buildR, Value.cells, closeK, keepH, outV, retK, ret1, retC, RetV, Option.getD, runD, stepD, afterK, undef, simprocAttr, sxB, ↓sxD, sxE, sxTab]))
      exact hend _ _ hb (le_sub ⟨rfl, rfl, rfl, rfl, rfl, rfl, rfl, rfl, rfl, rfl, rfl, trivial⟩ (by exact subHp_gvJ m X E P) rfl rfl rfl (by exact keepLt_gvJ m X E P))
    | some b =>
      obtain ⟨hbr, _, _⟩ := bst_some hbs
      have a2 := nat_at (E := E) (r := b) (by omega)
      have c4 : decide ((b : Int) < 0) = false := by rw [decide_eq_false_iff_not]; omega
      have c5 : (0 : Int) ≤ (b : Int) := by omega
      have c6 : (b : Int) < (m : Int) := by omega
      have hmy : allY r i = true := rfl
      by_cases hlt2 : E.getD r 0 < E.getD b 0
      · have c7 : decide (((E.getD r 0 : Nat) : Int) < ((E.getD b 0 : Nat) : Int)) = true := by rw [decide_eq_true_eq]; omega
        have hb : bst (fun q => allY q i) E (r + 1) = some r := by simp only [bst, hbs, hmy, Bool.true_and, decide_eq_true hlt2, if_true]
        (replace hb0 := true_and True); refine Go1.mk ?_; repeat' ((first | (with_reducible refine Go1.go ?_) | ((with_reducible first | refine brv_mk ?_ ?_ | refine gsplitD ?_ ?_ | refine gsplitG ?_ ?_) <;> intro h <;> (try simp only [Bool.not_eq_true', Bool.not_eq_false'] at h) <;> replace hb0 := h) | ((with_reducible refine isDraw [some 17, some 18, some 19, some 20, some 10, some 11] (by decide) ?_); refine draw_rule [(0, []), (1, []), (2, []), (3, []), (4, []), (5, [])] [[], [0], [], [2], [0, 1], [0, 1, 2, 3, 4]] [17, 18, 19, 20, 10] [] (by kernel_rfl) (by kernel_rfl) (by kernel_rfl) (by kernel_rfl) (by exact trivial) ?_) | ((with_reducible refine isDraw [some 41, some 42, some 43, some 44, some 45, some 46, some 47, some 48, some 49, some 50, some 51, some 52, some 53, some 54, some 55, some 56, some 57, some 58, some 59, some 60, some 61, some 62, some 63, some 64, some 65] (by decide) ?_); refine draw_rule [(0, []), (1, []), (2, []), (3, []), (4, []), (5, []), (6, [5]), (7, [5]), (8, []), (9, []), (10, []), (11, []), (12, []), (13, []), (14, []), (15, []), (16, []), (17, []), (18, [17]), (19, [17]), (20, [17]), (21, [17]), (22, []), (23, []), (24, [])] [[], [0], [0, 1], [0, 1], [0, 1, 2, 3], [0, 1, 2, 3, 4], [0, 1], [0, 1, 6], [0, 1, 2, 3, 4, 5, 6, 7], [0, 1, 2, 3, 4, 5, 6, 7, 8], [0, 1, 2, 3, 4, 5, 6, 7, 8, 9], [0, 1, 2, 3, 4, 5, 6, 7, 8, 9, 10], [0, 1, 2, 3, 4, 5, 6, 7, 8, 9, 10, 11], [0, 1, 2, 3, 4, 5, 6, 7, 8, 9, 10, 11, 12], [0, 1, 2, 3, 4, 5, 6, 7, 8, 9, 10, 11, 12, 13], [0, 1, 2, 3, 4, 5, 6, 7, 8, 9, 10, 11, 12, 13], [0, 1, 2, 3, 4, 5, 6, 7, 8, 9, 10, 11, 12, 13, 14, 15], [0, 1, 2, 3, 4, 5, 6, 7, 8, 9, 10, 11, 12, 13, 14, 15, 16], [0, 1, 2, 3, 4, 5, 6, 7, 8, 9, 10, 11, 12, 13], [0, 1, 2, 3, 4, 5, 6, 7, 8, 9, 10, 11, 12, 13], [0, 1, 2, 3, 4, 5, 6, 7, 8, 9, 10, 11, 12, 13, 18, 19], [0, 1, 2, 3, 4, 5, 6, 7, 8, 9, 10, 11, 12, 13, 18, 19, 20], [0, 1, 2, 3, 4, 5, 6, 7, 8, 9, 10, 11, 12, 13, 14, 15, 16, 17, 18, 19, 20, 21], [0, 1, 2, 3, 4, 5, 6, 7, 8, 9, 10, 11, 12, 13, 14, 15, 16, 17, 18, 19, 20, 21, 22], [0, 1, 2, 3, 4, 5, 6, 7, 8, 9, 10, 11, 12, 13, 14, 15, 16, 17, 18, 19, 20, 21, 22, 23]] [43, 44, 45, 46, 47, 48, 55, 56, 57, 58, 59, 60, 61, 62] [] (by kernel_rfl) (by kernel_rfl) (by kernel_rfl) (by kernel_rfl) (by exact trivial) ?_) | ((with_reducible refine isDraw [some 69, some 70, some 71, some 72, some 73, some 74, some 75, some 76, some 77, some 78, some 79, some 80, some 81, none] (by decide) ?_); refine draw_rule [(0, []), (1, []), (2, []), (3, []), (4, []), (5, []), (6, [5]), (7, [5]), (8, [5]), (9, [5]), (10, [5]), (11, [0, 1]), (12, []), (13, [])] [[], [], [], [], [2, 3], [2, 3, 4], [], [], [6, 7], [6, 7, 8], [6, 7, 8, 9], [2, 3, 4, 5, 6, 7, 8, 9, 10], [0, 1, 2, 3, 4, 5, 6, 7, 8, 9, 10, 11], [0, 1, 2, 3, 4, 5, 6, 7, 8, 9, 10, 11, 12]] [69, 70, 71, 72, 73, 74, 75, 76, 77, 78, 79, 80] [] (by kernel_rfl) (by kernel_rfl) (by kernel_rfl) (by kernel_rfl) (by exact trivial) ?_) | ((with_reducible refine isDraw [some 82, some 83, some 84, some 85, some 86, some 87, some 88, some 89, none] (by decide) ?_); refine draw_rule [(0, []), (1, []), (2, []), (3, []), (4, [3]), (5, [3]), (6, []), (7, []), (8, [])] [[], [], [0, 1], [0, 1, 2], [], [4], [0, 1, 2, 3, 4, 5], [0, 1, 2, 3, 4, 5, 6], [0, 1, 2, 3, 4, 5, 6, 7]] [82, 83, 84, 85, 86, 87] [] (by kernel_rfl) (by kernel_rfl) (by kernel_rfl) (by kernel_rfl) (by exact trivial) ?_) | (refine And.intro ?_ ?_; (try simp only [sxO] at *); omega) | fail) <;> (try simp (maxSteps := 1000000) only [hb0, gvFIn, dropH_no, subH_no, Nat.mul_one, Nat.zero_add, bstI, gvJ, gvH, TK.c, c1, w1, a1, l8, c2, c3, a2, c4, c5, c6, c7, cE_ment, cE_kill, hasK_nil, mentL_ext, List.nil_append, List.map_cons, List.map_nil, ↓hold_pre, awayP, runOps, regK, step1, newK, genR, appR, obl, buildR, Value.cells, closeK, keepH, outV, retK, ret1, retC, RetV, Option.getD, runD, stepD, afterK, undef, simprocAttr, sxB, ↓sxD, sxE, sxTab]))
        exact hend _ _ hb (le_sub ⟨rfl, rfl, rfl, rfl, rfl, rfl, rfl, rfl, rfl, rfl, rfl, trivial⟩ (by exact subHp_gvJ m X E P) rfl rfl rfl (by exact keepLt_gvJ m X E P))
      · have c7 : decide (((E.getD r 0 : Nat) : Int) < ((E.getD b 0 : Nat) : Int)) = false := by rw [decide_eq_false_iff_not]; omega
        have hb : bst (fun q => allY q i) E (r + 1) = some b := by simp only [bst, hbs, hmy, Bool.true_and, decide_eq_false hlt2, Bool.false_eq_true, if_false]
        (replace hb0 := true_and True); refine Go1.mk ?_; repeat' ((first | (with_reducible refine Go1.go ?_) | ((with_reducible first | refine brv_mk ?_ ?_ | refine gsplitD ?_ ?_ | refine gsplitG ?_ ?_) <;> intro h <;> (try simp only [Bool.not_eq_true', Bool.not_eq_false'] at h) <;> replace hb0 := h) | ((with_reducible refine isDraw [some 17, some 18, some 19, some 20, some 10, some 11] (by decide) ?_); refine draw_rule [(0, []), (1, []), (2, []), (3, []), (4, []), (5, [])] [[], [0], [], [2], [0, 1], [0, 1, 2, 3, 4]] [17, 18, 19, 20, 10] [] (by kernel_rfl) (by kernel_rfl) (by kernel_rfl) (by kernel_rfl) (by exact trivial) ?_) | ((with_reducible refine isDraw [some 41, some 42, some 43, some 44, some 45, some 46, some 47, some 48, some 49, some 50, some 51, some 52, some 53, some 54, some 55, some 56, some 57, some 58, some 59, some 60, some 61, some 62, some 63, some 64, some 65] (by decide) ?_); refine draw_rule [(0, []), (1, []), (2, []), (3, []), (4, []), (5, []), (6, [5]), (7, [5]), (8, []), (9, []), (10, []), (11, []), (12, []), (13, []), (14, []), (15, []), (16, []), (17, []), (18, [17]), (19, [17]), (20, [17]), (21, [17]), (22, []), (23, []), (24, [])] [[], [0], [0, 1], [0, 1], [0, 1, 2, 3], [0, 1, 2, 3, 4], [0, 1], [0, 1, 6], [0, 1, 2, 3, 4, 5, 6, 7], [0, 1, 2, 3, 4, 5, 6, 7, 8], [0, 1, 2, 3, 4, 5, 6, 7, 8, 9], [0, 1, 2, 3, 4, 5, 6, 7, 8, 9, 10], [0, 1, 2, 3, 4, 5, 6, 7, 8, 9, 10, 11], [0, 1, 2, 3, 4, 5, 6, 7, 8, 9, 10, 11, 12], [0, 1, 2, 3, 4, 5, 6, 7, 8, 9, 10, 11, 12, 13], [0, 1, 2, 3, 4, 5, 6, 7, 8, 9, 10, 11, 12, 13], [0, 1, 2, 3, 4, 5, 6, 7, 8, 9, 10, 11, 12, 13, 14, 15], [0, 1, 2, 3, 4, 5, 6, 7, 8, 9, 10, 11, 12, 13, 14, 15, 16], [0, 1, 2, 3, 4, 5, 6, 7, 8, 9, 10, 11, 12, 13], [0, 1, 2, 3, 4, 5, 6, 7, 8, 9, 10, 11, 12, 13], [0, 1, 2, 3, 4, 5, 6, 7, 8, 9, 10, 11, 12, 13, 18, 19], [0, 1, 2, 3, 4, 5, 6, 7, 8, 9, 10, 11, 12, 13, 18, 19, 20], [0, 1, 2, 3, 4, 5, 6, 7, 8, 9, 10, 11, 12, 13, 14, 15, 16, 17, 18, 19, 20, 21], [0, 1, 2, 3, 4, 5, 6, 7, 8, 9, 10, 11, 12, 13, 14, 15, 16, 17, 18, 19, 20, 21, 22], [0, 1, 2, 3, 4, 5, 6, 7, 8, 9, 10, 11, 12, 13, 14, 15, 16, 17, 18, 19, 20, 21, 22, 23]] [43, 44, 45, 46, 47, 48, 55, 56, 57, 58, 59, 60, 61, 62] [] (by kernel_rfl) (by kernel_rfl) (by kernel_rfl) (by kernel_rfl) (by exact trivial) ?_) | ((with_reducible refine isDraw [some 69, some 70, some 71, some 72, some 73, some 74, some 75, some 76, some 77, some 78, some 79, some 80, some 81, none] (by decide) ?_); refine draw_rule [(0, []), (1, []), (2, []), (3, []), (4, []), (5, []), (6, [5]), (7, [5]), (8, [5]), (9, [5]), (10, [5]), (11, [0, 1]), (12, []), (13, [])] [[], [], [], [], [2, 3], [2, 3, 4], [], [], [6, 7], [6, 7, 8], [6, 7, 8, 9], [2, 3, 4, 5, 6, 7, 8, 9, 10], [0, 1, 2, 3, 4, 5, 6, 7, 8, 9, 10, 11], [0, 1, 2, 3, 4, 5, 6, 7, 8, 9, 10, 11, 12]] [69, 70, 71, 72, 73, 74, 75, 76, 77, 78, 79, 80] [] (by kernel_rfl) (by kernel_rfl) (by kernel_rfl) (by kernel_rfl) (by exact trivial) ?_) | ((with_reducible refine isDraw [some 82, some 83, some 84, some 85, some 86, some 87, some 88, some 89, none] (by decide) ?_); refine draw_rule [(0, []), (1, []), (2, []), (3, []), (4, [3]), (5, [3]), (6, []), (7, []), (8, [])] [[], [], [0, 1], [0, 1, 2], [], [4], [0, 1, 2, 3, 4, 5], [0, 1, 2, 3, 4, 5, 6], [0, 1, 2, 3, 4, 5, 6, 7]] [82, 83, 84, 85, 86, 87] [] (by kernel_rfl) (by kernel_rfl) (by kernel_rfl) (by kernel_rfl) (by exact trivial) ?_) | (refine And.intro ?_ ?_; (try simp only [sxO] at *); omega) | fail) <;> (try simp (maxSteps := 1000000) only [hb0, gvFIn, dropH_no, subH_no, Nat.mul_one, Nat.zero_add, bstI, gvJ, gvH, TK.c, c1, w1, a1, l8, c2, c3, a2, c4, c5, c6, c7, cE_ment, cE_kill, hasK_nil, mentL_ext, List.nil_append, List.map_cons, List.map_nil, ↓hold_pre, awayP, runOps, regK, step1, newK, genR, appR, obl, buildR, Value.cells, closeK, keepH, outV, retK, ret1, retC, RetV, Option.getD, runD, stepD, afterK, undef, simprocAttr, sxB, ↓sxD, sxE, sxTab]))
        exact hend _ _ hb (le_sub ⟨rfl, rfl, rfl, rfl, rfl, rfl, rfl, rfl, rfl, rfl, rfl, trivial⟩ (by exact subHp_gvJ m X E P) rfl rfl rfl (by exact keepLt_gvJ m X E P))
  obtain rfl : r = m := by omega
  have c1 : decide ((r : Int) < (r : Int)) = false := by simp
  cases hbs : bst (fun q => allY q i) E r with
  | none =>
    (replace hb0 := true_and True); refine Go1.mk ?_; repeat' ((first | (with_reducible refine Go1.go ?_) | ((with_reducible first | refine brv_mk ?_ ?_ | refine gsplitD ?_ ?_ | refine gsplitG ?_ ?_) <;> intro h <;> (try simp only [Bool.not_eq_true', Bool.not_eq_false'] at h) <;> replace hb0 := h) | (refine And.intro ?_ ?_; (try simp only [sxO] at *); omega) | fail) <;> (try simp (maxSteps := 1000000) only [hb0, gvFIn, dropH_no, subH_no, bstI, gvJ, gvH, c1, hasK_nil, mentL_ext, List.nil_append, ↓hold_pre, awayP, runOps, regK, step1, newK, genR, appR, obl, buildR, Value.cells, closeK, keepH, outV, retK, ret1, retC, RetV, Option.getD, runD, stepD, afterK, undef, simprocAttr, sxB, ↓sxD, sxE, sxTab]))
    refine .inl (hK2 M1 m1 ⟨Z, z1, by rw [hg]; simp [giveS, hbs]⟩)
  | some b =>
    obtain ⟨hbr, _, _⟩ := bst_some hbs
    have c4 : decide ((b : Int) < 0) = false := by rw [decide_eq_false_iff_not]; omega
    have c5 : (0 : Int) ≤ (b : Int) := by omega
    have c7 : (b : Int) < (r : Int) := by omega
    have a2 := nat_at (E := E) (r := b) (by omega)
    have hcb2 : cosN T i ≤ 1048576 := by unfold cosN; omega
    have hEb2 : E.getD b 0 ≤ k * 1048576 := by
      rw [List.getD_eq_getElem?_getD, List.getElem?_eq_getElem (by omega)]
      exact hEb _ (List.getElem_mem _)
    have w2 : IntKind.i64.wrap (((E.getD b 0 : Nat) : Int) + X.cost) = ((E.getD b 0 + cosN T i : Nat) : Int) := by rw [hcn, wrap_id (by omega) (by omega)]; omega
    have st : (cE natV E).set b (.ext (.int .i64 ((E.getD b 0 + cosN T i : Nat) : Int))) = cE natV (E.set b (E.getD b 0 + cosN T i)) := cE_set natV E b _
    have w3 : IntKind.i64.wrap ((k : Int) + 1) = ((k + 1 : Nat) : Int) := succ_i (by omega)
    have hLl : (LsP P).length = r := by unfold LsP; rw [List.length_map, hPm2]
    have fl := famC_len (b := 1000) (Ls := LsP P)
    rw [hLl] at fl
    have hbL : b < (LsP P).length := by omega
    have hPb1 : P.getD b [] ∈ P := by rw [List.getD_eq_getElem?_getD, List.getElem?_eq_getElem (by omega)]; exact List.getElem_mem _
    have hPb2 := hPb _ hPb1
    have hLb := LsP_at hbL
    have fa := famC_at (b := 1000) hbL
    rw [hLb, List.length_map] at fa
    have fk : lkH (famH 1000 3 (LsP P) []) (b + 1000) = some (3, cE natV (P.getD b [])) := by rw [lkH_famI hbL, hLb]; unfold cE; rw [List.map_map]
    have f1 : hasK 579 (mentL (famC 1000 (LsP P))) = false := famC_ment (LsP P) 1000 (by omega)
    have f2 : hasK 579 (mentH (famH 1000 3 (LsP P) [])) = false := by rw [hasK_fam (by omega)]; rfl
    have f3 : killL (b + 1000) (famC 1000 (LsP P)) = (famC 1000 (LsP P)).set b .unk := famC_killI
    have f4 : killH (b + 1000) (famH 1000 3 (LsP P) []) = famX 1000 3 (LsP P) b [] := killH_famI
    have f5 : (famC 1000 (LsP P)).set b (.slo (b + 1000) 0 ((P.getD b []).length + 1) 1) = famC 1000 (LsP (P.set b (P.getD b [] ++ [i]))) := by
      rw [LsP_set, ← famC_set (n := (P.getD b []).length + 1) (by simp)]
    have f6 := fun j (hj : j < (LsP P).length) (hne : j ≠ b) => lkH_famXJ (b := 1000) (T := 3) (r := []) hj hne
    have hfx : ∀ H : Hp, (∀ j, 1000 ≤ j → lkH H j = if j = b + 1000 then some (3, cE natV (P.getD b []) ++ [.ext (.int .i64 (i : Int))]) else lkH (famX 1000 3 (LsP P) b []) j) → subHp (famH 1000 3 (LsP (P.set b (P.getD b [] ++ [i]))) []) H := fun H hH => subHp_fam (fun j hj => by
      have hj2 : j < (LsP P).length := by simpa [LsP] using hj
      rw [hH _ (by omega), LsP_at hj]
      by_cases e : j = b
      · subst e
        rw [if_pos rfl, getD_set (by omega), if_pos rfl, List.map_append, List.map_append]
        unfold cE; rw [List.map_map]; rfl
      · rw [if_neg (by omega), f6 j hj2 e, LsP_at hj2, getD_set (by omega), if_neg (fun h => e h.symm)]) trivial
    clear f6 hLb
    have hPset := setP_le hPb hPb2 (b := b) (i := i)
    have hEset := setE_le hEb (b := b) (y := E.getD b 0 + cosN T i) (Nat.le_trans (Nat.add_le_add hEb2 hcb2) (by rw [Nat.succ_mul]; exact Nat.le_refl _))
    have hg2 : giveS allY (cosN T) r (i :: Z.drop (k + 1)) E P = giveS allY (cosN T) r (Z.drop (k + 1)) (E.set b (E.getD b 0 + cosN T i)) (P.set b (P.getD b [] ++ [i])) := by
      simp only [giveS, hbs]
    rw [hg2] at hg
    clear hg2
    have zat2 := z2.at (P := Try.prog) (T := 3) tk3 tz3 hlt
    rw [hzk] at zat2
    have zat2 : lookM Try.prog 3 M1 (elemP v 1 k) = some (.int .i64 (i : Int)) := zat2
    generalize hPl2 : P.getD b [] = pl at *
    (replace hb0 := true_and True); refine Go1.mk ?_; repeat' ((first | (with_reducible refine Go1.go ?_) | ((with_reducible first | refine brv_mk ?_ ?_ | refine gsplitD ?_ ?_ | refine gsplitG ?_ ?_) <;> intro h <;> (try simp only [Bool.not_eq_true', Bool.not_eq_false'] at h) <;> replace hb0 := h) | ((with_reducible refine isDraw [some 17, some 18, some 19, some 20, some 10, some 11] (by decide) ?_); refine draw_rule [(0, []), (1, []), (2, []), (3, []), (4, []), (5, [])] [[], [0], [], [2], [0, 1], [0, 1, 2, 3, 4]] [17, 18, 19, 20, 10] [] (by kernel_rfl) (by kernel_rfl) (by kernel_rfl) (by kernel_rfl) (by exact trivial) ?_) | ((with_reducible refine isDraw [some 41, some 42, some 43, some 44, some 45, some 46, some 47, some 48, some 49, some 50, some 51, some 52, some 53, some 54, some 55, some 56, some 57, some 58, some 59, some 60, some 61, some 62, some 63, some 64, some 65] (by decide) ?_); refine draw_rule [(0, []), (1, []), (2, []), (3, []), (4, []), (5, []), (6, [5]), (7, [5]), (8, []), (9, []), (10, []), (11, []), (12, []), (13, []), (14, []), (15, []), (16, []), (17, []), (18, [17]), (19, [17]), (20, [17]), (21, [17]), (22, []), (23, []), (24, [])] [[], [0], [0, 1], [0, 1], [0, 1, 2, 3], [0, 1, 2, 3, 4], [0, 1], [0, 1, 6], [0, 1, 2, 3, 4, 5, 6, 7], [0, 1, 2, 3, 4, 5, 6, 7, 8], [0, 1, 2, 3, 4, 5, 6, 7, 8, 9], [0, 1, 2, 3, 4, 5, 6, 7, 8, 9, 10], [0, 1, 2, 3, 4, 5, 6, 7, 8, 9, 10, 11], [0, 1, 2, 3, 4, 5, 6, 7, 8, 9, 10, 11, 12], [0, 1, 2, 3, 4, 5, 6, 7, 8, 9, 10, 11, 12, 13], [0, 1, 2, 3, 4, 5, 6, 7, 8, 9, 10, 11, 12, 13], [0, 1, 2, 3, 4, 5, 6, 7, 8, 9, 10, 11, 12, 13, 14, 15], [0, 1, 2, 3, 4, 5, 6, 7, 8, 9, 10, 11, 12, 13, 14, 15, 16], [0, 1, 2, 3, 4, 5, 6, 7, 8, 9, 10, 11, 12, 13], [0, 1, 2, 3, 4, 5, 6, 7, 8, 9, 10, 11, 12, 13], [0, 1, 2, 3, 4, 5, 6, 7, 8, 9, 10, 11, 12, 13, 18, 19], [0, 1, 2, 3, 4, 5, 6, 7, 8, 9, 10, 11, 12, 13, 18, 19, 20], [0, 1, 2, 3, 4, 5, 6, 7, 8, 9, 10, 11, 12, 13, 14, 15, 16, 17, 18, 19, 20, 21], [0, 1, 2, 3, 4, 5, 6, 7, 8, 9, 10, 11, 12, 13, 14, 15, 16, 17, 18, 19, 20, 21, 22], [0, 1, 2, 3, 4, 5, 6, 7, 8, 9, 10, 11, 12, 13, 14, 15, 16, 17, 18, 19, 20, 21, 22, 23]] [43, 44, 45, 46, 47, 48, 55, 56, 57, 58, 59, 60, 61, 62] [] (by kernel_rfl) (by kernel_rfl) (by kernel_rfl) (by kernel_rfl) (by exact trivial) ?_) | ((with_reducible refine isDraw [some 69, some 70, some 71, some 72, some 73, some 74, some 75, some 76, some 77, some 78, some 79, some 80, some 81, none] (by decide) ?_); refine draw_rule [(0, []), (1, []), (2, []), (3, []), (4, []), (5, []), (6, [5]), (7, [5]), (8, [5]), (9, [5]), (10, [5]), (11, [0, 1]), (12, []), (13, [])] [[], [], [], [], [2, 3], [2, 3, 4], [], [], [6, 7], [6, 7, 8], [6, 7, 8, 9], [2, 3, 4, 5, 6, 7, 8, 9, 10], [0, 1, 2, 3, 4, 5, 6, 7, 8, 9, 10, 11], [0, 1, 2, 3, 4, 5, 6, 7, 8, 9, 10, 11, 12]] [69, 70, 71, 72, 73, 74, 75, 76, 77, 78, 79, 80] [] (by kernel_rfl) (by kernel_rfl) (by kernel_rfl) (by kernel_rfl) (by exact trivial) ?_) | ((with_reducible refine isDraw [some 82, some 83, some 84, some 85, some 86, some 87, some 88, some 89, none] (by decide) ?_); refine draw_rule [(0, []), (1, []), (2, []), (3, []), (4, [3]), (5, [3]), (6, []), (7, []), (8, [])] [[], [], [0, 1], [0, 1, 2], [], [4], [0, 1, 2, 3, 4, 5], [0, 1, 2, 3, 4, 5, 6], [0, 1, 2, 3, 4, 5, 6, 7]] [82, 83, 84, 85, 86, 87] [] (by kernel_rfl) (by kernel_rfl) (by kernel_rfl) (by kernel_rfl) (by exact trivial) ?_) | (refine And.intro ?_ ?_; (try simp only [sxO] at *); omega) | fail) <;> (try simp (maxSteps := 1000000) only [hb0, gvFIn, dropH_no, subH_no, Nat.mul_one, Nat.zero_add, bstI, gvJ, gvH, TK.c, c1, c4, c5, c7, b1, b2, znn, zat2, z2.one, z2.len, z2.sl, a2, l8, w2, w3, st, fl, fa, fk, f1, f2, f3, f4, f5, killL_exts, hasK_app, List.set_set, List.length_set, cE_len, cE_ment, cE_kill, hasK_nil, mentL_ext, List.nil_append, List.map_cons, List.map_nil, ↓hold_pre, awayP, runOps, regK, step1, newK, genR, appR, obl, buildR, Value.cells, closeK, keepH, outV, retK, ret1, retC, RetV, Option.getD, runD, stepD, afterK, undef, simprocAttr, sxB, ↓sxD, sxE, sxTab]))
    exact ⟨Z.length - (k + 1), gvFSt M1 u v r (k + 1) (E.set b (E.getD b 0 + cosN T i)) (P.set b (pl ++ [i])), by omega, le_sub ⟨rfl, rfl, rfl, rfl, rfl, rfl, rfl, rfl, trivial⟩ ⟨by simp [lkH], by simp [lkH], hfx _ (fun j hj => fam_lk4 hj (by omega) (by omega) (by omega) (by omega))⟩ rfl rfl rfl ⟨.inl (show 500 ≤ b + 1000 by omega), .inl (show 500 ≤ 579 by omega), .inl (show 500 ≤ 514 by omega), .inl (show 500 ≤ 520 by omega), .inl (show 500 ≤ 518 by omega), keepLt_famX (show 500 ≤ 1000 by omega) trivial⟩, k + 1, _, _, rfl, by omega, by rw [List.length_set, hE], by rw [List.length_set, hPm2], hEset, hPset, hg, rfl⟩
end
end Go.Proofs.Ytgkfmlgfmcpebaa.Sx
namespace Go.Proofs.Ytgkfmlgfmcpebaa.Sx
open Go Go.RowKit
set_option linter.unusedVariables false
set_option linter.unusedSimpArgs false
set_option maxRecDepth 100000
set_option maxHeartbeats 8000000
attribute [local congr] fin_congr finG_congr stepG_congr step1_congr runOps_congr brv_congr obl_congr condK_congr LoopK_congr seqK_congr CutK_congr vc_congr DrawK_congr regK_congr CallK_congr AskK_congr newK_congr retC_congr ret1_congr retK_congr outV_congr closeK_congr genR_congr appR_congr finD_congr finGD_congr stepGD_congr stepD_congr CallK0_congr runD_congr okR_congr CallS_congr vcX_congr
attribute [local congr] Stop_congr
section
variable {M : Mem} {K : AV → Hp → Mem → Prop} {u up v : Value} {T : List TK}
theorem rDivide_ok (hu : IsR M 4 TK.c u T) (hb : T.length < 1000000) (n : Int) (hK : ∀ M' U P e, Mem.le M M' → divR T n allY P e → LLF M M' U (LsP P) → K (.ext (.tuple #[U, .int .i64 e])) [] M') : CallS Try.prog 14 [.ext u, .ext (.int .i64 n)] [] M [] K := by
  refine inlS (cs := []) Try.mixed Try.func14 rfl (by kernel_rfl) 0 rfl rfl ?_
  simp only [Try.f14]
  by_cases he : errT T n = 0
  case neg =>
    have d1 : decide (errT T n = 0) = false := decide_eq_false he
    (replace hb0 := true_and True); refine Go1.mk ?_; repeat' ((first | (with_reducible refine Go1.go ?_) | ((with_reducible first | refine brv_mk ?_ ?_ | refine gsplitD ?_ ?_ | refine gsplitG ?_ ?_) <;> intro h <;> (try simp only [Bool.not_eq_true', Bool.not_eq_false'] at h) <;> replace hb0 := h) | (((with_reducible refine isCall (f := 37) ?_); refine callA_nil (by kernel_rfl) ?_; refine (rcheck_ok hu hb n ?_))) | (refine And.intro ?_ ?_; (try simp only [sxO] at *); omega) | fail) <;> (try simp (maxSteps := 1000000) only [hb0, hu.one, d1, ↓hold_pre, awayP, runOps, regK, step1, newK, genR, appR, obl, buildR, Value.cells, closeK, keepH, outV, retK, ret1, retC, RetV, Option.getD, runD, stepD, afterK, undef, simprocAttr, sxB, ↓sxD, sxE, sxTab]))
    exact hK M _ [] _ (Mem.le.refl _) (.inl ⟨he, rfl, rfl⟩) (LLF.nil M)
  obtain ⟨hc, h1, h8⟩ := errT_0 he
  obtain ⟨m, rfl⟩ := Int.eq_ofNat_of_zero_le (show 0 ≤ n by omega)
  (replace hb0 := true_and True); refine Go1.mk ?_; repeat' ((first | (with_reducible refine Go1.go ?_) | ((with_reducible first | refine brv_mk ?_ ?_ | refine gsplitD ?_ ?_ | refine gsplitG ?_ ?_) <;> intro h <;> (try simp only [Bool.not_eq_true', Bool.not_eq_false'] at h) <;> replace hb0 := h) | (((with_reducible refine isCall (f := 37) ?_); refine callA_nil (by kernel_rfl) ?_; refine (rcheck_ok hu hb _ ?_))) | (((with_reducible refine isCall (f := 38) ?_); refine callA_nil (by kernel_rfl) ?_; refine (giveF_ok hu hc (by omega) (by omega) (fun M' U P c1 c2 c3 => Stop.mk ?_) (fun M' c1 c2 => Stop.mk ?_)))) | (refine And.intro ?_ ?_; (try simp only [sxO] at *); omega) | fail) <;> (try simp (maxSteps := 1000000) only [hb0, hu.one, he, ↓hold_pre, awayP, runOps, regK, step1, newK, genR, appR, obl, buildR, Value.cells, closeK, keepH, outV, retK, ret1, retC, RetV, Option.getD, runD, stepD, afterK, undef, simprocAttr, sxB, ↓sxD, sxE, sxTab]))
  · have hk := hK M' U P 0 c1 (.inr ⟨he, m, rfl, _, c2, rfl, rfl⟩) c3
    refine Stop.go ?_
    (replace hb0 := true_and True); refine Go1.mk ?_; repeat' ((first | (with_reducible refine Go1.go ?_) | ((with_reducible first | refine brv_mk ?_ ?_ | refine gsplitD ?_ ?_ | refine gsplitG ?_ ?_) <;> intro h <;> (try simp only [Bool.not_eq_true', Bool.not_eq_false'] at h) <;> replace hb0 := h) | (refine And.intro ?_ ?_; (try simp only [sxO] at *); omega) | fail) <;> (try simp (maxSteps := 1000000) only [hb0, ↓hold_pre, awayP, runOps, regK, step1, newK, genR, appR, obl, buildR, Value.cells, closeK, keepH, outV, retK, ret1, retC, RetV, Option.getD, runD, stepD, afterK, undef, simprocAttr, sxB, ↓sxD, sxE, sxTab]))
    exact hk
  · have hk := hK M' (.slice none 0 0) [] 18 c1 (.inr ⟨he, m, rfl, _, c2, rfl, rfl⟩) ((LLF.nil M').older c1)
    refine Stop.go ?_
    (replace hb0 := true_and True); refine Go1.mk ?_; repeat' ((first | (with_reducible refine Go1.go ?_) | ((with_reducible first | refine brv_mk ?_ ?_ | refine gsplitD ?_ ?_ | refine gsplitG ?_ ?_) <;> intro h <;> (try simp only [Bool.not_eq_true', Bool.not_eq_false'] at h) <;> replace hb0 := h) | (refine And.intro ?_ ?_; (try simp only [sxO] at *); omega) | fail) <;> (try simp (maxSteps := 1000000) only [hb0, ↓hold_pre, awayP, runOps, regK, step1, newK, genR, appR, obl, buildR, Value.cells, closeK, keepH, outV, retK, ret1, retC, RetV, Option.getD, runD, stepD, afterK, undef, simprocAttr, sxB, ↓sxD, sxE, sxTab]))
    exact hk
theorem LL.atN {P : Program} {Tt : TypeId} {U : Value} {Pl : List (List Nat)} (h : LL M U (LsP Pl)) (hk : kindT P Tt = some false) (hz : szO P Tt = some 1) {i : Nat} (hi : i < Pl.length) : ∃ x, lookM P Tt M (elemP U 1 i) = some x ∧ IsL M natV x (Pl.getD i []) ∧ nilS U = false := by
  obtain ⟨us, h⟩ := h
  have hl : (LsP Pl).length = Pl.length := by unfold LsP; rw [List.length_map]
  have h1 := h.at_ i (by omega)
  have h2 : us[i]? = some (us[i]'(by have := h.len; omega)) := List.getElem?_eq_getElem _
  refine ⟨_, h.out.at1 hk hz h2, ?_, h.out.nn (by omega)⟩
  rw [LsP_at (by omega), List.length_map] at h1
  exact h1
def saSt (M : Mem) (u up : Value) (i : Nat) : St := { env := [(5, .ext (.int .i64 (i : Int))), (1, .ext up), (0, .ext u)], hp := [], M := M, kb := 0, fx := [] }
theorem rSame_ok {P : List (List Nat)} (hA : LL M u (LsP P)) (hB : LL M up (LsP P)) (hl : ∀ l ∈ P, l.length < 1000000000) (hn : P.length < 1000000000) (hK : K (.ext (.bool true)) [] M) : CallS Try.prog 15 [.ext u, .ext up] [] M [] K := by
  refine inlS (cs := []) Try.mixed Try.func15 rfl (by kernel_rfl) 0 rfl rfl ?_
  simp only [Try.f15]
  obtain ⟨s1, s2, s3⟩ := hA.sl
  obtain ⟨r1, r2, r3⟩ := hB.sl
  have hlp : (LsP P).length = P.length := by unfold LsP; rw [List.length_map]
  rw [hlp] at s2 r2
  have d0 : decide ((P.length : Int) = (P.length : Int)) = true := by simp
  (replace hb0 := true_and True); refine Go1.mk ?_; repeat' ((first | (with_reducible refine Go1.go ?_) | ((with_reducible first | refine brv_mk ?_ ?_ | refine gsplitD ?_ ?_ | refine gsplitG ?_ ?_) <;> intro h <;> (try simp only [Bool.not_eq_true', Bool.not_eq_false'] at h) <;> replace hb0 := h) | (refine And.intro ?_ ?_; (try simp only [sxO] at *); omega) | fail) <;> (try simp (maxSteps := 1000000) only [hb0, s1, s2, s3, r1, r2, r3, d0, ↓hold_pre, awayP, runOps, regK, step1, newK, genR, appR, obl, buildR, Value.cells, closeK, keepH, outV, retK, ret1, retC, RetV, Option.getD, runD, stepD, afterK, undef, simprocAttr, sxB, ↓sxD, sxE, sxTab]))
  refine ⟨fun d z => ∃ i, i ≤ P.length ∧ d = P.length - i ∧ z = saSt M u up i, ⟨P.length, saSt M u up 0, le_sub ⟨rfl, rfl, rfl, trivial⟩ trivial rfl rfl rfl (keepLt0 _), ⟨0, by omega, by omega, rfl⟩⟩, ?_⟩
  rintro d z ⟨i, hi, rfl, rfl⟩
  by_cases hlt : i < P.length
  case neg =>
    obtain rfl : i = P.length := by omega
    have d1 : decide ((P.length : Int) < (P.length : Int)) = false := by simp
    (replace hb0 := true_and True); refine Go1.mk ?_; repeat' ((first | (with_reducible refine Go1.go ?_) | ((with_reducible first | refine brv_mk ?_ ?_ | refine gsplitD ?_ ?_ | refine gsplitG ?_ ?_) <;> intro h <;> (try simp only [Bool.not_eq_true', Bool.not_eq_false'] at h) <;> replace hb0 := h) | (refine And.intro ?_ ?_; (try simp only [sxO] at *); omega) | fail) <;> (try simp (maxSteps := 1000000) only [hb0, saSt, s1, s2, s3, r1, r2, r3, d1, ↓hold_pre, awayP, runOps, regK, step1, newK, genR, appR, obl, buildR, Value.cells, closeK, keepH, outV, retK, ret1, retC, RetV, Option.getD, runD, stepD, afterK, undef, simprocAttr, sxB, ↓sxD, sxE, sxTab]))
    exact hK
  have d1 : decide ((i : Int) < (P.length : Int)) = true := by rw [decide_eq_true_eq]; omega
  have b1 : (0 : Int) ≤ (i : Int) := by omega
  have b2 : (i : Int) < (P.length : Int) := by omega
  have wi : IntKind.i64.wrap ((i : Int) + 1) = ((i + 1 : Nat) : Int) := succ_i (by omega)
  obtain ⟨x, x1, x2, x3⟩ := hA.atN (P := Try.prog) (Tt := 22) tk22 tz22 hlt
  obtain ⟨y, y1, y2, y3⟩ := hB.atN (P := Try.prog) (Tt := 22) tk22 tz22 hlt
  have hll : ((P.getD i []).map fun (x : Nat) => (x : Int)).length < 1000000000 := by
    rw [List.length_map]
    exact hl _ (by rw [List.getD_eq_getElem?_getD, List.getElem?_eq_getElem hlt]; exact List.getElem_mem _)
  have hsm : decide (((P.getD i []).map fun (x : Nat) => (x : Int)) = ((P.getD i []).map fun (x : Nat) => (x : Int))) = true := by simp
  (replace hb0 := true_and True); refine Go1.mk ?_; repeat' ((first | (with_reducible refine Go1.go ?_) | ((with_reducible first | refine brv_mk ?_ ?_ | refine gsplitD ?_ ?_ | refine gsplitG ?_ ?_) <;> intro h <;> (try simp only [Bool.not_eq_true', Bool.not_eq_false'] at h) <;> replace hb0 := h) | (((with_reducible refine isCall0 (f := 20) ?_); refine callA0_nil (by kernel_rfl) ?_; refine (sameInts_ok x y _ _ x2.nat y2.nat hll hll ?_))) | ((with_reducible refine isDraw [some 17, some 18, some 19, some 20, some 21, some 22, some 23, some 24, some 25, some 26] (by decide) ?_); refine draw_rule [(0, []), (1, []), (2, []), (3, []), (4, [3]), (5, [3]), (6, [3]), (7, [3]), (8, []), (9, [])] [[], [], [0, 1], [0, 1, 2], [], [], [4, 5], [4, 5, 6], [0, 1, 2, 3, 4, 5, 6, 7], [0, 1, 2, 3, 4, 5, 6, 7, 8]] [17, 18, 19, 20, 21, 22, 23, 24] [] (by kernel_rfl) (by kernel_rfl) (by kernel_rfl) (by kernel_rfl) (by exact trivial) ?_) | (refine And.intro ?_ ?_; (try simp only [sxO] at *); omega) | fail) <;> (try simp (maxSteps := 1000000) only [hb0, saSt, s1, s2, s3, r1, r2, r3, d1, b1, b2, wi, x1, x3, y1, y3, x2.one, y2.one, hsm, ↓hold_pre, awayP, runOps, regK, step1, newK, genR, appR, obl, buildR, Value.cells, closeK, keepH, outV, retK, ret1, retC, RetV, Option.getD, runD, stepD, afterK, undef, simprocAttr, sxB, ↓sxD, sxE, sxTab]))
  exact ⟨P.length - (i + 1), saSt M u up (i + 1), by omega, le_sub ⟨rfl, rfl, rfl, trivial⟩ trivial rfl rfl rfl (keepLt0 _), i + 1, by omega, rfl, rfl⟩
end
end Go.Proofs.Ytgkfmlgfmcpebaa.Sx
namespace Go.Proofs.Ytgkfmlgfmcpebaa.Sx
open Go Go.RowKit
set_option linter.unusedVariables false
set_option linter.unusedSimpArgs false
set_option maxRecDepth 100000
set_option maxHeartbeats 8000000
attribute [local congr] fin_congr finG_congr stepG_congr step1_congr runOps_congr brv_congr obl_congr condK_congr LoopK_congr seqK_congr CutK_congr vc_congr DrawK_congr regK_congr CallK_congr AskK_congr newK_congr retC_congr ret1_congr retK_congr outV_congr closeK_congr genR_congr appR_congr finD_congr finGD_congr stepGD_congr stepD_congr CallK0_congr runD_congr okR_congr CallS_congr vcX_congr
attribute [local congr] Stop_congr
section
variable {M : Mem} {K : AV → Hp → Mem → Prop} {u : Value} {T : List TK}
theorem set_back {E : List Nat} {k x : Nat} (h : k < E.length) : (E.set k x).set k (E.getD k 0) = E := by
  rw [List.set_set, List.getD_eq_getElem?_getD, List.getElem?_eq_getElem h]
  exact List.set_getElem_self h
def bestN (T : List TK) (m : Nat) : Nat := rbs (cosN T) (List.range T.length) (List.replicate m 0)
def bestQ (T : List TK) (n : Int) : Int × Int := if errT T n = 0 then (if T.length ≤ 10 then (((bestN T n.toNat : Nat) : Int), 0) else (0, 2)) else (0, errT T n)
theorem bestQ_err {n : Int} (h : ¬ errT T n = 0) : bestQ T n = (0, errT T n) := by unfold bestQ; rw [if_neg h]
theorem bestQ_many {n : Int} (h : errT T n = 0) (h2 : ¬ T.length ≤ 10) : bestQ T n = (0, 2) := by unfold bestQ; rw [if_pos h, if_neg h2]
theorem bestQ_ok {m : Nat} (h : errT T m = 0) (h2 : T.length ≤ 10) : bestQ T m = (((bestN T m : Nat) : Int), 0) := by unfold bestQ; rw [if_pos h, if_pos h2, Int.toNat_natCast]
end
end Go.Proofs.Ytgkfmlgfmcpebaa.Sx
namespace Go.Proofs.Ytgkfmlgfmcpebaa.Sx
open Go Go.RowKit
set_option linter.unusedVariables false
set_option linter.unusedSimpArgs false
set_option maxRecDepth 100000
set_option maxHeartbeats 8000000
attribute [local congr] fin_congr finG_congr stepG_congr step1_congr runOps_congr brv_congr obl_congr condK_congr LoopK_congr seqK_congr CutK_congr vc_congr DrawK_congr regK_congr CallK_congr AskK_congr newK_congr retC_congr ret1_congr retK_congr outV_congr closeK_congr genR_congr appR_congr finD_congr finGD_congr stepGD_congr stepD_congr CallK0_congr runD_congr okR_congr CallS_congr vcX_congr
attribute [local congr] Stop_congr
theorem maxL_one {l : List Nat} (h : 0 < l.length) : l[0] = maxL (l.take 1) := by
  cases l with
  | nil => simp at h
  | cons x r => simp [maxL]
section
variable {M : Mem} {K : AV → Hp → Mem → Prop} {u v : Value} {T : List TK}
def mxSt (M : Mem) (u : Value) (l : List Nat) (j : Nat) : St := { env := [(4, .ext (.int .i64 (j : Int))), (3, .ext (.int .i64 ((maxL (l.take j) : Nat) : Int))), (0, .ext u)], hp := [], M := M, kb := 0, fx := [] }
theorem max_ok (l : List Nat) (hu : IsL M natV u l) (h1 : 1 ≤ l.length) (hb : l.length < 1000000) (hK : K (.ext (.int .i64 ((maxL l : Nat) : Int))) [] M) : CallS Try.prog 42 [.ext u] [] M [] K := by
  refine inlS (cs := []) Try.mixed Try.func42 rfl (by kernel_rfl) 0 rfl rfl ?_
  simp only [Try.f42]
  have d0 : decide ((l.length : Int) < 1) = false := by rw [decide_eq_false_iff_not]; omega
  have f0 := hu.idx (P := Try.prog) (T := 3) tk3 tz3 (by omega) (i := 0) (by omega)
  have hm1 := maxL_one (l := l) (by omega)
  have f0 : lookM Try.prog 3 M (elemP u 1 0) = some (.int .i64 ((maxL (l.take 1) : Nat) : Int)) ∧ nilS u = false ∧ isSl u = true ∧ slen u = l.length ∧ (0 : Int) < (l.length : Int) := ⟨by rw [← hm1]; exact f0.1, f0.2.1, f0.2.2.1, f0.2.2.2.1, by omega⟩
  clear hm1
  (replace hb0 := true_and True); refine Go1.mk ?_; repeat' ((first | (with_reducible refine Go1.go ?_) | ((with_reducible first | refine brv_mk ?_ ?_ | refine gsplitD ?_ ?_ | refine gsplitG ?_ ?_) <;> intro h <;> (try simp only [Bool.not_eq_true', Bool.not_eq_false'] at h) <;> replace hb0 := h) | (refine And.intro ?_ ?_; (try simp only [sxO] at *); omega) | fail) <;> (try simp (maxSteps := 1000000) only [hb0, hu.one, f0, d0, ↓hold_pre, awayP, runOps, regK, step1, newK, genR, appR, obl, buildR, Value.cells, closeK, keepH, outV, retK, ret1, retC, RetV, Option.getD, runD, stepD, afterK, undef, simprocAttr, sxB, ↓sxD, sxE, sxTab]))
  refine ⟨fun d z => ∃ j, j ≤ l.length ∧ d = l.length - j ∧ z = mxSt M u l j, ⟨l.length - 1, mxSt M u l 1, le_sub ⟨rfl, rfl, rfl, trivial⟩ trivial rfl rfl rfl (keepLt0 _), ⟨1, by omega, by omega, rfl⟩⟩, ?_⟩
  rintro d z ⟨j, hj, rfl, rfl⟩
  by_cases hlt : j < l.length
  case neg =>
    obtain rfl : j = l.length := by omega
    have d1 : decide ((l.length : Int) < (l.length : Int)) = false := by simp
    have ht : l.take l.length = l := List.take_length
    (replace hb0 := true_and True); refine Go1.mk ?_; repeat' ((first | (with_reducible refine Go1.go ?_) | ((with_reducible first | refine brv_mk ?_ ?_ | refine gsplitD ?_ ?_ | refine gsplitG ?_ ?_) <;> intro h <;> (try simp only [Bool.not_eq_true', Bool.not_eq_false'] at h) <;> replace hb0 := h) | (refine And.intro ?_ ?_; (try simp only [sxO] at *); omega) | fail) <;> (try simp (maxSteps := 1000000) only [hb0, mxSt, f0, d1, ht, ↓hold_pre, awayP, runOps, regK, step1, newK, genR, appR, obl, buildR, Value.cells, closeK, keepH, outV, retK, ret1, retC, RetV, Option.getD, runD, stepD, afterK, undef, simprocAttr, sxB, ↓sxD, sxE, sxTab]))
    exact hK
  have f1 := hu.idx (P := Try.prog) (T := 3) tk3 tz3 (by omega) hlt
  have hx := maxI (maxL (l.take j)) l[j]
  have ht : max (maxL (l.take j)) l[j] = maxL (l.take (j + 1)) := by
    rw [List.take_add_one, List.getElem?_eq_getElem hlt]
    exact (maxL_snoc _ _).symm
  rw [ht] at hx
  (replace hb0 := true_and True); refine Go1.mk ?_; repeat' ((first | (with_reducible refine Go1.go ?_) | ((with_reducible first | refine brv_mk ?_ ?_ | refine gsplitD ?_ ?_ | refine gsplitG ?_ ?_) <;> intro h <;> (try simp only [Bool.not_eq_true', Bool.not_eq_false'] at h) <;> replace hb0 := h) | (refine And.intro ?_ ?_; (try simp only [sxO] at *); omega) | fail) <;> (try simp (maxSteps := 1000000) only [hb0, mxSt, f1, natV, hx, ↓hold_pre, awayP, runOps, regK, step1, newK, genR, appR, obl, buildR, Value.cells, closeK, keepH, outV, retK, ret1, retC, RetV, Option.getD, runD, stepD, afterK, undef, simprocAttr, sxB, ↓sxD, sxE, sxTab]))
  exact ⟨l.length - (j + 1), mxSt M u l (j + 1), by omega, le_sub ⟨rfl, rfl, rfl, trivial⟩ trivial rfl rfl rfl (keepLt0 _), j + 1, by omega, rfl, rfl⟩
end
end Go.Proofs.Ytgkfmlgfmcpebaa.Sx
namespace Go.Proofs.Ytgkfmlgfmcpebaa.Sx
open Go Go.RowKit
set_option linter.unusedVariables false
set_option linter.unusedSimpArgs false
set_option maxRecDepth 100000
set_option maxHeartbeats 8000000
attribute [local congr] fin_congr finG_congr stepG_congr step1_congr runOps_congr brv_congr obl_congr condK_congr LoopK_congr seqK_congr CutK_congr vc_congr DrawK_congr regK_congr CallK_congr AskK_congr newK_congr retC_congr ret1_congr retK_congr outV_congr closeK_congr genR_congr appR_congr finD_congr finGD_congr stepGD_congr stepD_congr CallK0_congr runD_congr okR_congr CallS_congr vcX_congr
attribute [local congr] Stop_congr
section
variable {M : Mem} {K : AV → Hp → Mem → Prop} {u v : Value} {T : List TK}
theorem maxO_ok {Ty : TypeId} {m : Nat} {E : List Nat} (hE : E.length = m) (hm1 : 1 ≤ m) (hm8 : m ≤ 8) (hK : K (.ext (.int .i64 ((maxL E : Nat) : Int))) [(7, Ty, end8 m E)] M) : CallS Try.prog 42 [.slo 7 0 m 1] [(7, Ty, end8 m E)] M [] K := by
  refine CallS.bor ⟨⟨_, rfl⟩, trivial⟩ fun us M' hM hb => ?_
  obtain ⟨x, _, rfl, h1, rfl⟩ := hb
  have h2 := h1.part (L := E ++ List.replicate (8 - m) 0) (g := natV) (T := Ty) (by simp [lkH, end8]) (by rw [List.length_append]; omega)
  rw [List.drop_zero, List.take_left' hE] at h2
  exact max_ok E h2 (by omega) (by omega) (BorK.same hK)
theorem contN (l : List Nat) (x : Nat) : (l.map fun (x : Nat) => (x : Int)).contains (x : Int) = l.contains x := by
  rw [Bool.eq_iff_iff]
  simp only [List.contains_iff_mem, List.mem_map]
  constructor
  · rintro ⟨y, h1, h2⟩
    have : y = x := by omega
    exact this ▸ h1
  · exact fun h => ⟨x, h, rfl⟩
theorem contO_ok {Ty : TypeId} {m r x : Nat} {E : List Nat} (hE : E.length = m) (hr : r ≤ m) (hm8 : m ≤ 8) (hK : K (.ext (.bool ((E.take r).contains x))) [(7, Ty, end8 m E)] M) : CallS Try.prog 43 [.slo 7 0 r 1, .ext (.int .i64 (x : Int))] [(7, Ty, end8 m E)] M [] K := by
  refine CallS.bor ⟨⟨_, rfl⟩, trivial⟩ fun us M' hM hb => ?_
  obtain ⟨y, _, rfl, h1, z, _, rfl, hz, rfl⟩ := hb
  have hz : z = .int .i64 (x : Int) := hz
  subst hz
  have h2 := h1.part (L := E ++ List.replicate (8 - m) 0) (g := natV) (T := Ty) (by simp [lkH, end8]) (by rw [List.length_append]; omega)
  rw [List.drop_zero, List.take_append_of_le_length (by omega)] at h2
  refine contains_ok y _ _ h2.nat (by rw [List.length_map, List.length_take]; omega) (BorK.same ?_)
  rw [contN]; exact hK
def plH (u v : Value) (m least : Nat) (E : List Nat) (b : Nat) : Hp := [(7, 61, end8 m E), (11, 64, [.fn 41 [.own 7 0, .own 3 0, .own 10 0, .own 9 0, .own 8 0, .own 2 0, .own 11 0]]), (10, 3, [.ext (.int .i64 (b : Int))]), (9, 3, [.ext (.int .i64 (least : Int))]), (8, 22, [.ext v]), (3, 3, [.ext (.int .i64 (m : Int))]), (2, 23, [.ext u])]
def plSt (M : Mem) (u v : Value) (m least k : Nat) (E : List Nat) (b r : Nat) : St := { env := [(28, .ext (.int .i64 (r : Int))), (27, .ext (.int .i64 (m : Int))), (0, .ext (.int .i64 (k : Int))), (1, .own 7 0), (2, .own 3 0), (3, .own 10 0), (4, .own 9 0), (5, .own 8 0), (6, .own 2 0), (7, .own 11 0)], hp := plH u v m least E b, M := M, kb := 100, fx := [7, 11, 10, 9, 8, 3, 2] }
theorem place_ok (hu : IsR M 4 TK.c u T) (hc : chkTL T = true) {m least : Nat} (hm1 : 1 ≤ m) (hm8 : m ≤ 8) {Z : List Nat} (hv : IsL M natV v Z) (hZ : ∀ x ∈ Z, x < T.length) (hZl : Z.length = T.length) : ∀ (q k : Nat) (E : List Nat) (b : Nat) (K : AV → Hp → Mem → Prop), k + q = Z.length → E.length = m → (∀ x ∈ E, x ≤ k * 1048576) → K (.ext (.tuple #[])) (plH u v m least E (plc (cosN T) m least (Z.drop k) E b)) M →
    CallS Try.prog 41 [.ext (.int .i64 (k : Int)), .own 7 0, .own 3 0, .own 10 0, .own 9 0, .own 8 0, .own 2 0, .own 11 0] (plH u v m least E b) M [] K := by
  obtain ⟨hT64, hTc⟩ := chkTL_parts hc
  intro q
  induction q with
  | zero =>
    intro k E b K hq hE hEb hK
    obtain rfl : k = Z.length := by omega
    rw [List.drop_length] at hK
    simp only [plc] at hK
    refine inlS (cs := []) Try.mixed Try.func41 rfl (by kernel_rfl) 100 rfl rfl ?_
    simp only [Try.f41]
    have l8 := end8_len hE hm8
    have b1 : (0 : Int) ≤ (m : Int) := by omega
    have b2 : (m : Int) ≤ 8 := by omega
    have d0 : decide ((Z.length : Int) = (Z.length : Int)) = true := by simp
    by_cases h1 : b ≤ maxL E
    · have d1 : decide ((b : Int) ≤ ((maxL E : Nat) : Int)) = true := by rw [decide_eq_true_eq]; omega
      rw [if_pos (.inl h1)] at hK
      (replace hb0 := true_and True); refine Go1.mk ?_; repeat' ((first | (with_reducible refine Go1.go ?_) | ((with_reducible first | refine brv_mk ?_ ?_ | refine gsplitD ?_ ?_ | refine gsplitG ?_ ?_) <;> intro h <;> (try simp only [Bool.not_eq_true', Bool.not_eq_false'] at h) <;> replace hb0 := h) | ((with_reducible refine isCall (f := 42) ?_); refine callA ?_) | ((with_reducible refine isCallS (f := 42) ?_); refine (maxO_ok hE hm1 hm8 (Stop.mk ?_))) | (refine And.intro ?_ ?_; (try simp only [sxO] at *); omega) | fail) <;> (try simp (maxSteps := 1000000) only [hb0, plH, l8, b1, b2, Int.toNat_natCast, Int.toNat_zero, Nat.sub_zero, Nat.mul_one, Nat.zero_add, Nat.zero_mul, end8_ment, end8_kill, hasK_nil, hv.one, hv.len, hv.sl, d1, ↓hold_pre, awayP, runOps, regK, step1, newK, genR, appR, obl, buildR, Value.cells, closeK, keepH, outV, retK, ret1, retC, RetV, Option.getD, runD, stepD, afterK, undef, simprocAttr, sxB, ↓sxD, sxE, sxTab]))
      refine Stop.go ?_
      (replace hb0 := true_and True); refine Go1.mk ?_; repeat' ((first | (with_reducible refine Go1.go ?_) | ((with_reducible first | refine brv_mk ?_ ?_ | refine gsplitD ?_ ?_ | refine gsplitG ?_ ?_) <;> intro h <;> (try simp only [Bool.not_eq_true', Bool.not_eq_false'] at h) <;> replace hb0 := h) | (refine And.intro ?_ ?_; (try simp only [sxO] at *); omega) | fail) <;> (try simp (maxSteps := 1000000) only [hb0, plH, l8, b1, b2, Int.toNat_natCast, Int.toNat_zero, Nat.sub_zero, Nat.mul_one, Nat.zero_add, Nat.zero_mul, end8_ment, end8_kill, hasK_nil, hv.one, hv.len, hv.sl, d1, ↓hold_pre, awayP, runOps, regK, step1, newK, genR, appR, obl, buildR, Value.cells, closeK, keepH, outV, retK, ret1, retC, RetV, Option.getD, runD, stepD, afterK, undef, simprocAttr, sxB, ↓sxD, sxE, sxTab]))
      exact hK
    have d1 : decide ((b : Int) ≤ ((maxL E : Nat) : Int)) = false := by rw [decide_eq_false_iff_not]; omega
    by_cases h2 : b = least
    · have d2 : decide ((b : Int) = (least : Int)) = true := by rw [decide_eq_true_eq]; omega
      rw [if_pos (.inr h2)] at hK
      (replace hb0 := true_and True); refine Go1.mk ?_; repeat' ((first | (with_reducible refine Go1.go ?_) | ((with_reducible first | refine brv_mk ?_ ?_ | refine gsplitD ?_ ?_ | refine gsplitG ?_ ?_) <;> intro h <;> (try simp only [Bool.not_eq_true', Bool.not_eq_false'] at h) <;> replace hb0 := h) | ((with_reducible refine isCall (f := 42) ?_); refine callA ?_) | ((with_reducible refine isCallS (f := 42) ?_); refine (maxO_ok hE hm1 hm8 (Stop.mk ?_))) | (refine And.intro ?_ ?_; (try simp only [sxO] at *); omega) | fail) <;> (try simp (maxSteps := 1000000) only [hb0, plH, l8, b1, b2, Int.toNat_natCast, Int.toNat_zero, Nat.sub_zero, Nat.mul_one, Nat.zero_add, Nat.zero_mul, end8_ment, end8_kill, hasK_nil, hv.one, hv.len, hv.sl, d1, d2, ↓hold_pre, awayP, runOps, regK, step1, newK, genR, appR, obl, buildR, Value.cells, closeK, keepH, outV, retK, ret1, retC, RetV, Option.getD, runD, stepD, afterK, undef, simprocAttr, sxB, ↓sxD, sxE, sxTab]))
      refine Stop.go ?_
      (replace hb0 := true_and True); refine Go1.mk ?_; repeat' ((first | (with_reducible refine Go1.go ?_) | ((with_reducible first | refine brv_mk ?_ ?_ | refine gsplitD ?_ ?_ | refine gsplitG ?_ ?_) <;> intro h <;> (try simp only [Bool.not_eq_true', Bool.not_eq_false'] at h) <;> replace hb0 := h) | (refine And.intro ?_ ?_; (try simp only [sxO] at *); omega) | fail) <;> (try simp (maxSteps := 1000000) only [hb0, plH, l8, b1, b2, Int.toNat_natCast, Int.toNat_zero, Nat.sub_zero, Nat.mul_one, Nat.zero_add, Nat.zero_mul, end8_ment, end8_kill, hasK_nil, hv.one, hv.len, hv.sl, d1, d2, ↓hold_pre, awayP, runOps, regK, step1, newK, genR, appR, obl, buildR, Value.cells, closeK, keepH, outV, retK, ret1, retC, RetV, Option.getD, runD, stepD, afterK, undef, simprocAttr, sxB, ↓sxD, sxE, sxTab]))
      exact hK
    have d2 : decide ((b : Int) = (least : Int)) = false := by rw [decide_eq_false_iff_not]; omega
    rw [if_neg (by rintro (h | h); exact h1 h; exact h2 h)] at hK
    (replace hb0 := true_and True); refine Go1.mk ?_; repeat' ((first | (with_reducible refine Go1.go ?_) | ((with_reducible first | refine brv_mk ?_ ?_ | refine gsplitD ?_ ?_ | refine gsplitG ?_ ?_) <;> intro h <;> (try simp only [Bool.not_eq_true', Bool.not_eq_false'] at h) <;> replace hb0 := h) | ((with_reducible refine isCall (f := 42) ?_); refine callA ?_) | ((with_reducible refine isCallS (f := 42) ?_); refine (maxO_ok hE hm1 hm8 (Stop.mk ?_))) | (refine And.intro ?_ ?_; (try simp only [sxO] at *); omega) | fail) <;> (try simp (maxSteps := 1000000) only [hb0, plH, l8, b1, b2, Int.toNat_natCast, Int.toNat_zero, Nat.sub_zero, Nat.mul_one, Nat.zero_add, Nat.zero_mul, end8_ment, end8_kill, hasK_nil, hv.one, hv.len, hv.sl, d1, d2, ↓hold_pre, awayP, runOps, regK, step1, newK, genR, appR, obl, buildR, Value.cells, closeK, keepH, outV, retK, ret1, retC, RetV, Option.getD, runD, stepD, afterK, undef, simprocAttr, sxB, ↓sxD, sxE, sxTab]))
    refine Stop.go ?_
    (replace hb0 := true_and True); refine Go1.mk ?_; repeat' ((first | (with_reducible refine Go1.go ?_) | ((with_reducible first | refine brv_mk ?_ ?_ | refine gsplitD ?_ ?_ | refine gsplitG ?_ ?_) <;> intro h <;> (try simp only [Bool.not_eq_true', Bool.not_eq_false'] at h) <;> replace hb0 := h) | (refine And.intro ?_ ?_; (try simp only [sxO] at *); omega) | fail) <;> (try simp (maxSteps := 1000000) only [hb0, plH, l8, b1, b2, Int.toNat_natCast, Int.toNat_zero, Nat.sub_zero, Nat.mul_one, Nat.zero_add, Nat.zero_mul, end8_ment, end8_kill, hasK_nil, hv.one, hv.len, hv.sl, d0, d1, d2, ↓hold_pre, awayP, runOps, regK, step1, newK, genR, appR, obl, buildR, Value.cells, closeK, keepH, outV, retK, ret1, retC, RetV, Option.getD, runD, stepD, afterK, undef, simprocAttr, sxB, ↓sxD, sxE, sxTab]))
    exact hK
  | succ q ih =>
    intro k E b K hq hE hEb hK
    have hkl : k < Z.length := by omega
    have hdr : Z.drop k = Z[k] :: Z.drop (k + 1) := (List.getElem_cons_drop hkl).symm
    have hvk := hv.at (P := Try.prog) (T := 3) tk3 tz3 hkl
    have hi := hZ _ (List.getElem_mem hkl)
    have vnn := hv.nn hkl
    rw [hdr, plc_cons] at hK
    clear hdr
    generalize Z[k] = i at *
    have hvk : lookM Try.prog 3 M (elemP v 1 k) = some (.int .i64 (i : Int)) := hvk
    refine inlS (cs := []) Try.mixed Try.func41 rfl (by kernel_rfl) 100 rfl rfl ?_
    simp only [Try.f41]
    have l8 := end8_len hE hm8
    have b1 : (0 : Int) ≤ (m : Int) := by omega
    have b2 : (m : Int) ≤ 8 := by omega
    have d0 : decide ((k : Int) = (Z.length : Int)) = false := by rw [decide_eq_false_iff_not]; omega
    by_cases h1 : b ≤ maxL E
    · have d1 : decide ((b : Int) ≤ ((maxL E : Nat) : Int)) = true := by rw [decide_eq_true_eq]; omega
      rw [if_pos (.inl h1)] at hK
      (replace hb0 := true_and True); refine Go1.mk ?_; repeat' ((first | (with_reducible refine Go1.go ?_) | ((with_reducible first | refine brv_mk ?_ ?_ | refine gsplitD ?_ ?_ | refine gsplitG ?_ ?_) <;> intro h <;> (try simp only [Bool.not_eq_true', Bool.not_eq_false'] at h) <;> replace hb0 := h) | ((with_reducible refine isCall (f := 42) ?_); refine callA ?_) | ((with_reducible refine isCallS (f := 42) ?_); refine (maxO_ok hE hm1 hm8 (Stop.mk ?_))) | (refine And.intro ?_ ?_; (try simp only [sxO] at *); omega) | fail) <;> (try simp (maxSteps := 1000000) only [hb0, plH, l8, b1, b2, Int.toNat_natCast, Int.toNat_zero, Nat.sub_zero, Nat.mul_one, Nat.zero_add, Nat.zero_mul, end8_ment, end8_kill, hasK_nil, hv.one, hv.len, hv.sl, d1, ↓hold_pre, awayP, runOps, regK, step1, newK, genR, appR, obl, buildR, Value.cells, closeK, keepH, outV, retK, ret1, retC, RetV, Option.getD, runD, stepD, afterK, undef, simprocAttr, sxB, ↓sxD, sxE, sxTab]))
      refine Stop.go ?_
      (replace hb0 := true_and True); refine Go1.mk ?_; repeat' ((first | (with_reducible refine Go1.go ?_) | ((with_reducible first | refine brv_mk ?_ ?_ | refine gsplitD ?_ ?_ | refine gsplitG ?_ ?_) <;> intro h <;> (try simp only [Bool.not_eq_true', Bool.not_eq_false'] at h) <;> replace hb0 := h) | (refine And.intro ?_ ?_; (try simp only [sxO] at *); omega) | fail) <;> (try simp (maxSteps := 1000000) only [hb0, plH, l8, b1, b2, Int.toNat_natCast, Int.toNat_zero, Nat.sub_zero, Nat.mul_one, Nat.zero_add, Nat.zero_mul, end8_ment, end8_kill, hasK_nil, hv.one, hv.len, hv.sl, d1, ↓hold_pre, awayP, runOps, regK, step1, newK, genR, appR, obl, buildR, Value.cells, closeK, keepH, outV, retK, ret1, retC, RetV, Option.getD, runD, stepD, afterK, undef, simprocAttr, sxB, ↓sxD, sxE, sxTab]))
      exact hK
    have d1 : decide ((b : Int) ≤ ((maxL E : Nat) : Int)) = false := by rw [decide_eq_false_iff_not]; omega
    by_cases h2 : b = least
    · have d2 : decide ((b : Int) = (least : Int)) = true := by rw [decide_eq_true_eq]; omega
      rw [if_pos (.inr h2)] at hK
      (replace hb0 := true_and True); refine Go1.mk ?_; repeat' ((first | (with_reducible refine Go1.go ?_) | ((with_reducible first | refine brv_mk ?_ ?_ | refine gsplitD ?_ ?_ | refine gsplitG ?_ ?_) <;> intro h <;> (try simp only [Bool.not_eq_true', Bool.not_eq_false'] at h) <;> replace hb0 := h) | ((with_reducible refine isCall (f := 42) ?_); refine callA ?_) | ((with_reducible refine isCallS (f := 42) ?_); refine (maxO_ok hE hm1 hm8 (Stop.mk ?_))) | (refine And.intro ?_ ?_; (try simp only [sxO] at *); omega) | fail) <;> (try simp (maxSteps := 1000000) only [hb0, plH, l8, b1, b2, Int.toNat_natCast, Int.toNat_zero, Nat.sub_zero, Nat.mul_one, Nat.zero_add, Nat.zero_mul, end8_ment, end8_kill, hasK_nil, hv.one, hv.len, hv.sl, d1, d2, ↓hold_pre, awayP, runOps, regK, step1, newK, genR, appR, obl, buildR, Value.cells, closeK, keepH, outV, retK, ret1, retC, RetV, Option.getD, runD, stepD, afterK, undef, simprocAttr, sxB, ↓sxD, sxE, sxTab]))
      refine Stop.go ?_
      (replace hb0 := true_and True); refine Go1.mk ?_; repeat' ((first | (with_reducible refine Go1.go ?_) | ((with_reducible first | refine brv_mk ?_ ?_ | refine gsplitD ?_ ?_ | refine gsplitG ?_ ?_) <;> intro h <;> (try simp only [Bool.not_eq_true', Bool.not_eq_false'] at h) <;> replace hb0 := h) | (refine And.intro ?_ ?_; (try simp only [sxO] at *); omega) | fail) <;> (try simp (maxSteps := 1000000) only [hb0, plH, l8, b1, b2, Int.toNat_natCast, Int.toNat_zero, Nat.sub_zero, Nat.mul_one, Nat.zero_add, Nat.zero_mul, end8_ment, end8_kill, hasK_nil, hv.one, hv.len, hv.sl, d1, d2, ↓hold_pre, awayP, runOps, regK, step1, newK, genR, appR, obl, buildR, Value.cells, closeK, keepH, outV, retK, ret1, retC, RetV, Option.getD, runD, stepD, afterK, undef, simprocAttr, sxB, ↓sxD, sxE, sxTab]))
      exact hK
    have d2 : decide ((b : Int) = (least : Int)) = false := by rw [decide_eq_false_iff_not]; omega
    rw [if_neg (by rintro (h | h); exact h1 h; exact h2 h)] at hK
    (replace hb0 := true_and True); refine Go1.mk ?_; repeat' ((first | (with_reducible refine Go1.go ?_) | ((with_reducible first | refine brv_mk ?_ ?_ | refine gsplitD ?_ ?_ | refine gsplitG ?_ ?_) <;> intro h <;> (try simp only [Bool.not_eq_true', Bool.not_eq_false'] at h) <;> replace hb0 := h) | ((with_reducible refine isCall (f := 42) ?_); refine callA ?_) | ((with_reducible refine isCallS (f := 42) ?_); refine (maxO_ok hE hm1 hm8 (Stop.mk ?_))) | (refine And.intro ?_ ?_; (try simp only [sxO] at *); omega) | fail) <;> (try simp (maxSteps := 1000000) only [hb0, plH, l8, b1, b2, Int.toNat_natCast, Int.toNat_zero, Nat.sub_zero, Nat.mul_one, Nat.zero_add, Nat.zero_mul, end8_ment, end8_kill, hasK_nil, hv.one, hv.len, hv.sl, d1, d2, ↓hold_pre, awayP, runOps, regK, step1, newK, genR, appR, obl, buildR, Value.cells, closeK, keepH, outV, retK, ret1, retC, RetV, Option.getD, runD, stepD, afterK, undef, simprocAttr, sxB, ↓sxD, sxE, sxTab]))
    refine Stop.go ?_
    (replace hb0 := true_and True); refine Go1.mk ?_; repeat' ((first | (with_reducible refine Go1.go ?_) | ((with_reducible first | refine brv_mk ?_ ?_ | refine gsplitD ?_ ?_ | refine gsplitG ?_ ?_) <;> intro h <;> (try simp only [Bool.not_eq_true', Bool.not_eq_false'] at h) <;> replace hb0 := h) | (refine And.intro ?_ ?_; (try simp only [sxO] at *); omega) | fail) <;> (try simp (maxSteps := 1000000) only [hb0, plH, l8, b1, b2, Int.toNat_natCast, Int.toNat_zero, Nat.sub_zero, Nat.mul_one, Nat.zero_add, Nat.zero_mul, end8_ment, end8_kill, hasK_nil, hv.one, hv.len, hv.sl, d0, d1, d2, ↓hold_pre, awayP, runOps, regK, step1, newK, genR, appR, obl, buildR, Value.cells, closeK, keepH, outV, retK, ret1, retC, RetV, Option.getD, runD, stepD, afterK, undef, simprocAttr, sxB, ↓sxD, sxE, sxTab]))
    refine ⟨fun d z => ∃ r b', d = m - r ∧ r ≤ m ∧ b' = (List.range r).foldl (plcS (cosN T) m least i (Z.drop (k + 1)) E) b ∧ z = plSt M u v m least k E b' r,
      ⟨m, plSt M u v m least k E b 0, le_sub ⟨rfl, rfl, rfl, rfl, rfl, rfl, rfl, rfl, rfl, rfl, trivial⟩ ⟨rfl, rfl, rfl, rfl, rfl, rfl, rfl, trivial⟩ rfl rfl rfl (by simp [keepLt, plSt, plH, lkH]), ⟨0, b, by omega, by omega, rfl, rfl⟩⟩, ?_⟩
    clear d1 d2 h1 h2
    rintro d z ⟨r, b', rfl, hr, hb', rfl⟩
    by_cases hlt : r < m
    case neg =>
      obtain rfl : r = m := by omega
      have c1 : decide ((r : Int) < (r : Int)) = false := by simp
      rw [← hb'] at hK
      (replace hb0 := true_and True); refine Go1.mk ?_; repeat' ((first | (with_reducible refine Go1.go ?_) | ((with_reducible first | refine brv_mk ?_ ?_ | refine gsplitD ?_ ?_ | refine gsplitG ?_ ?_) <;> intro h <;> (try simp only [Bool.not_eq_true', Bool.not_eq_false'] at h) <;> replace hb0 := h) | (refine And.intro ?_ ?_; (try simp only [sxO] at *); omega) | fail) <;> (try simp (maxSteps := 1000000) only [hb0, plSt, c1, plH, l8, b1, b2, Int.toNat_natCast, Int.toNat_zero, Nat.sub_zero, Nat.mul_one, Nat.zero_add, Nat.zero_mul, end8_ment, end8_kill, hasK_nil, hv.one, hv.len, hv.sl, ↓hold_pre, awayP, runOps, regK, step1, newK, genR, appR, obl, buildR, Value.cells, closeK, keepH, outV, retK, ret1, retC, RetV, Option.getD, runD, stepD, afterK, undef, simprocAttr, sxB, ↓sxD, sxE, sxTab]))
      exact hK
    have c1 : decide ((r : Int) < (m : Int)) = true := by rw [decide_eq_true_eq]; omega
    have c2 : (0 : Int) ≤ (r : Int) := by omega
    have c3 : (r : Int) < 8 := by omega
    have c4 : (r : Int) ≤ 8 := by omega
    have wr : IntKind.i64.wrap ((r : Int) + 1) = ((r + 1 : Nat) : Int) := succ_i (by omega)
    have wk : IntKind.i64.wrap ((k : Int) + 1) = ((k + 1 : Nat) : Int) := succ_i (by omega)
    have a1 := end8_at hE hlt
    have hnb : (List.range (r + 1)).foldl (plcS (cosN T) m least i (Z.drop (k + 1)) E) b = plcS (cosN T) m least i (Z.drop (k + 1)) E b' r := by rw [List.range_succ, List.foldl_append, ← hb']; rfl
    cases hcn : (E.take r).contains (E.getD r 0) with
    | true =>
      have hnb2 : plcS (cosN T) m least i (Z.drop (k + 1)) E b' r = b' := by unfold plcS; rw [hcn]; rfl
      rw [hnb2] at hnb
      (replace hb0 := true_and True); refine Go1.mk ?_; repeat' ((first | (with_reducible refine Go1.go ?_) | ((with_reducible first | refine brv_mk ?_ ?_ | refine gsplitD ?_ ?_ | refine gsplitG ?_ ?_) <;> intro h <;> (try simp only [Bool.not_eq_true', Bool.not_eq_false'] at h) <;> replace hb0 := h) | ((with_reducible refine isCall (f := 43) ?_); refine callA ?_) | ((with_reducible refine isCall0 (f := 43) ?_); refine callA0 ?_) | ((with_reducible refine isCallS (f := 43) ?_); refine (contO_ok hE (by omega) hm8 (Stop.mk ?_))) | ((with_reducible refine isDraw [some 31, some 32, some 33, some 34, some 35, some 36] (by decide) ?_); refine draw_rule [(0, []), (1, []), (2, [1]), (3, [1]), (4, [1]), (5, [])] [[], [0], [], [2], [2, 3], [0, 1, 2, 3, 4]] [31, 32, 33, 34, 35] [] (by kernel_rfl) (by kernel_rfl) (by kernel_rfl) (by kernel_rfl) (by exact trivial) ?_) | ((with_reducible refine isDraw [some 37, some 38, some 39, some 40, some 41, some 42, some 43, some 44, some 45, some 46, some 47, some 48, some 49, none] (by decide) ?_); refine draw_rule [(0, []), (1, []), (2, []), (3, [2]), (4, [2, 3]), (5, [2, 3, 4]), (6, [2, 3]), (7, [2, 3]), (8, [2]), (9, [2]), (10, [2]), (11, []), (12, []), (13, [])] [[], [0], [0, 1], [], [], [], [4, 5], [4, 5, 6], [3, 4, 5, 6, 7], [3, 4, 5, 6, 7, 8], [3, 4, 5, 6, 7, 8, 9], [0, 1, 2, 3, 4, 5, 6, 7, 8, 9, 10], [0, 1, 2, 3, 4, 5, 6, 7, 8, 9, 10, 11], [0, 1, 2, 3, 4, 5, 6, 7, 8, 9, 10, 11, 12]] [37, 38, 39, 40, 41, 42, 43, 44, 45, 46, 47] [] (by kernel_rfl) (by kernel_rfl) (by kernel_rfl) (by kernel_rfl) (by exact trivial) ?_) | ((with_reducible refine isDraw [some 54, some 55, some 56, some 57, some 58, some 59, some 60, some 61, some 62, some 63, some 64, some 65, some 66, none] (by decide) ?_); refine draw_rule [(0, []), (1, []), (2, []), (3, [2]), (4, [2, 3]), (5, [2, 3, 4]), (6, [2, 3]), (7, [2, 3]), (8, [2]), (9, [2]), (10, [2]), (11, []), (12, []), (13, [])] [[], [0], [0, 1], [], [], [], [4, 5], [4, 5, 6], [3, 4, 5, 6, 7], [3, 4, 5, 6, 7, 8], [3, 4, 5, 6, 7, 8, 9], [0, 1, 2, 3, 4, 5, 6, 7, 8, 9, 10], [0, 1, 2, 3, 4, 5, 6, 7, 8, 9, 10, 11], [0, 1, 2, 3, 4, 5, 6, 7, 8, 9, 10, 11, 12]] [54, 55, 56, 57, 58, 59, 60, 61, 62, 63, 64] [] (by kernel_rfl) (by kernel_rfl) (by kernel_rfl) (by kernel_rfl) (by exact trivial) ?_) | (refine And.intro ?_ ?_; (try simp only [sxO] at *); omega) | fail) <;> (try simp (maxSteps := 1000000) only [hb0, plSt, c1, c2, c3, c4, a1, plH, l8, b1, b2, Int.toNat_natCast, Int.toNat_zero, Nat.sub_zero, Nat.mul_one, Nat.zero_add, Nat.zero_mul, end8_ment, end8_kill, hasK_nil, hv.one, hv.len, hv.sl, ↓hold_pre, awayP, runOps, regK, step1, newK, genR, appR, obl, buildR, Value.cells, closeK, keepH, outV, retK, ret1, retC, RetV, Option.getD, runD, stepD, afterK, undef, simprocAttr, sxB, ↓sxD, sxE, sxTab]))
      rw [hcn]
      refine Stop.go ?_
      (replace hb0 := true_and True); refine Go1.mk ?_; repeat' ((first | (with_reducible refine Go1.go ?_) | ((with_reducible first | refine brv_mk ?_ ?_ | refine gsplitD ?_ ?_ | refine gsplitG ?_ ?_) <;> intro h <;> (try simp only [Bool.not_eq_true', Bool.not_eq_false'] at h) <;> replace hb0 := h) | ((with_reducible refine isDraw [some 31, some 32, some 33, some 34, some 35, some 36] (by decide) ?_); refine draw_rule [(0, []), (1, []), (2, [1]), (3, [1]), (4, [1]), (5, [])] [[], [0], [], [2], [2, 3], [0, 1, 2, 3, 4]] [31, 32, 33, 34, 35] [] (by kernel_rfl) (by kernel_rfl) (by kernel_rfl) (by kernel_rfl) (by exact trivial) ?_) | ((with_reducible refine isDraw [some 37, some 38, some 39, some 40, some 41, some 42, some 43, some 44, some 45, some 46, some 47, some 48, some 49, none] (by decide) ?_); refine draw_rule [(0, []), (1, []), (2, []), (3, [2]), (4, [2, 3]), (5, [2, 3, 4]), (6, [2, 3]), (7, [2, 3]), (8, [2]), (9, [2]), (10, [2]), (11, []), (12, []), (13, [])] [[], [0], [0, 1], [], [], [], [4, 5], [4, 5, 6], [3, 4, 5, 6, 7], [3, 4, 5, 6, 7, 8], [3, 4, 5, 6, 7, 8, 9], [0, 1, 2, 3, 4, 5, 6, 7, 8, 9, 10], [0, 1, 2, 3, 4, 5, 6, 7, 8, 9, 10, 11], [0, 1, 2, 3, 4, 5, 6, 7, 8, 9, 10, 11, 12]] [37, 38, 39, 40, 41, 42, 43, 44, 45, 46, 47] [] (by kernel_rfl) (by kernel_rfl) (by kernel_rfl) (by kernel_rfl) (by exact trivial) ?_) | ((with_reducible refine isDraw [some 54, some 55, some 56, some 57, some 58, some 59, some 60, some 61, some 62, some 63, some 64, some 65, some 66, none] (by decide) ?_); refine draw_rule [(0, []), (1, []), (2, []), (3, [2]), (4, [2, 3]), (5, [2, 3, 4]), (6, [2, 3]), (7, [2, 3]), (8, [2]), (9, [2]), (10, [2]), (11, []), (12, []), (13, [])] [[], [0], [0, 1], [], [], [], [4, 5], [4, 5, 6], [3, 4, 5, 6, 7], [3, 4, 5, 6, 7, 8], [3, 4, 5, 6, 7, 8, 9], [0, 1, 2, 3, 4, 5, 6, 7, 8, 9, 10], [0, 1, 2, 3, 4, 5, 6, 7, 8, 9, 10, 11], [0, 1, 2, 3, 4, 5, 6, 7, 8, 9, 10, 11, 12]] [54, 55, 56, 57, 58, 59, 60, 61, 62, 63, 64] [] (by kernel_rfl) (by kernel_rfl) (by kernel_rfl) (by kernel_rfl) (by exact trivial) ?_) | (refine And.intro ?_ ?_; (try simp only [sxO] at *); omega) | fail) <;> (try simp (maxSteps := 1000000) only [hb0, wr, plH, l8, b1, b2, Int.toNat_natCast, Int.toNat_zero, Nat.sub_zero, Nat.mul_one, Nat.zero_add, Nat.zero_mul, end8_ment, end8_kill, hasK_nil, hv.one, hv.len, hv.sl, ↓hold_pre, awayP, runOps, regK, step1, newK, genR, appR, obl, buildR, Value.cells, closeK, keepH, outV, retK, ret1, retC, RetV, Option.getD, runD, stepD, afterK, undef, simprocAttr, sxB, ↓sxD, sxE, sxTab]))
      exact ⟨m - (r + 1), plSt M u v m least k E b' (r + 1), by omega, le_sub ⟨rfl, rfl, rfl, rfl, rfl, rfl, rfl, rfl, rfl, rfl, trivial⟩ ⟨rfl, rfl, rfl, rfl, rfl, rfl, rfl, trivial⟩ rfl rfl rfl (by simp [keepLt, plSt, plH, lkH]), r + 1, b', rfl, by omega, hnb.symm, rfl⟩
    | false =>
      have hnb2 : plcS (cosN T) m least i (Z.drop (k + 1)) E b' r = plc (cosN T) m least (Z.drop (k + 1)) (E.set r (E.getD r 0 + cosN T i)) b' := by unfold plcS; rw [hcn]; rfl
      rw [hnb2] at hnb
      have hEr : E.getD r 0 ≤ k * 1048576 := by
        rw [List.getD_eq_getElem?_getD, List.getElem?_eq_getElem (by omega)]
        exact hEb _ (List.getElem_mem _)
      have hci := hTc i hi
      have hcb : cosN T i ≤ 1048576 := by unfold cosN; omega
      have w1 : IntKind.i64.wrap (((E.getD r 0 : Nat) : Int) + ((cosN T i : Nat) : Int)) = ((E.getD r 0 + cosN T i : Nat) : Int) := by rw [wrap_id (by omega) (by omega)]; omega
      have w2 : IntKind.i64.wrap (((E.getD r 0 + cosN T i : Nat) : Int) - ((cosN T i : Nat) : Int)) = ((E.getD r 0 : Nat) : Int) := by rw [wrap_id (by omega) (by omega)]; omega
      have st := end8_set hE hlt (E.getD r 0 + cosN T i)
      have hE2 : (E.set r (E.getD r 0 + cosN T i)).length = m := by rw [List.length_set, hE]
      have a2 := end8_at hE2 hlt
      rw [getD_set (by omega), if_pos rfl] at a2
      have sb := end8_set hE2 hlt (E.getD r 0)
      rw [set_back (by omega)] at sb
      have l2 := end8_len hE2 hm8
      have hEb2 := setE_le hEb (b := r) (y := E.getD r 0 + cosN T i) (Nat.le_trans (Nat.add_le_add hEr hcb) (by rw [Nat.succ_mul]; exact Nat.le_refl _))
      have unn := hu.nn hi
      have upt := hu.pt hi
      have uat := hu.atF (P := Try.prog) (T := 3) (fun _ => rfl) tk3 tz3 hi (o := 3) (v := .int .i64 T[i].cost) rfl
      rw [cosN_cost hi hci.1] at uat
      have i1 : (0 : Int) ≤ (i : Int) := by omega
      have i2 : (i : Int) < (T.length : Int) := by omega
      have k1 : (0 : Int) ≤ (k : Int) := by omega
      have k2 : (k : Int) < (Z.length : Int) := by omega
      have ih2 := fun K hK => ih (k + 1) (E.set r (E.getD r 0 + cosN T i)) b' K (by omega) hE2 hEb2 hK
      clear ih
      generalize plc (cosN T) m least (Z.drop (k + 1)) (E.set r (E.getD r 0 + cosN T i)) b' = nb at *
      (replace hb0 := true_and True); refine Go1.mk ?_; repeat' ((first | (with_reducible refine Go1.go ?_) | ((with_reducible first | refine brv_mk ?_ ?_ | refine gsplitD ?_ ?_ | refine gsplitG ?_ ?_) <;> intro h <;> (try simp only [Bool.not_eq_true', Bool.not_eq_false'] at h) <;> replace hb0 := h) | ((with_reducible refine isCall (f := 43) ?_); refine callA ?_) | ((with_reducible refine isCall0 (f := 43) ?_); refine callA0 ?_) | ((with_reducible refine isCallS (f := 43) ?_); refine (contO_ok hE (by omega) hm8 (Stop.mk ?_))) | ((with_reducible refine isDraw [some 31, some 32, some 33, some 34, some 35, some 36] (by decide) ?_); refine draw_rule [(0, []), (1, []), (2, [1]), (3, [1]), (4, [1]), (5, [])] [[], [0], [], [2], [2, 3], [0, 1, 2, 3, 4]] [31, 32, 33, 34, 35] [] (by kernel_rfl) (by kernel_rfl) (by kernel_rfl) (by kernel_rfl) (by exact trivial) ?_) | ((with_reducible refine isDraw [some 37, some 38, some 39, some 40, some 41, some 42, some 43, some 44, some 45, some 46, some 47, some 48, some 49, none] (by decide) ?_); refine draw_rule [(0, []), (1, []), (2, []), (3, [2]), (4, [2, 3]), (5, [2, 3, 4]), (6, [2, 3]), (7, [2, 3]), (8, [2]), (9, [2]), (10, [2]), (11, []), (12, []), (13, [])] [[], [0], [0, 1], [], [], [], [4, 5], [4, 5, 6], [3, 4, 5, 6, 7], [3, 4, 5, 6, 7, 8], [3, 4, 5, 6, 7, 8, 9], [0, 1, 2, 3, 4, 5, 6, 7, 8, 9, 10], [0, 1, 2, 3, 4, 5, 6, 7, 8, 9, 10, 11], [0, 1, 2, 3, 4, 5, 6, 7, 8, 9, 10, 11, 12]] [37, 38, 39, 40, 41, 42, 43, 44, 45, 46, 47] [] (by kernel_rfl) (by kernel_rfl) (by kernel_rfl) (by kernel_rfl) (by exact trivial) ?_) | ((with_reducible refine isDraw [some 54, some 55, some 56, some 57, some 58, some 59, some 60, some 61, some 62, some 63, some 64, some 65, some 66, none] (by decide) ?_); refine draw_rule [(0, []), (1, []), (2, []), (3, [2]), (4, [2, 3]), (5, [2, 3, 4]), (6, [2, 3]), (7, [2, 3]), (8, [2]), (9, [2]), (10, [2]), (11, []), (12, []), (13, [])] [[], [0], [0, 1], [], [], [], [4, 5], [4, 5, 6], [3, 4, 5, 6, 7], [3, 4, 5, 6, 7, 8], [3, 4, 5, 6, 7, 8, 9], [0, 1, 2, 3, 4, 5, 6, 7, 8, 9, 10], [0, 1, 2, 3, 4, 5, 6, 7, 8, 9, 10, 11], [0, 1, 2, 3, 4, 5, 6, 7, 8, 9, 10, 11, 12]] [54, 55, 56, 57, 58, 59, 60, 61, 62, 63, 64] [] (by kernel_rfl) (by kernel_rfl) (by kernel_rfl) (by kernel_rfl) (by exact trivial) ?_) | (refine And.intro ?_ ?_; (try simp only [sxO] at *); omega) | fail) <;> (try simp (maxSteps := 1000000) only [hb0, plSt, c1, c2, c3, c4, a1, plH, l8, b1, b2, Int.toNat_natCast, Int.toNat_zero, Nat.sub_zero, Nat.mul_one, Nat.zero_add, Nat.zero_mul, end8_ment, end8_kill, hasK_nil, hv.one, hv.len, hv.sl, ↓hold_pre, awayP, runOps, regK, step1, newK, genR, appR, obl, buildR, Value.cells, closeK, keepH, outV, retK, ret1, retC, RetV, Option.getD, runD, stepD, afterK, undef, simprocAttr, sxB, ↓sxD, sxE, sxTab]))
      rw [hcn]
      refine Stop.go ?_
      (replace hb0 := true_and True); refine Go1.mk ?_; repeat' ((first | (with_reducible refine Go1.go ?_) | ((with_reducible first | refine brv_mk ?_ ?_ | refine gsplitD ?_ ?_ | refine gsplitG ?_ ?_) <;> intro h <;> (try simp only [Bool.not_eq_true', Bool.not_eq_false'] at h) <;> replace hb0 := h) | ((with_reducible refine isCall (f := 41) ?_); refine callA ?_) | ((with_reducible refine isCallS (f := 41) ?_); refine (ih2 _ (Stop.mk ?_))) | ((with_reducible refine isDraw [some 31, some 32, some 33, some 34, some 35, some 36] (by decide) ?_); refine draw_rule [(0, []), (1, []), (2, [1]), (3, [1]), (4, [1]), (5, [])] [[], [0], [], [2], [2, 3], [0, 1, 2, 3, 4]] [31, 32, 33, 34, 35] [] (by kernel_rfl) (by kernel_rfl) (by kernel_rfl) (by kernel_rfl) (by exact trivial) ?_) | ((with_reducible refine isDraw [some 37, some 38, some 39, some 40, some 41, some 42, some 43, some 44, some 45, some 46, some 47, some 48, some 49, none] (by decide) ?_); refine draw_rule [(0, []), (1, []), (2, []), (3, [2]), (4, [2, 3]), (5, [2, 3, 4]), (6, [2, 3]), (7, [2, 3]), (8, [2]), (9, [2]), (10, [2]), (11, []), (12, []), (13, [])] [[], [0], [0, 1], [], [], [], [4, 5], [4, 5, 6], [3, 4, 5, 6, 7], [3, 4, 5, 6, 7, 8], [3, 4, 5, 6, 7, 8, 9], [0, 1, 2, 3, 4, 5, 6, 7, 8, 9, 10], [0, 1, 2, 3, 4, 5, 6, 7, 8, 9, 10, 11], [0, 1, 2, 3, 4, 5, 6, 7, 8, 9, 10, 11, 12]] [37, 38, 39, 40, 41, 42, 43, 44, 45, 46, 47] [] (by kernel_rfl) (by kernel_rfl) (by kernel_rfl) (by kernel_rfl) (by exact trivial) ?_) | ((with_reducible refine isDraw [some 54, some 55, some 56, some 57, some 58, some 59, some 60, some 61, some 62, some 63, some 64, some 65, some 66, none] (by decide) ?_); refine draw_rule [(0, []), (1, []), (2, []), (3, [2]), (4, [2, 3]), (5, [2, 3, 4]), (6, [2, 3]), (7, [2, 3]), (8, [2]), (9, [2]), (10, [2]), (11, []), (12, []), (13, [])] [[], [0], [0, 1], [], [], [], [4, 5], [4, 5, 6], [3, 4, 5, 6, 7], [3, 4, 5, 6, 7, 8], [3, 4, 5, 6, 7, 8, 9], [0, 1, 2, 3, 4, 5, 6, 7, 8, 9, 10], [0, 1, 2, 3, 4, 5, 6, 7, 8, 9, 10, 11], [0, 1, 2, 3, 4, 5, 6, 7, 8, 9, 10, 11, 12]] [54, 55, 56, 57, 58, 59, 60, 61, 62, 63, 64] [] (by kernel_rfl) (by kernel_rfl) (by kernel_rfl) (by kernel_rfl) (by exact trivial) ?_) | (refine And.intro ?_ ?_; (try simp only [sxO] at *); omega) | fail) <;> (try simp (maxSteps := 1000000) only [hb0, c2, c3, i1, i2, k1, k2, a1, st, w1, wk, hvk, vnn, unn, upt, uat, hu.one, hu.len, hu.sl, plH, l8, b1, b2, Int.toNat_natCast, Int.toNat_zero, Nat.sub_zero, Nat.mul_one, Nat.zero_add, Nat.zero_mul, end8_ment, end8_kill, hasK_nil, hv.one, hv.len, hv.sl, ↓hold_pre, awayP, runOps, regK, step1, newK, genR, appR, obl, buildR, Value.cells, closeK, keepH, outV, retK, ret1, retC, RetV, Option.getD, runD, stepD, afterK, undef, simprocAttr, sxB, ↓sxD, sxE, sxTab]))
      refine Stop.go ?_
      (replace hb0 := true_and True); refine Go1.mk ?_; repeat' ((first | (with_reducible refine Go1.go ?_) | ((with_reducible first | refine brv_mk ?_ ?_ | refine gsplitD ?_ ?_ | refine gsplitG ?_ ?_) <;> intro h <;> (try simp only [Bool.not_eq_true', Bool.not_eq_false'] at h) <;> replace hb0 := h) | ((with_reducible refine isDraw [some 31, some 32, some 33, some 34, some 35, some 36] (by decide) ?_); refine draw_rule [(0, []), (1, []), (2, [1]), (3, [1]), (4, [1]), (5, [])] [[], [0], [], [2], [2, 3], [0, 1, 2, 3, 4]] [31, 32, 33, 34, 35] [] (by kernel_rfl) (by kernel_rfl) (by kernel_rfl) (by kernel_rfl) (by exact trivial) ?_) | ((with_reducible refine isDraw [some 37, some 38, some 39, some 40, some 41, some 42, some 43, some 44, some 45, some 46, some 47, some 48, some 49, none] (by decide) ?_); refine draw_rule [(0, []), (1, []), (2, []), (3, [2]), (4, [2, 3]), (5, [2, 3, 4]), (6, [2, 3]), (7, [2, 3]), (8, [2]), (9, [2]), (10, [2]), (11, []), (12, []), (13, [])] [[], [0], [0, 1], [], [], [], [4, 5], [4, 5, 6], [3, 4, 5, 6, 7], [3, 4, 5, 6, 7, 8], [3, 4, 5, 6, 7, 8, 9], [0, 1, 2, 3, 4, 5, 6, 7, 8, 9, 10], [0, 1, 2, 3, 4, 5, 6, 7, 8, 9, 10, 11], [0, 1, 2, 3, 4, 5, 6, 7, 8, 9, 10, 11, 12]] [37, 38, 39, 40, 41, 42, 43, 44, 45, 46, 47] [] (by kernel_rfl) (by kernel_rfl) (by kernel_rfl) (by kernel_rfl) (by exact trivial) ?_) | ((with_reducible refine isDraw [some 54, some 55, some 56, some 57, some 58, some 59, some 60, some 61, some 62, some 63, some 64, some 65, some 66, none] (by decide) ?_); refine draw_rule [(0, []), (1, []), (2, []), (3, [2]), (4, [2, 3]), (5, [2, 3, 4]), (6, [2, 3]), (7, [2, 3]), (8, [2]), (9, [2]), (10, [2]), (11, []), (12, []), (13, [])] [[], [0], [0, 1], [], [], [], [4, 5], [4, 5, 6], [3, 4, 5, 6, 7], [3, 4, 5, 6, 7, 8], [3, 4, 5, 6, 7, 8, 9], [0, 1, 2, 3, 4, 5, 6, 7, 8, 9, 10], [0, 1, 2, 3, 4, 5, 6, 7, 8, 9, 10, 11], [0, 1, 2, 3, 4, 5, 6, 7, 8, 9, 10, 11, 12]] [54, 55, 56, 57, 58, 59, 60, 61, 62, 63, 64] [] (by kernel_rfl) (by kernel_rfl) (by kernel_rfl) (by kernel_rfl) (by exact trivial) ?_) | (refine And.intro ?_ ?_; (try simp only [sxO] at *); omega) | fail) <;> (try simp (maxSteps := 1000000) only [hb0, c2, c3, i1, i2, k1, k2, a2, sb, l2, w2, wr, hvk, vnn, unn, upt, uat, hu.one, hu.len, hu.sl, plH, l8, b1, b2, Int.toNat_natCast, Int.toNat_zero, Nat.sub_zero, Nat.mul_one, Nat.zero_add, Nat.zero_mul, end8_ment, end8_kill, hasK_nil, hv.one, hv.len, hv.sl, ↓hold_pre, awayP, runOps, regK, step1, newK, genR, appR, obl, buildR, Value.cells, closeK, keepH, outV, retK, ret1, retC, RetV, Option.getD, runD, stepD, afterK, undef, simprocAttr, sxB, ↓sxD, sxE, sxTab]))
      exact ⟨m - (r + 1), plSt M u v m least k E nb (r + 1), by omega, le_sub ⟨rfl, rfl, rfl, rfl, rfl, rfl, rfl, rfl, rfl, rfl, trivial⟩ ⟨rfl, rfl, rfl, rfl, rfl, rfl, rfl, trivial⟩ rfl rfl rfl (by simp [keepLt, plSt, plH, lkH]), r + 1, nb, rfl, by omega, hnb.symm, rfl⟩
end
end Go.Proofs.Ytgkfmlgfmcpebaa.Sx
namespace Go.Proofs.Ytgkfmlgfmcpebaa.Sx
open Go Go.RowKit
set_option linter.unusedVariables false
set_option linter.unusedSimpArgs false
set_option maxRecDepth 100000
set_option maxHeartbeats 8000000
attribute [local congr] fin_congr finG_congr stepG_congr step1_congr runOps_congr brv_congr obl_congr condK_congr LoopK_congr seqK_congr CutK_congr vc_congr DrawK_congr regK_congr CallK_congr AskK_congr newK_congr retC_congr ret1_congr retK_congr outV_congr closeK_congr genR_congr appR_congr finD_congr finGD_congr stepGD_congr stepD_congr CallK0_congr runD_congr okR_congr CallS_congr vcX_congr
attribute [local congr] Stop_congr
theorem CallS.eqv {P : Program} {f : FuncId} {args : List AV} {H H2 : Hp} {M : Mem} {mv : List Nat} {K : AV → Hp → Mem → Prop} (he : ∀ k, lkH H k = lkH H2 k) (h : CallS P f args H2 M mv K) : CallS P f args H M mv K := fun ρ w us hh ha => by
  refine (h ρ w us ⟨fun k T cs b hk hb => hh.hp k T cs b (by rw [he]; exact hk) hb, fun k T cs hk hb => hh.no k T cs (by rw [he]; exact hk) hb, fun k k' b b' hk hk' => hh.inj k k' b b' (by rw [he]; exact hk) (by rw [he]; exact hk'), hh.sub⟩ ha).mono fun e w' hall => ?_
  obtain ⟨x, v, H', M', ρ', e1, hK, hl⟩ := hall
  exact ⟨x, v, H', M', ρ', e1, hK, { is := hl.is, heap := hl.heap, keep := fun k hk => hl.keep k (by rw [← he]; exact hk), same := fun k hk hm => hl.same k (by rw [← he]; exact hk) hm, ment := hl.ment, fresh := fun k b hk hb => (by
    rcases hl.fresh k b hk hb with h1 | ⟨j, x, h1, h2, h3⟩
    · exact .inl h1
    · exact .inr ⟨j, x, by rw [he]; exact h1, h2, h3⟩), os := hl.os, tape := hl.tape, output := hl.output, size := hl.size, block := fun b hb hk => hl.block b hb fun k x h1 h2 => hk k x (by rw [he]; exact h1) h2, le := hl.le, mem := hl.mem }⟩
section
variable {M : Mem} {K : AV → Hp → Mem → Prop} {u v : Value} {T : List TK}
theorem plc_bestN (hc : chkTL T = true) (h10 : T.length ≤ 10) {m : Nat} (hm : 1 ≤ m) {Z : List Nat} (hZ : lonZ T Z) : plc (cosN T) m (bndT T m) Z (List.replicate m 0) 10485761 = bestN T m := by
  obtain ⟨_, hTc⟩ := chkTL_parts hc
  refine best_same (by omega) hZ.1 List.nodup_range (fun i hi => ?_) ?_
  · have := hTc i (List.mem_range.1 hi)
    unfold cosN; omega
  · have := sT_le hTc T.length (Nat.le_refl _)
    have e : ((List.range T.length).map (cosN T)).sum = sT T T.length := rfl
    omega
theorem Best_ok (hu : IsR M 4 TK.c u T) (hb : T.length < 1000000) (n : Int) (hK : ∀ M', Mem.le M M' → K (.ext (.tuple #[.int .i64 (bestQ T n).1, .int .i64 (bestQ T n).2])) [] M') : CallS Try.prog 21 [.ext u, .ext (.int .i64 n)] [] M [] K := by
  refine inlS (cs := []) Try.mixed Try.func21 rfl (by kernel_rfl) 0 rfl rfl ?_
  simp only [Try.f21]
  have hce : u.cells = #[u] := cells_sl hu.sl
  unfold Value.cells at hce
  by_cases he : errT T n = 0
  case neg =>
    have d1 : decide (errT T n = 0) = false := decide_eq_false he
    rw [bestQ_err he] at hK
    (replace hb0 := true_and True); refine Go1.mk ?_; repeat' ((first | (with_reducible refine Go1.go ?_) | ((with_reducible first | refine brv_mk ?_ ?_ | refine gsplitD ?_ ?_ | refine gsplitG ?_ ?_) <;> intro h <;> (try simp only [Bool.not_eq_true', Bool.not_eq_false'] at h) <;> replace hb0 := h) | (((with_reducible refine isCall (f := 34) ?_); refine callA_nil (by kernel_rfl) ?_; refine (tcheck_ok hu hb n ?_))) | (refine And.intro ?_ ?_; (try simp only [sxO] at *); omega) | fail) <;> (try simp (maxSteps := 1000000) only [hb0, hu.one, hce, d1, hasK_nil, ↓hold_pre, awayP, runOps, regK, step1, newK, genR, appR, obl, buildR, Value.cells, closeK, keepH, outV, retK, ret1, retC, RetV, Option.getD, runD, stepD, afterK, undef, simprocAttr, sxB, ↓sxD, sxE, sxTab]))
    exact hK _ (Mem.le.refl _)
  obtain ⟨hc, h1, h8⟩ := errT_0 he
  obtain ⟨m, rfl⟩ := Int.eq_ofNat_of_zero_le (show 0 ≤ n by omega)
  by_cases h10 : T.length ≤ 10
  case neg =>
    have d1 : decide ((10 : Int) < (T.length : Int)) = true := by rw [decide_eq_true_eq]; omega
    rw [bestQ_many he h10] at hK
    (replace hb0 := true_and True); refine Go1.mk ?_; repeat' ((first | (with_reducible refine Go1.go ?_) | ((with_reducible first | refine brv_mk ?_ ?_ | refine gsplitD ?_ ?_ | refine gsplitG ?_ ?_) <;> intro h <;> (try simp only [Bool.not_eq_true', Bool.not_eq_false'] at h) <;> replace hb0 := h) | (((with_reducible refine isCall (f := 34) ?_); refine callA_nil (by kernel_rfl) ?_; refine (tcheck_ok hu hb _ ?_))) | (refine And.intro ?_ ?_; (try simp only [sxO] at *); omega) | fail) <;> (try simp (maxSteps := 1000000) only [hb0, hu.one, hce, hu.len, hu.sl, he, d1, hasK_nil, ↓hold_pre, awayP, runOps, regK, step1, newK, genR, appR, obl, buildR, Value.cells, closeK, keepH, outV, retK, ret1, retC, RetV, Option.getD, runD, stepD, afterK, undef, simprocAttr, sxB, ↓sxD, sxE, sxTab]))
    exact hK _ (Mem.le.refl _)
  have d1 : decide ((10 : Int) < (T.length : Int)) = false := by rw [decide_eq_false_iff_not]; omega
  rw [bestQ_ok he h10] at hK
  have hm8 : m ≤ 8 := by omega
  have hm1 : 1 ≤ m := by omega
  (replace hb0 := true_and True); refine Go1.mk ?_; repeat' ((first | (with_reducible refine Go1.go ?_) | ((with_reducible first | refine brv_mk ?_ ?_ | refine gsplitD ?_ ?_ | refine gsplitG ?_ ?_) <;> intro h <;> (try simp only [Bool.not_eq_true', Bool.not_eq_false'] at h) <;> replace hb0 := h) | (((with_reducible refine isCall (f := 34) ?_); refine callA_nil (by kernel_rfl) ?_; refine (tcheck_ok hu hb _ ?_))) | ((first | ((with_reducible refine isCall (f := 39) ?_); refine callA_nil (by kernel_rfl) ?_) | ((with_reducible refine isCall0 (f := 39) ?_); refine callA0_nil (by kernel_rfl) ?_)); refine (lon_ok hu hb (fun v Z M1 m1 z1 z2 z3 => Stop.mk ?_))) | ((with_reducible refine isDraw [some 21, some 22, some 23, some 24, some 25, some 8, some 9, some 10, none, none, none] (by decide) ?_); refine draw_rule [(0, []), (2, [0]), (3, [0, 2]), (5, [0, 2, 3]), (6, [0, 2, 3]), (7, [0, 2, 3]), (1, [2, 3]), (4, []), (8, []), (9, []), (10, [])] [[], [0], [], [], [0, 1, 2, 3], [], [], [], [0, 1, 2, 3, 4, 5, 6, 7], [0, 1, 2, 3, 4, 5, 6, 7, 8], [0, 1, 2, 3, 4, 5, 6, 7, 8, 9]] [21, 22, 23, 24, 25, 8, 9, 10] [] (by kernel_rfl) (by kernel_rfl) (by kernel_rfl) (by kernel_rfl) (by exact trivial) ?_) | (refine And.intro ?_ ?_; (try simp only [sxO] at *); omega) | fail) <;> (try simp (maxSteps := 1000000) only [hb0, hu.one, hce, hu.len, hu.sl, he, d1, hasK_nil, mentL_ext, List.nil_append, ↓hold_pre, awayP, runOps, regK, step1, newK, genR, appR, obl, buildR, Value.cells, closeK, keepH, outV, retK, ret1, retC, RetV, Option.getD, runD, stepD, afterK, undef, simprocAttr, sxB, ↓sxD, sxE, sxTab]))
  have m1 : Mem.le M M1 := m1
  have z1 : lonZ T Z := z1
  have z2 : IsL M1 natV v Z := z2
  have hu1 := hu.le m1
  clear z3
  refine Stop.go ?_
  have hplc := plc_bestN hc h10 hm1 z1
  have hZl : Z.length = T.length := by rw [z1.1.length_eq, List.length_range]
  have e8 := (end8_zero hm8).symm
  (replace hb0 := true_and True); refine Go1.mk ?_; repeat' ((first | (with_reducible refine Go1.go ?_) | ((with_reducible first | refine brv_mk ?_ ?_ | refine gsplitD ?_ ?_ | refine gsplitG ?_ ?_) <;> intro h <;> (try simp only [Bool.not_eq_true', Bool.not_eq_false'] at h) <;> replace hb0 := h) | ((first | ((with_reducible refine isCall (f := 40) ?_); refine callA_nil (by kernel_rfl) ?_) | ((with_reducible refine isCall0 (f := 40) ?_); refine callA0_nil (by kernel_rfl) ?_)); refine (bound_ok hu1 hc hm1 hm8 ?_)) | ((with_reducible refine isCall (f := 41) ?_); refine callA ?_) | ((with_reducible refine isCallS (f := 41) ?_); refine (CallS.eqv (H2 := plH u v m (bndT T m) (List.replicate m 0) 10485761) (fun k => ?_) (place_ok hu1 hc hm1 hm8 z2 (lonZ_in z1) hZl Z.length 0 (List.replicate m 0) 10485761 _ (by omega) List.length_replicate (fun x hx => by rw [(List.mem_replicate.1 hx).2]; omega) (Stop.mk ?_)))) | ((with_reducible refine isDraw [some 21, some 22, some 23, some 24, some 25, some 8, some 9, some 10, none, none, none] (by decide) ?_); refine draw_rule [(0, []), (2, [0]), (3, [0, 2]), (5, [0, 2, 3]), (6, [0, 2, 3]), (7, [0, 2, 3]), (1, [2, 3]), (4, []), (8, []), (9, []), (10, [])] [[], [0], [], [], [0, 1, 2, 3], [], [], [], [0, 1, 2, 3, 4, 5, 6, 7], [0, 1, 2, 3, 4, 5, 6, 7, 8], [0, 1, 2, 3, 4, 5, 6, 7, 8, 9]] [21, 22, 23, 24, 25, 8, 9, 10] [] (by kernel_rfl) (by kernel_rfl) (by kernel_rfl) (by kernel_rfl) (by exact trivial) ?_) | (refine And.intro ?_ ?_; (try simp only [sxO] at *); omega) | fail) <;> (try simp (maxSteps := 1000000) only [hb0, hu1.one, z2.one, hce, hasK_nil, mentL_ext, List.nil_append, ↓hold_pre, awayP, runOps, regK, step1, newK, genR, appR, obl, buildR, Value.cells, closeK, keepH, outV, retK, ret1, retC, RetV, Option.getD, runD, stepD, afterK, undef, simprocAttr, sxB, ↓sxD, sxE, sxTab]))
  · unfold plH
    rw [end8_zero hm8]
    simp only [lkH]
    by_cases k7 : 7 = k
    · subst k7; simp
    · simp only [if_neg k7]; rfl
  · rw [hplc]
    refine Stop.go ?_
    (replace hb0 := true_and True); refine Go1.mk ?_; repeat' ((first | (with_reducible refine Go1.go ?_) | ((with_reducible first | refine brv_mk ?_ ?_ | refine gsplitD ?_ ?_ | refine gsplitG ?_ ?_) <;> intro h <;> (try simp only [Bool.not_eq_true', Bool.not_eq_false'] at h) <;> replace hb0 := h) | ((with_reducible refine isDraw [some 21, some 22, some 23, some 24, some 25, some 8, some 9, some 10, none, none, none] (by decide) ?_); refine draw_rule [(0, []), (2, [0]), (3, [0, 2]), (5, [0, 2, 3]), (6, [0, 2, 3]), (7, [0, 2, 3]), (1, [2, 3]), (4, []), (8, []), (9, []), (10, [])] [[], [0], [], [], [0, 1, 2, 3], [], [], [], [0, 1, 2, 3, 4, 5, 6, 7], [0, 1, 2, 3, 4, 5, 6, 7, 8], [0, 1, 2, 3, 4, 5, 6, 7, 8, 9]] [21, 22, 23, 24, 25, 8, 9, 10] [] (by kernel_rfl) (by kernel_rfl) (by kernel_rfl) (by kernel_rfl) (by exact trivial) ?_) | (refine And.intro ?_ ?_; (try simp only [sxO] at *); omega) | fail) <;> (try simp (maxSteps := 1000000) only [hb0, plH, hu1.one, z2.one, end8_ment, hasK_nil, mentL_ext, List.nil_append, ↓hold_pre, awayP, runOps, regK, step1, newK, genR, appR, obl, buildR, Value.cells, closeK, keepH, outV, retK, ret1, retC, RetV, Option.getD, runD, stepD, afterK, undef, simprocAttr, sxB, ↓sxD, sxE, sxTab]))
    exact hK M1 m1
end
end Go.Proofs.Ytgkfmlgfmcpebaa.Sx
namespace Go.Proofs.Ytgkfmlgfmcpebaa.Sx
open Go Go.RowKit
set_option linter.unusedVariables false
set_option linter.unusedSimpArgs false
set_option maxRecDepth 100000
set_option maxHeartbeats 8000000
attribute [local congr] fin_congr finG_congr stepG_congr step1_congr runOps_congr brv_congr obl_congr condK_congr LoopK_congr seqK_congr CutK_congr vc_congr DrawK_congr regK_congr CallK_congr AskK_congr newK_congr retC_congr ret1_congr retK_congr outV_congr closeK_congr genR_congr appR_congr finD_congr finGD_congr stepGD_congr stepD_congr CallK0_congr runD_congr okR_congr CallS_congr vcX_congr
attribute [local congr] Stop_congr
def tkC (L : List TK) : List AV := (L.flatMap TK.c).map .ext
theorem tkC_len (L : List TK) : (tkC L).length = L.length * 4 := by
  unfold tkC
  rw [List.length_map, flat_len (z := 4) (fun _ => rfl)]
theorem tkC_ment (L : List TK) : mentL (tkC L) = [] := mentL_ext _
theorem tkC_kill (k : Nat) (L : List TK) : killL k (tkC L) = tkC L := killL_exts _ _
theorem tkC_app (L : List TK) (x : TK) : tkC L ++ [.ext (.string (bs x.pk)), .ext (.string (bs x.ts)), .ext (.int .i64 x.env), .ext (.int .i64 x.cost)] = tkC (L ++ [x]) := by simp [tkC, TK.c]
def mkX (cs : List Int) (i : Nat) : TK := ⟨[112], [116], ((i % 3 : Nat) : Int), cs.getD i 0⟩
def mkP (cs : List Int) (i : Nat) : List TK := (List.range i).map (mkX cs)
def mkT (cs : List Int) : List TK := mkP cs cs.length
theorem mkP_len (cs : List Int) (i : Nat) : (mkP cs i).length = i := by simp [mkP]
theorem mkP_succ (cs : List Int) (i : Nat) : mkP cs (i + 1) = mkP cs i ++ [mkX cs i] := by simp [mkP, List.range_succ]
section
variable {M : Mem} {K : AV → Hp → Mem → Prop} {w : Value} {cs : List Int}
def tsSt (M : Mem) (w : Value) (cs : List Int) (i : Nat) : St := { env := [(4, .ext (.int .i64 (i : Int))), (3, .slo 221 0 i 4), (0, .ext w)], hp := [(221, 49, tkC (mkP cs i))], M := M, kb := 200, fx := [] }
theorem tasks_ok (hw : IsL M intV64 w cs) (hb : cs.length < 1000000) (hK : K (.slo 221 0 cs.length 4) [(221, 49, tkC (mkT cs))] M) : CallS Try.prog 23 [.ext w] [] M [] K := by
  refine inlS (cs := []) Try.mixed Try.func23 rfl (by kernel_rfl) 200 rfl rfl ?_
  simp only [Try.f23]
  (replace hb0 := true_and True); refine Go1.mk ?_; repeat' ((first | (with_reducible refine Go1.go ?_) | ((with_reducible first | refine brv_mk ?_ ?_ | refine gsplitD ?_ ?_ | refine gsplitG ?_ ?_) <;> intro h <;> (try simp only [Bool.not_eq_true', Bool.not_eq_false'] at h) <;> replace hb0 := h) | (refine And.intro ?_ ?_; (try simp only [sxO] at *); omega) | fail) <;> (try simp (maxSteps := 1000000) only [hb0, hw.one, ↓hold_pre, awayP, runOps, regK, step1, newK, genR, appR, obl, buildR, Value.cells, closeK, keepH, outV, retK, ret1, retC, RetV, Option.getD, runD, stepD, afterK, undef, simprocAttr, sxB, ↓sxD, sxE, sxTab]))
  refine ⟨fun d z => ∃ i, i ≤ cs.length ∧ d = cs.length - i ∧ z = tsSt M w cs i, ⟨cs.length, tsSt M w cs 0, (le_nil 3 221 49 4 rfl (.inl (by simp [awayB, mentE, mentH, mentL, AV.ment, hasK]))).trans (le_sub ⟨rfl, rfl, rfl, trivial⟩ ⟨by simp [lkH, tsSt, tkC, mkP], trivial⟩ rfl rfl rfl (by simp [keepLt, tsSt, lkH])), ⟨0, by omega, by omega, rfl⟩⟩, ?_⟩
  rintro d z ⟨i, hi, rfl, rfl⟩
  by_cases hlt : i < cs.length
  case neg =>
    obtain rfl : i = cs.length := by omega
    have f1 := hw.fin hlt
    (replace hb0 := true_and True); refine Go1.mk ?_; repeat' ((first | (with_reducible refine Go1.go ?_) | ((with_reducible first | refine brv_mk ?_ ?_ | refine gsplitD ?_ ?_ | refine gsplitG ?_ ?_) <;> intro h <;> (try simp only [Bool.not_eq_true', Bool.not_eq_false'] at h) <;> replace hb0 := h) | (refine And.intro ?_ ?_; (try simp only [sxO] at *); omega) | fail) <;> (try simp (maxSteps := 1000000) only [hb0, tsSt, f1, tkC_ment, tkC_kill, hasK_nil, ↓hold_pre, awayP, runOps, regK, step1, newK, genR, appR, obl, buildR, Value.cells, closeK, keepH, outV, retK, ret1, retC, RetV, Option.getD, runD, stepD, afterK, undef, simprocAttr, sxB, ↓sxD, sxE, sxTab]))
    exact hK
  have f1 := hw.idx (P := Try.prog) (T := 3) tk3 tz3 (by omega) hlt
  have hle := tkC_len (mkP cs i)
  rw [mkP_len] at hle
  have hap := tkC_app (mkP cs i) (mkX cs i)
  rw [← mkP_succ] at hap
  have hget : cs[i] = cs.getD i 0 := by rw [List.getD_eq_getElem?_getD, List.getElem?_eq_getElem hlt]; rfl
  rw [hget] at f1
  have hap : tkC (mkP cs i) ++ [.ext (.string (bs [112])), .ext (.string (bs [116])), .ext (.int .i64 ((i % 3 : Nat) : Int)), .ext (.int .i64 (cs.getD i 0))] = tkC (mkP cs (i + 1)) := hap
  have hmod : ((i : Int)).tmod 3 = ((i % 3 : Nat) : Int) := rfl
  (replace hb0 := true_and True); refine Go1.mk ?_; repeat' ((first | (with_reducible refine Go1.go ?_) | ((with_reducible first | refine brv_mk ?_ ?_ | refine gsplitD ?_ ?_ | refine gsplitG ?_ ?_) <;> intro h <;> (try simp only [Bool.not_eq_true', Bool.not_eq_false'] at h) <;> replace hb0 := h) | (refine And.intro ?_ ?_; (try simp only [sxO] at *); omega) | fail) <;> (try simp (maxSteps := 1000000) only [hb0, tsSt, f1, intV64, hmod, hle, hap, tkC_ment, tkC_kill, hasK_nil, bs_mk, bs_app, bs_ext, bs_size, bs_toList, bs_at, bs_cells, List.take_length, imp_ga, guard_pk, guard_pk2, ↓hold_pre, awayP, runOps, regK, step1, newK, genR, appR, obl, buildR, Value.cells, closeK, keepH, outV, retK, ret1, retC, RetV, Option.getD, runD, stepD, afterK, undef, simprocAttr, sxB, ↓sxD, sxE, sxTab]))
  exact ⟨cs.length - (i + 1), tsSt M w cs (i + 1), by omega, le_sub ⟨rfl, rfl, rfl, trivial⟩ ⟨by simp [lkH, tsSt], trivial⟩ rfl rfl rfl (by simp [keepLt, tsSt, lkH]), i + 1, by omega, rfl, rfl⟩
theorem tasksF_ok (hw : IsL M intV64 w cs) (hb : cs.length < 1000000) (hK : ∀ U M', Mem.le M M' → IsR M' 4 TK.c U (mkT cs) → FreshS M U → K (.ext U) [] M') : CallS Try.prog 23 [.ext w] [] M [] K := by
  refine CallS.frzF (tasks_ok hw hb ?_)
  have hl : (mkT cs).length = cs.length := mkP_len cs cs.length
  refine FrzF.one ((mkT cs).flatMap TK.c) rfl (by rw [flat_len (z := 4) (fun _ => rfl), hl]) fun U M' h1 h2 h3 => hK U M' h1 ?_ h3
  unfold IsR
  rw [hl]; exact h2
theorem tasksB_ok {k n : Nat} {Ty : TypeId} (hn : n = cs.length) (hb : cs.length < 1000000) (hK : ∀ U M', Mem.le M M' → IsR M' 4 TK.c U (mkT cs) → K (.ext U) [(k, Ty, cE intV64 cs)] M') : CallS Try.prog 23 [.slo k 0 n 1] [(k, Ty, cE intV64 cs)] M [] K := by
  refine CallS.bor ⟨⟨_, rfl⟩, trivial⟩ fun us M' hM hb' => ?_
  obtain ⟨x, _, rfl, h1, rfl⟩ := hb'
  refine tasksF_ok (h1.isL (L := cs) (T := Ty) (by simp [lkH]) hn) hb fun U M2 a1 a2 a3 => ?_
  exact ⟨fun j hj => rfl, fun M3 h5 h6 _ => hK U M3 h5 (SlM.move a2 a3 h6)⟩
def grI (l : List Int) : Int := l.foldl (fun n x => if n < x then x else n) 0
def grSt (M : Mem) (w : Value) (l : List Int) (i : Nat) : St := { env := [(4, .ext (.int .i64 (i : Int))), (3, .ext (.int .i64 (grI (l.take i)))), (0, .ext w)], hp := [], M := M, kb := 0, fx := [] }
theorem greatest_ok {l : List Int} (hw : IsL M intV64 w l) (hb : l.length < 1000000) (hK : K (.ext (.int .i64 (grI l))) [] M) : CallS Try.prog 25 [.ext w] [] M [] K := by
  refine inlS (cs := []) Try.mixed Try.func25 rfl (by kernel_rfl) 0 rfl rfl ?_
  simp only [Try.f25]
  (replace hb0 := true_and True); refine Go1.mk ?_; repeat' ((first | (with_reducible refine Go1.go ?_) | ((with_reducible first | refine brv_mk ?_ ?_ | refine gsplitD ?_ ?_ | refine gsplitG ?_ ?_) <;> intro h <;> (try simp only [Bool.not_eq_true', Bool.not_eq_false'] at h) <;> replace hb0 := h) | (refine And.intro ?_ ?_; (try simp only [sxO] at *); omega) | fail) <;> (try simp (maxSteps := 1000000) only [hb0, hw.one, ↓hold_pre, awayP, runOps, regK, step1, newK, genR, appR, obl, buildR, Value.cells, closeK, keepH, outV, retK, ret1, retC, RetV, Option.getD, runD, stepD, afterK, undef, simprocAttr, sxB, ↓sxD, sxE, sxTab]))
  refine ⟨fun d z => ∃ i, i ≤ l.length ∧ d = l.length - i ∧ z = grSt M w l i, ⟨l.length, grSt M w l 0, le_sub ⟨rfl, rfl, rfl, trivial⟩ trivial rfl rfl rfl (keepLt0 _), ⟨0, by omega, by omega, rfl⟩⟩, ?_⟩
  rintro d z ⟨i, hi, rfl, rfl⟩
  by_cases hlt : i < l.length
  case neg =>
    obtain rfl : i = l.length := by omega
    have f1 := hw.fin hlt
    have ht : l.take l.length = l := List.take_length
    (replace hb0 := true_and True); refine Go1.mk ?_; repeat' ((first | (with_reducible refine Go1.go ?_) | ((with_reducible first | refine brv_mk ?_ ?_ | refine gsplitD ?_ ?_ | refine gsplitG ?_ ?_) <;> intro h <;> (try simp only [Bool.not_eq_true', Bool.not_eq_false'] at h) <;> replace hb0 := h) | (refine And.intro ?_ ?_; (try simp only [sxO] at *); omega) | fail) <;> (try simp (maxSteps := 1000000) only [hb0, grSt, f1, ht, ↓hold_pre, awayP, runOps, regK, step1, newK, genR, appR, obl, buildR, Value.cells, closeK, keepH, outV, retK, ret1, retC, RetV, Option.getD, runD, stepD, afterK, undef, simprocAttr, sxB, ↓sxD, sxE, sxTab]))
    exact hK
  have f1 := hw.idx (P := Try.prog) (T := 3) tk3 tz3 (by omega) hlt
  have hx : (if grI (l.take i) < l[i] then l[i] else grI (l.take i)) = grI (l.take (i + 1)) := by
    unfold grI
    rw [List.take_add_one, List.getElem?_eq_getElem hlt]
    simp only [Option.toList_some, List.foldl_append, List.foldl_cons, List.foldl_nil]
  (replace hb0 := true_and True); refine Go1.mk ?_; repeat' ((first | (with_reducible refine Go1.go ?_) | ((with_reducible first | refine brv_mk ?_ ?_ | refine gsplitD ?_ ?_ | refine gsplitG ?_ ?_) <;> intro h <;> (try simp only [Bool.not_eq_true', Bool.not_eq_false'] at h) <;> replace hb0 := h) | (refine And.intro ?_ ?_; (try simp only [sxO] at *); omega) | fail) <;> (try simp (maxSteps := 1000000) only [hb0, grSt, f1, intV64, hx, ↓hold_pre, awayP, runOps, regK, step1, newK, genR, appR, obl, buildR, Value.cells, closeK, keepH, outV, retK, ret1, retC, RetV, Option.getD, runD, stepD, afterK, undef, simprocAttr, sxB, ↓sxD, sxE, sxTab]))
  exact ⟨l.length - (i + 1), grSt M w l (i + 1), by omega, le_sub ⟨rfl, rfl, rfl, trivial⟩ trivial rfl rfl rfl (keepLt0 _), i + 1, by omega, rfl, rfl⟩
end
end Go.Proofs.Ytgkfmlgfmcpebaa.Sx
namespace Go.Proofs.Ytgkfmlgfmcpebaa.Sx
open Go Go.RowKit
set_option linter.unusedVariables false
set_option linter.unusedSimpArgs false
set_option maxRecDepth 100000
set_option maxHeartbeats 8000000
attribute [local congr] fin_congr finG_congr stepG_congr step1_congr runOps_congr brv_congr obl_congr condK_congr LoopK_congr seqK_congr CutK_congr vc_congr DrawK_congr regK_congr CallK_congr AskK_congr newK_congr retC_congr ret1_congr retK_congr outV_congr closeK_congr genR_congr appR_congr finD_congr finGD_congr stepGD_congr stepD_congr CallK0_congr runD_congr okR_congr CallS_congr vcX_congr
attribute [local congr] Stop_congr
def natI (P : List (List Nat)) : List (List Int) := P.map fun l => l.map fun (x : Nat) => (x : Int)
theorem LsP_natI (P : List (List Nat)) : LsP P = LsI (natI P) := by
  unfold LsP LsI natI
  rw [List.map_map]
  refine List.map_congr_left fun l _ => ?_
  simp only [Function.comp, List.map_map]
  rfl
def t5 : List TK := mkT [5, 4, 3, 3, 3]
theorem t5_div : divR t5 2 allY [[0, 3], [1, 2, 4]] 0 := by
  refine .inr ⟨by decide, 2, rfl, some [[0, 3], [1, 2, 4]], ⟨[0, 1, 2, 3, 4], ⟨List.Perm.refl _, ?_⟩, by decide⟩, rfl, rfl⟩
  have h : ([0, 1, 2, 3, 4] : List Nat).Pairwise (fun x y => cosC t5 x y < 0 ∨ (cosC t5 x y = 0 ∧ x < y)) := by decide
  exact h
theorem t5_err : errT t5 2 = 0 := by decide
theorem t5_end : endQ t5 (natI [[0, 3], [1, 2, 4]]) = ([8, 10], 0) := by decide
theorem t5_bnd : bndQ t5 2 = 9 := by decide
theorem t5_best : bestQ t5 2 = (9, 0) := by decide
theorem t5_gr : grI [8, 10] = 10 := by decide
section
variable {M : Mem} {K : AV → Hp → Mem → Prop}
theorem known_ok (hK : ∀ M', Mem.le M M' → K (.ext (.bool true)) [] M') : CallS Try.prog 16 [] [] M [] K := by
  refine inlS (cs := []) Try.mixed Try.func16 rfl (by kernel_rfl) 0 rfl rfl ?_
  simp only [Try.f16]
  have hc5 : [AV.ext (.int .i64 5), .ext (.int .i64 4), .ext (.int .i64 3), .ext (.int .i64 3), .ext (.int .i64 3)] = cE intV64 [5, 4, 3, 3, 3] := rfl
  (replace hb0 := true_and True); refine Go1.mk ?_; repeat' ((first | (with_reducible refine Go1.go ?_) | ((with_reducible first | refine brv_mk ?_ ?_ | refine gsplitD ?_ ?_ | refine gsplitG ?_ ?_) <;> intro h <;> (try simp only [Bool.not_eq_true', Bool.not_eq_false'] at h) <;> replace hb0 := h) | ((with_reducible refine isCall (f := 23) ?_); refine callA ?_) | ((with_reducible refine isCallS (f := 23) ?_); refine (tasksB_ok (cs := [5, 4, 3, 3, 3]) rfl (by decide) (fun u M1 m1 hu => Stop.mk ?_))) | (refine And.intro ?_ ?_; (try simp only [sxO] at *); omega) | fail) <;> (try simp (maxSteps := 1000000) only [hb0, hc5, cE_ment, hasK_nil, ↓hold_pre, awayP, runOps, regK, step1, newK, genR, appR, obl, buildR, Value.cells, closeK, keepH, outV, retK, ret1, retC, RetV, Option.getD, runD, stepD, afterK, undef, simprocAttr, sxB, ↓sxD, sxE, sxTab]))
  have m1 : Mem.le M M1 := m1
  have hu : IsR M1 4 TK.c u t5 := hu
  clear hc5
  refine Stop.go ?_
  have hb : t5.length < 1000000 := by decide
  (replace hb0 := true_and True); refine Go1.mk ?_; repeat' ((first | (with_reducible refine Go1.go ?_) | ((with_reducible first | refine brv_mk ?_ ?_ | refine gsplitD ?_ ?_ | refine gsplitG ?_ ?_) <;> intro h <;> (try simp only [Bool.not_eq_true', Bool.not_eq_false'] at h) <;> replace hb0 := h) | (((with_reducible refine isCall (f := 13) ?_); refine callA_nil (by kernel_rfl) ?_; refine (Divide_ok hu hb 2 (fun M2 U P e m2 d1 hU => Stop.mk ?_)))) | (refine And.intro ?_ ?_; (try simp only [sxO] at *); omega) | fail) <;> (try simp (maxSteps := 1000000) only [hb0, hu.one, cE_ment, hasK_nil, ↓hold_pre, awayP, runOps, regK, step1, newK, genR, appR, obl, buildR, Value.cells, closeK, keepH, outV, retK, ret1, retC, RetV, Option.getD, runD, stepD, afterK, undef, simprocAttr, sxB, ↓sxD, sxE, sxTab]))
  have m2 : Mem.le M1 M2 := m2
  have d1 : divR t5 2 allY P e := d1
  have hU : LLF M1 M2 U (LsP P) := hU
  obtain ⟨rfl, rfl⟩ := divR_one d1 t5_div
  have hL := hU.ll
  rw [LsP_natI] at hL
  have hu2 := hu.le m2
  have ho := hL.sl.2.2
  refine Stop.go ?_
  (replace hb0 := true_and True); refine Go1.mk ?_; repeat' ((first | (with_reducible refine Go1.go ?_) | ((with_reducible first | refine brv_mk ?_ ?_ | refine gsplitD ?_ ?_ | refine gsplitG ?_ ?_) <;> intro h <;> (try simp only [Bool.not_eq_true', Bool.not_eq_false'] at h) <;> replace hb0 := h) | (((with_reducible refine isCall (f := 18) ?_); refine callA_nil (by kernel_rfl) ?_; refine (Ends_ok hu2 hb hL (by decide) (by decide) (fun V M3 m3 hV _ => Stop.mk ?_)))) | (refine And.intro ?_ ?_; (try simp only [sxO] at *); omega) | fail) <;> (try simp (maxSteps := 1000000) only [hb0, hu2.one, ho, cE_ment, hasK_nil, ↓hold_pre, awayP, runOps, regK, step1, newK, genR, appR, obl, buildR, Value.cells, closeK, keepH, outV, retK, ret1, retC, RetV, Option.getD, runD, stepD, afterK, undef, simprocAttr, sxB, ↓sxD, sxE, sxTab]))
  have m3 : Mem.le M2 M3 := m3
  rw [t5_end] at hV
  have hV : IsL M3 intV64 V [8, 10] := hV
  rw [t5_end]
  have hu3 := hu2.le m3
  have hb9 := t5_bnd
  have he2 := t5_err
  refine Stop.go ?_
  (replace hb0 := true_and True); refine Go1.mk ?_; repeat' ((first | (with_reducible refine Go1.go ?_) | ((with_reducible first | refine brv_mk ?_ ?_ | refine gsplitD ?_ ?_ | refine gsplitG ?_ ?_) <;> intro h <;> (try simp only [Bool.not_eq_true', Bool.not_eq_false'] at h) <;> replace hb0 := h) | (((with_reducible refine isCall (f := 24) ?_); refine callA_nil (by kernel_rfl) ?_; refine (Bound_ok hu3 hb 2 ?_))) | (((with_reducible refine isCall (f := 21) ?_); refine callA_nil (by kernel_rfl) ?_; refine (Best_ok hu3 hb 2 (fun M4 m4 => Stop.mk ?_)))) | (refine And.intro ?_ ?_; (try simp only [sxO] at *); omega) | fail) <;> (try simp (maxSteps := 1000000) only [hb0, hu3.one, hV.one, hb9, he2, cE_ment, hasK_nil, ↓hold_pre, awayP, runOps, regK, step1, newK, genR, appR, obl, buildR, Value.cells, closeK, keepH, outV, retK, ret1, retC, RetV, Option.getD, runD, stepD, afterK, undef, simprocAttr, sxB, ↓sxD, sxE, sxTab]))
  have m4 : Mem.le M3 M4 := m4
  have hV4 := hV.le m4
  rw [t5_best]
  have hk := hK M4 (m1.trans (m2.trans (m3.trans m4)))
  have hgr := t5_gr
  refine Stop.go ?_
  (replace hb0 := true_and True); refine Go1.mk ?_; repeat' ((first | (with_reducible refine Go1.go ?_) | ((with_reducible first | refine brv_mk ?_ ?_ | refine gsplitD ?_ ?_ | refine gsplitG ?_ ?_) <;> intro h <;> (try simp only [Bool.not_eq_true', Bool.not_eq_false'] at h) <;> replace hb0 := h) | (((with_reducible refine isCall (f := 25) ?_); refine callA_nil (by kernel_rfl) ?_; refine (greatest_ok hV4 (by decide) (Stop.mk ?_)))) | (refine And.intro ?_ ?_; (try simp only [sxO] at *); omega) | fail) <;> (try simp (maxSteps := 1000000) only [hb0, hV4.one, hgr, cE_ment, hasK_nil, ↓hold_pre, awayP, runOps, regK, step1, newK, genR, appR, obl, buildR, Value.cells, closeK, keepH, outV, retK, ret1, retC, RetV, Option.getD, runD, stepD, afterK, undef, simprocAttr, sxB, ↓sxD, sxE, sxTab]))
  exact Stop.go hk
end
end Go.Proofs.Ytgkfmlgfmcpebaa.Sx
namespace Go.Proofs.Ytgkfmlgfmcpebaa.Sx
open Go Go.RowKit
set_option linter.unusedVariables false
set_option linter.unusedSimpArgs false
set_option maxRecDepth 100000
set_option maxHeartbeats 8000000
attribute [local congr] fin_congr finG_congr stepG_congr step1_congr runOps_congr brv_congr obl_congr condK_congr LoopK_congr seqK_congr CutK_congr vc_congr DrawK_congr regK_congr CallK_congr AskK_congr newK_congr retC_congr ret1_congr retK_congr outV_congr closeK_congr genR_congr appR_congr finD_congr finGD_congr stepGD_congr stepD_congr CallK0_congr runD_congr okR_congr CallS_congr vcX_congr
attribute [local congr] Stop_congr
theorem tkC_set : ∀ {L : List TK} {i : Nat} (h : i < L.length) (e : Int), (tkC L).set (i * 4 + 2) (.ext (.int .i64 e)) = tkC (L.set i { L[i] with env := e })
  | x :: L, 0, _, e => by simp [tkC, TK.c]
  | x :: L, i + 1, h, e => by
    have ih := tkC_set (L := L) (i := i) (by simpa using h) e
    have e1 : tkC (x :: L) = [.ext (.string (bs x.pk)), .ext (.string (bs x.ts)), .ext (.int .i64 x.env), .ext (.int .i64 x.cost)] ++ tkC L := by simp [tkC, TK.c]
    have e2 : ∀ y, tkC (x :: L.set i y) = [.ext (.string (bs x.pk)), .ext (.string (bs x.ts)), .ext (.int .i64 x.env), .ext (.int .i64 x.cost)] ++ tkC (L.set i y) := fun y => by simp [tkC, TK.c]
    rw [e1, List.set_append_right _ _ (by simp; omega), List.set_cons_succ, e2]
    congr 1
    refine Eq.trans ?_ ih
    congr 1
    simp only [List.length_cons, List.length_nil]; omega
structure okT (x : TK) : Prop where
  pk : x.pk = [112]
  ts : x.ts = [116]
  e0 : 0 ≤ x.env
  e2 : x.env ≤ 2
  c1 : 1 ≤ x.cost
  c2 : x.cost ≤ 100
theorem mkT_ok {cs : List Int} (h : ∀ c ∈ cs, 1 ≤ c ∧ c ≤ 100) : ∀ x ∈ mkT cs, okT x := fun x hx => by
  unfold mkT mkP at hx
  obtain ⟨i, hi, rfl⟩ := List.mem_map.1 hx
  have hi := List.mem_range.1 hi
  have := h (cs.getD i 0) (by rw [List.getD_eq_getElem?_getD, List.getElem?_eq_getElem hi]; exact List.getElem_mem _)
  exact ⟨rfl, rfl, by simp only [mkX]; omega, by simp only [mkX]; omega, this.1, this.2⟩
section
variable {M : Mem} {K : AV → Hp → Mem → Prop}
theorem tasksO_ok {k n : Nat} {cs : List Int} {Ty : TypeId} (hk : k ≠ 221) (hn : n = cs.length) (hb : cs.length < 1000000) (hK : K (.slo 221 0 n 4) [(221, 49, tkC (mkT cs)), (k, Ty, cE intV64 cs)] M) : CallS Try.prog 23 [.slo k 0 n 1] [(k, Ty, cE intV64 cs)] M [] K := by
  subst hn
  refine CallS.bor ⟨⟨_, rfl⟩, trivial⟩ fun us M' hM hb' => ?_
  obtain ⟨x, _, rfl, h1, rfl⟩ := hb'
  refine tasks_ok (h1.isL (L := cs) (T := Ty) (by simp [lkH]) rfl) hb ⟨fun j hj => ?_, fun M3 _ _ h => by rw [h rfl]; exact hK⟩
  simp only [lkH] at hj ⊢
  split at hj
  · rename_i e
    rw [if_neg (by omega)]
  · cases hj
theorem pick3_ok (u : Value) (l : List Int) (p : Nat) (L : List Int) (hL : L.length = 3) (hu : IsL M intV64 u l) (hp : p < 1000000) (hK : ∀ x ∈ L, K (.ext (.int .i64 x)) [(31, 27, [.ext u, .ext (.int .i64 ((p + 1 : Nat) : Int))]), (311, 3, cE intV64 L)] M) :
    CallS Try.prog 26 [.own 31 0, .slo 311 0 3 1] [(311, 3, cE intV64 L), (31, 27, [.ext u, .ext (.int .i64 (p : Int))])] M [] K := by
  refine inlS (cs := []) Try.mixed Try.func26 rfl (by kernel_rfl) 400 rfl rfl ?_
  simp only [Try.f26]
  (replace hb0 := true_and True); refine Go1.mk ?_; repeat' ((first | (with_reducible refine Go1.go ?_) | ((with_reducible first | refine brv_mk ?_ ?_ | refine gsplitD ?_ ?_ | refine gsplitG ?_ ?_) <;> intro h <;> (try simp only [Bool.not_eq_true', Bool.not_eq_false'] at h) <;> replace hb0 := h) | ((with_reducible refine isCall (f := 17) ?_); refine callA ?_) | ((with_reducible refine isCallS (f := 17) ?_); refine (nextI_ok 31 u l p 3 hu (by omega) (by omega) (by omega) (fun x hx0 hx1 => Stop.mk ?_))) | (refine And.intro ?_ ?_; (try simp only [sxO] at *); omega) | fail) <;> (try simp (maxSteps := 1000000) only [hb0, cE_ment, cE_len, cE_kill, hasK_nil, Nat.mul_one, hu.one, ↓hold_pre, awayP, runOps, regK, step1, newK, genR, appR, obl, buildR, Value.cells, closeK, keepH, outV, retK, ret1, retC, RetV, Option.getD, runD, stepD, afterK, undef, simprocAttr, sxB, ↓sxD, sxE, sxTab]))
  obtain ⟨j, rfl⟩ := Int.eq_ofNat_of_zero_le hx0
  have hj : j < L.length := by omega
  have hat := cE_at intV64 hj
  have hm : L[j] ∈ L := List.getElem_mem hj
  have a1 : (0 : Int) ≤ (j : Int) := by omega
  have a2 : (j : Int) < 3 := by omega
  have a3 : (j : Int) < ((3 : Nat) : Int) := by omega
  generalize L[j] = y at *
  refine Stop.go ?_
  (replace hb0 := true_and True); refine Go1.mk ?_; repeat' ((first | (with_reducible refine Go1.go ?_) | ((with_reducible first | refine brv_mk ?_ ?_ | refine gsplitD ?_ ?_ | refine gsplitG ?_ ?_) <;> intro h <;> (try simp only [Bool.not_eq_true', Bool.not_eq_false'] at h) <;> replace hb0 := h) | (refine And.intro ?_ ?_; (try simp only [sxO] at *); omega) | fail) <;> (try simp (maxSteps := 1000000) only [hb0, cE_ment, cE_len, cE_kill, hasK_nil, Nat.mul_one, hu.one, hat, a1, a2, a3, intV64, ↓hold_pre, awayP, runOps, regK, step1, newK, genR, appR, obl, buildR, Value.cells, closeK, keepH, outV, retK, ret1, retC, RetV, Option.getD, runD, stepD, afterK, undef, simprocAttr, sxB, ↓sxD, sxE, sxTab]))
  exact hK _ hm
def drA (M : Mem) (u : Value) (p q : Nat) (top : Int) (cs : List Int) : St := { env := [(7, .ext (.int .i64 (q : Int))), (6, .ext (.int .i64 top)), (5, .slo 327 0 cs.length 1), (0, .own 31 0)], hp := [(327, 3, cE intV64 cs), (31, 27, [.ext u, .ext (.int .i64 (p : Int))])], M := M, kb := 300, fx := [31] }
def drB (M : Mem) (u : Value) (p n : Nat) (L : List TK) (i : Nat) : St := { env := [(9, .ext (.int .i64 (i : Int))), (8, .slo 221 0 n 4), (0, .own 31 0)], hp := [(221, 49, tkC L), (31, 27, [.ext u, .ext (.int .i64 (p : Int))])], M := M, kb := 300, fx := [31] }
end
end Go.Proofs.Ytgkfmlgfmcpebaa.Sx
namespace Go.Proofs.Ytgkfmlgfmcpebaa.Sx
open Go Go.RowKit
set_option linter.unusedVariables false
set_option linter.unusedSimpArgs false
def frzE (us : Nat → Value) : List Nat → Env → Env
  | [], E => E
  | t :: r, E => (t, .ext (us t)) :: frzE us r E
theorem lk_frzE (us : Nat → Value) (E : Env) : ∀ (ts : List Nat) (t : Nat), lk (frzE us ts E) t = .ext (us t) ∨ lk (frzE us ts E) t = lk E t
  | [], t => .inr rfl
  | q :: r, t => by
    simp only [frzE, lk]
    split
    · rename_i e; subst e; exact .inl rfl
    · exact lk_frzE us E r t
open Classical in
theorem Fz.frz {z : St} {B : St → Prop} (F : Hp) (ts : List Nat) (E : Env) (R : Hp) (hc : closedH F) (hF : ∀ k x, lkH F k = some x → lkH z.hp k = some x ∧ z.kb ≤ k)
    (hE : subE E z.env) (hE2 : ∀ k, (lkH F k).isSome = true → k ∉ mentE E) (hR : subHp R z.hp) (hR2 : ∀ k, (lkH F k).isSome = true → k ∉ mentH R) (hkeep : keepLt z.kb R z.hp) (hfx : ∀ k, k < z.kb → (lkH z.hp k).isSome = true → k ∈ z.fx)
    (h : ∀ M' ρ w us, Mem.le z.M M' → HoldH ρ z.M M' F w → (∀ t, (lk z.env t).is ρ (us t)) → B { env := frzE us ts E, hp := R, M := M', kb := z.kb, fx := z.fx, fr := z.fr }) : Fz z B := fun c n a w hcx ⟨ρ, g⟩ => by
  let D : Nat → Prop := fun b => ∃ k x, (lkH F k).isSome = true ∧ ρ k = some x ∧ x.b = b
  let M' : Mem := fun b => if D b then w.heap[b]? else z.M b
  have hFz : ∀ k, (lkH F k).isSome = true → (lkH z.hp k).isSome = true ∧ z.kb ≤ k := fun k hk => by
    obtain ⟨x, hx⟩ := Option.isSome_iff_exists.1 hk
    obtain ⟨h1, h2⟩ := hF k x hx
    exact ⟨by rw [h1]; rfl, h2⟩
  have hRz : ∀ k x, lkH R k = some x → lkH z.hp k = some x := subHp_lk hR
  have hRF : ∀ k x, lkH R k = some x → lkH F k = none := fun k x hx => by
    cases e : lkH F k with
    | none => rfl
    | some y => exact absurd (mentH_lk (T := x.1) (cs := x.2) hx (.inl rfl)) (hR2 k (by rw [e]; rfl))
  have hMD : ∀ b, D b → z.M b = none := fun b ⟨k, x, hk, hx, e⟩ => by
    obtain ⟨y, hy⟩ := Option.isSome_iff_exists.1 hk
    rw [← e]; exact (g.hp k y.1 y.2 x (hF k y hy).1 hx).2.2
  have hle : Mem.le z.M M' := fun b o hb => by
    by_cases hD : D b
    · rw [hMD b hD] at hb; cases hb
    · simp only [M', if_neg hD]; exact hb
  have hhold : HoldH ρ z.M M' F w := fun k T cs b hk hb => by
    obtain ⟨⟨arr, h1⟩, _, h2⟩ := g.hp k T cs b (hF k _ hk).1 hb
    have hD : D b.b := ⟨k, b, by rw [hk]; rfl, hb, rfl⟩
    exact ⟨⟨arr, by simp only [M', if_pos hD]; exact h1.there, h1⟩, h2⟩
  refine ⟨_, ⟨ρ, ?_⟩, h M' ρ w (fun t => a.tmps.getD t undef) hle hhold g.env⟩
  refine { df := g.df, sz := g.sz, env := fun t => ?_, hp := fun j T' cs b hj hb => ?_, no := fun j T' cs hj hb => g.no j T' cs (hRz j _ hj) hb, inj := fun j j' b b' hj hj' hb hb' e => ?_, os := g.os, tape := g.tape, output := g.output, size := g.size, block := g.block, sub := fun b o hb => ?_, le := g.le.trans hle, mf := fun b hb => ?_, fix := fun j hj => keepLt_ok hkeep j (g.kl j hj) (g.fix j hj), fx := g.fx, kl := g.kl, fr := g.fr }
  · show (lk (frzE _ ts E) t).is ρ _
    rcases lk_frzE (fun t => a.tmps.getD t undef) E ts t with e | e
    · rw [e]; rfl
    · rw [e]
      rcases subE_lk hE t with e2 | e2
      · rw [e2]; trivial
      · rw [e2]; exact g.env t
  · obtain ⟨f1, f2, f3⟩ := g.hp j T' cs b (hRz j _ hj) hb
    refine ⟨f1, f2, ?_⟩
    have hnD : ¬ D b.b := fun ⟨k, x, hk, hx, e⟩ => by
      have := g.inj k j x b (hFz k hk).1 (by rw [hRz j _ hj]; rfl) hx hb e
      subst this
      rw [hRF k _ hj] at hk; cases hk
    show M' b.b = none
    simp only [M', if_neg hnD]; exact f3
  · obtain ⟨x, hx⟩ := Option.isSome_iff_exists.1 hj
    obtain ⟨x', hx'⟩ := Option.isSome_iff_exists.1 hj'
    exact g.inj j j' b b' (by rw [hRz j x hx]; rfl) (by rw [hRz j' x' hx']; rfl) hb hb' e
  · have hb : M' b = some o := hb
    by_cases hD : D b
    · simp only [M', if_pos hD] at hb; exact hb
    · simp only [M', if_neg hD] at hb; exact g.sub b o hb
  · have hb : M' b ≠ none := hb
    by_cases hD : D b
    · obtain ⟨k, x, hk, hx, e⟩ := hD
      obtain ⟨y, hy⟩ := Option.isSome_iff_exists.1 hk
      rcases (g.hp k y.1 y.2 x (hF k y hy).1 hx).2.1 with h5 | h5
      · rw [← e]; exact .inr h5
      · exfalso
        obtain ⟨k', y', h6, h7, h8⟩ := hcx.x _ h5
        have h9 := g.fix k' h6
        have h10 := g.kl k' h6
        have h11 := g.fx k' (hfx k' h10 h9)
        rw [h7] at h11
        have := g.inj k' k y' x h9 (hFz k hk).1 h11 hx h8
        have := (hFz k hk).2
        omega
    · simp only [M', if_neg hD] at hb; exact g.mf b hb
end Go.Proofs.Ytgkfmlgfmcpebaa.Sx
namespace Go.Proofs.Ytgkfmlgfmcpebaa.Sx
open Go Go.RowKit
set_option linter.unusedVariables false
set_option linter.unusedSimpArgs false
section
variable {b : Nat} {T T0 : TypeId} {Ls : List (List Value)} {k i n O : Nat}
theorem lk_famI {x : TypeId × List AV} (hO : O < b) (hi : i < Ls.length) : lkH ((O, x) :: famH b T Ls []) (i + b) = some (T, Ls[i].map .ext) := by
  simp only [lkH]
  rw [if_neg (by omega)]
  exact lkH_famI hi
theorem lk_famC {x : TypeId × List AV} (hOb : O < b) : ∀ k y, lkH ((O, x) :: famH b T Ls []) k = some y → (k = O ∧ y = x) ∨ ∃ i, ∃ hi : i < Ls.length, k = i + b ∧ y = (T, Ls[i].map .ext) := fun k y h => by
  simp only [lkH] at h
  split at h
  · rename_i e; cases h; exact .inl ⟨e.symm, rfl⟩
  · right
    unfold famH at h
    rw [List.append_nil, lkH_famB] at h
    split at h
    · rename_i hb
      cases hq : Ls[k - b]? with
      | none => rw [hq] at h; cases h
      | some l =>
        rw [hq] at h
        obtain ⟨h1, h2⟩ := List.getElem?_eq_some_iff.1 hq
        simp only [Option.map_some, Option.some.injEq] at h
        exact ⟨k - b, h1, by omega, h2 ▸ h.symm⟩
    · cases h
theorem Fz.fam {z : St} {B : St → Prop} (t m : Nat) (E : Env) (R : Hp) (hm : m = Ls.length) (ht : lk z.env t = .slo O 0 m 1) (hO : lkH z.hp O = some (T0, famC b Ls)) (hF : ∀ i (hi : i < Ls.length), lkH z.hp (i + b) = some (T, Ls[i].map .ext)) (hOb : O < b) (hkO : z.kb ≤ O)
    (hE : subE E z.env) (hE1 : hasK O (mentE E) = false) (hE2 : ltB b (mentE E) = true) (hR : subHp R z.hp) (hR1 : hasK O (mentH R) = false) (hR2 : ltB b (mentH R) = true) (hkeep : keepLt z.kb R z.hp) (hfx : ∀ k, k < z.kb → (lkH z.hp k).isSome = true → k ∈ z.fx)
    (h : ∀ M' U, Mem.le z.M M' → LLF z.M M' U Ls → B { env := (t, .ext U) :: E, hp := R, M := M', kb := z.kb, fx := z.fx, fr := z.fr }) : Fz z B := by
  have hk : ∀ k, (lkH ((O, T0, famC b Ls) :: famH b T Ls []) k).isSome = true → k = O ∨ b ≤ k := fun k hk => by
    obtain ⟨y, hy⟩ := Option.isSome_iff_exists.1 hk
    rcases lk_famC hOb k y hy with ⟨rfl, _⟩ | ⟨i, hi, rfl, _⟩
    · exact .inl rfl
    · exact .inr (by omega)
  refine Fz.frz ((O, T0, famC b Ls) :: famH b T Ls []) [t] E R (closed_fam hOb) (fun k x hx => ?_) hE (fun k h1 h2 => ?_) hR (fun k h1 h2 => ?_) hkeep hfx (fun M' ρ w us hM hh hu => ?_)
  · rcases lk_famC hOb k x hx with ⟨rfl, rfl⟩ | ⟨i, hi, rfl, rfl⟩
    · exact ⟨hO, hkO⟩
    · exact ⟨hF i hi, by omega⟩
  · rcases hk k h1 with rfl | h3
    · exact hasK_no.1 hE1 h2
    · exact ltB_no hE2 h3 h2
  · rcases hk k h1 with rfl | h3
    · exact hasK_no.1 hR1 h2
    · exact ltB_no hR2 h3 h2
  · have h1 := hu t
    rw [ht] at h1
    have h2 := borO_is hh (closed_fam hOb) _ _ (fun j hj => by
      have : j = O := by simpa [AV.ment] using hj
      subst this
      simp [lkH]) h1
    exact h M' (us t) hM (h2.fam (b := b) (T0 := T0) (T := T) (by simp [lkH]) hm fun i hi => lk_famI hOb hi)
end
end Go.Proofs.Ytgkfmlgfmcpebaa.Sx
namespace Go.Proofs.Ytgkfmlgfmcpebaa.Sx
open Go Go.RowKit
set_option linter.unusedVariables false
set_option linter.unusedSimpArgs false
set_option maxRecDepth 100000
set_option maxHeartbeats 8000000
attribute [local congr] fin_congr finG_congr stepG_congr step1_congr runOps_congr brv_congr obl_congr condK_congr LoopK_congr seqK_congr CutK_congr vc_congr DrawK_congr regK_congr CallK_congr AskK_congr newK_congr retC_congr ret1_congr retK_congr outV_congr closeK_congr genR_congr appR_congr finD_congr finGD_congr stepGD_congr stepD_congr CallK0_congr runD_congr okR_congr CallS_congr vcX_congr
attribute [local congr] Stop_congr
theorem tkC_cons (x : TK) (L : List TK) : tkC (x :: L) = [.ext (.string (bs x.pk)), .ext (.string (bs x.ts)), .ext (.int .i64 x.env), .ext (.int .i64 x.cost)] ++ tkC L := by simp [tkC, TK.c]
theorem tkC_setC : ∀ {L : List TK} {i : Nat} (h : i < L.length) (c : Int), (tkC L).set (i * 4 + 3) (.ext (.int .i64 c)) = tkC (L.set i { L[i] with cost := c })
  | x :: L, 0, _, c => by simp [tkC, TK.c]
  | x :: L, i + 1, h, c => by
    have ih := tkC_setC (L := L) (i := i) (by simpa using h) c
    rw [tkC_cons, List.set_append_right _ _ (by simp; omega), List.set_cons_succ, tkC_cons]
    congr 1
    refine Eq.trans ?_ ih
    congr 1
    simp only [List.length_cons, List.length_nil]; omega
theorem tkC_setP : ∀ {L : List TK} {i : Nat} (h : i < L.length), (tkC L).set (i * 4) (.ext (.string (bs []))) = tkC (L.set i { L[i] with pk := [] })
  | x :: L, 0, _ => by simp [tkC, TK.c]
  | x :: L, i + 1, h => by
    have ih := tkC_setP (L := L) (i := i) (by simpa using h)
    rw [tkC_cons, List.set_append_right _ _ (by simp; omega), List.set_cons_succ, tkC_cons]
    congr 1
    refine Eq.trans ?_ ih
    congr 1
    simp only [List.length_cons, List.length_nil]; omega
theorem tkC_part : ∀ {L : List TK} {i : Nat} (h : i < L.length), ((tkC L).drop (i * 4)).take 4 = [.ext (.string (bs L[i].pk)), .ext (.string (bs L[i].ts)), .ext (.int .i64 L[i].env), .ext (.int .i64 L[i].cost)]
  | x :: L, 0, _ => by simp [tkC, TK.c]
  | x :: L, i + 1, h => by
    have ih := tkC_part (L := L) (i := i) (by simpa using h)
    rw [tkC_cons, List.drop_append, List.drop_eq_nil_of_le (by simp only [List.length_cons, List.length_nil]; omega), List.nil_append]
    refine Eq.trans ?_ ih
    congr 2
    simp only [List.length_cons, List.length_nil]; omega
def renE (k k' : Nat) : Env → Env → Prop
  | [], _ => True
  | (t, v) :: r, e => ((lk e t = v ∧ hasK k v.ment = false) ∨ ∃ off, v = .own k' off ∧ lk e t = .own k off) ∧ renE k k' r e
theorem renE_lk {k k' : Nat} : ∀ {E e : Env}, renE k k' E e → ∀ t, lk E t = .unk ∨ (lk E t = lk e t ∧ k ∉ (lk E t).ment) ∨ ∃ off, lk E t = .own k' off ∧ lk e t = .own k off
  | [], e, _, t => .inl rfl
  | (d, v) :: r, e, h, t => by
    simp only [lk]
    split
    · rename_i hd
      subst hd
      rcases h.1 with ⟨h1, h2⟩ | ⟨off, h1, h2⟩
      · exact .inr (.inl ⟨h1.symm, hasK_no.1 h2⟩)
      · exact .inr (.inr ⟨off, h1, h2⟩)
    · exact renE_lk h.2 t
theorem le_ren1 {s : St} {k k' : Nat} {T : TypeId} (cs : List Value) (E : Env) (hk : lkH s.hp k = some (T, cs.map .ext)) (ha : awayB k' s = true) (hkb : s.kb ≤ k) (hfx : hasK k s.fx = false) (hE : renE k k' E s.env) (hkeep : keepLt s.kb [(k', T, cs.map .ext)] s.hp) : Le s { env := E, hp := [(k', T, cs.map .ext)], M := s.M, kb := s.kb, fx := s.fx, fr := s.fr } := fun c n ρ a w g => by
  have hne : k ≠ k' := fun e => (awayP_hp (.inl ha) k T _ hk).1 e
  let ρ' : Rho := fun j => if j = k' then ρ k else ρ j
  have hself : ρ' k' = ρ k := by simp only [ρ', if_pos rfl]
  have ho : ∀ j, j ≠ k' → ρ j = ρ' j := fun j h => by simp only [ρ', if_neg h]
  have hlk : ∀ j x, lkH [(k', T, cs.map AV.ext)] j = some x → j = k' ∧ x = (T, cs.map .ext) := fun j x h => by
    simp only [lkH] at h
    split at h
    · rename_i e; cases h; exact ⟨e.symm, rfl⟩
    · cases h
  have hks : (lkH s.hp k).isSome = true := by rw [hk]; rfl
  refine ⟨ρ', { df := g.df, sz := g.sz, env := fun t => ?_, hp := fun j T' ds b hj hb => ?_, no := fun j T' ds hj hb => ?_, inj := fun j j' b b' hj hj' hb hb' e => ?_, os := g.os, tape := g.tape, output := g.output, size := g.size, block := g.block, sub := g.sub, le := g.le, mf := g.mf, fix := fun j hj => keepLt_ok hkeep j (g.kl j hj) (g.fix j hj), fx := fun j hj => ?_, kl := g.kl, fr := g.fr }⟩
  · show (lk E t).is ρ' _
    rcases renE_lk hE t with e | ⟨e, hm⟩ | ⟨off, e1, e2⟩
    · rw [e]; trivial
    · have h1 := g.env t
      rw [← e] at h1
      refine is_agree (fun j hj => ho j fun h => ?_) h1
      subst h
      exact awayP_env (.inl ha) t (e ▸ hj)
    · have h1 := g.env t
      rw [e2] at h1
      rw [e1]
      obtain ⟨b, hb, h2⟩ := h1
      exact ⟨b, by rw [hself]; exact hb, h2⟩
  · obtain ⟨rfl, e⟩ := hlk j _ hj
    cases e
    rw [hself] at hb
    obtain ⟨⟨arr, f1⟩, f2⟩ := g.hp k _ _ b hk hb
    exact ⟨⟨arr, f1.there, f1.size, f1.le, fun p v hv => is_agree (fun m hm => absurd (mentL_get hv hm) (by rw [mentL_ext]; simp)) (f1.is p v hv)⟩, f2⟩
  · obtain ⟨rfl, e⟩ := hlk j _ hj
    cases e
    rw [hself] at hb
    exact g.no k _ _ hk hb
  · obtain ⟨x, hx⟩ := Option.isSome_iff_exists.1 hj
    obtain ⟨x', hx'⟩ := Option.isSome_iff_exists.1 hj'
    rw [(hlk j x hx).1, (hlk j' x' hx').1]
  · rw [← ho j fun h => awayP_fx (.inl ha) (h ▸ hj)]; exact g.fx j hj
theorem Fz.flat {z : St} {B : St → Prop} {k n w : Nat} {T : TypeId} (t : Nat) (cs : List Value) (E : Env) (R : Hp) (ht : lk z.env t = .slo k 0 n w) (hk : lkH z.hp k = some (T, cs.map .ext)) (hn : cs.length = n * w) (hkb : z.kb ≤ k)
    (hE : subE E z.env) (hE1 : hasK k (mentE E) = false) (hR : subHp R z.hp) (hR1 : hasK k (mentH R) = false) (hkeep : keepLt z.kb R z.hp) (hfx : ∀ k, k < z.kb → (lkH z.hp k).isSome = true → k ∈ z.fx)
    (h : ∀ M' U, Mem.le z.M M' → SlM M' w U n cs → FreshS z.M U → B { env := (t, .ext U) :: E, hp := R, M := M', kb := z.kb, fx := z.fx, fr := z.fr }) : Fz z B := by
  have hlk : ∀ j x, lkH [(k, T, cs.map AV.ext)] j = some x → j = k ∧ x = (T, cs.map .ext) := fun j x h => by
    simp only [lkH] at h
    split at h
    · rename_i e; cases h; exact ⟨e.symm, rfl⟩
    · cases h
  have hc : closedH [(k, T, cs.map AV.ext)] := fun j T' ds q hj hq => by
    obtain ⟨_, e⟩ := hlk j _ hj
    cases e
    rw [mentL_ext] at hq; cases hq
  have hs : ∀ j, (lkH [(k, T, cs.map AV.ext)] j).isSome = true → j = k := fun j hj => by
    obtain ⟨x, hx⟩ := Option.isSome_iff_exists.1 hj
    exact (hlk j x hx).1
  refine Fz.frz [(k, T, cs.map .ext)] [t] E R hc (fun j x hx => ?_) hE (fun j h1 h2 => ?_) hR (fun j h1 h2 => ?_) hkeep hfx (fun M' ρ v us hM hh hu => ?_)
  · obtain ⟨rfl, rfl⟩ := hlk j x hx
    exact ⟨hk, hkb⟩
  · exact hasK_no.1 hE1 (hs j h1 ▸ h2)
  · exact hasK_no.1 hR1 (hs j h1 ▸ h2)
  · have h1 := hu t
    rw [ht] at h1
    have h2 := borI_is hh _ _ (fun j hj => by
      have : j = k := by simpa [AV.ment] using hj
      subst this
      simp [lkH]) h1
    obtain ⟨h3, h4⟩ := h2
    have h5 := h4 T cs (by simp [lkH]) (by omega)
    rw [List.drop_zero, List.take_of_length_le (by omega)] at h5
    exact h M' (us t) hM h5 h3
section
variable {M : Mem} {K : AV → Hp → Mem → Prop}
theorem pick50_ok (u : Value) (l : List Int) (p : Nat) (L : List Int) (hL : L.length = 4) (hu : IsL M intV64 u l) (hp : p < 1000000) (hK : ∀ x ∈ L, K (.ext (.int .i64 x)) [(31, 27, [.ext u, .ext (.int .i64 ((p + 1 : Nat) : Int))]), (50, 3, cE intV64 L)] M) :
    CallS Try.prog 26 [.own 31 0, .slo 50 0 4 1] [(50, 3, cE intV64 L), (31, 27, [.ext u, .ext (.int .i64 (p : Int))])] M [] K := by
  refine inlS (cs := []) Try.mixed Try.func26 rfl (by kernel_rfl) 400 rfl rfl ?_
  simp only [Try.f26]
  (replace hb0 := true_and True); refine Go1.mk ?_; repeat' ((first | (with_reducible refine Go1.go ?_) | ((with_reducible first | refine brv_mk ?_ ?_ | refine gsplitD ?_ ?_ | refine gsplitG ?_ ?_) <;> intro h <;> (try simp only [Bool.not_eq_true', Bool.not_eq_false'] at h) <;> replace hb0 := h) | ((with_reducible refine isCall (f := 17) ?_); refine callA ?_) | ((with_reducible refine isCallS (f := 17) ?_); refine (nextI_ok 31 u l p 4 hu (by omega) (by omega) (by omega) (fun x hx0 hx1 => Stop.mk ?_))) | (refine And.intro ?_ ?_; (try simp only [sxO] at *); omega) | fail) <;> (try simp (maxSteps := 1000000) only [hb0, cE_ment, cE_len, cE_kill, hasK_nil, Nat.mul_one, hu.one, ↓hold_pre, awayP, runOps, regK, step1, newK, genR, appR, obl, buildR, Value.cells, closeK, keepH, outV, retK, ret1, retC, RetV, Option.getD, runD, stepD, afterK, undef, simprocAttr, sxB, ↓sxD, sxE, sxTab]))
  obtain ⟨j, rfl⟩ := Int.eq_ofNat_of_zero_le hx0
  have hj : j < L.length := by omega
  have hat := cE_at intV64 hj
  have hm : L[j] ∈ L := List.getElem_mem hj
  have a1 : (0 : Int) ≤ (j : Int) := by omega
  have a2 : (j : Int) < 4 := by omega
  have a3 : (j : Int) < ((4 : Nat) : Int) := by omega
  generalize L[j] = y at *
  refine Stop.go ?_
  (replace hb0 := true_and True); refine Go1.mk ?_; repeat' ((first | (with_reducible refine Go1.go ?_) | ((with_reducible first | refine brv_mk ?_ ?_ | refine gsplitD ?_ ?_ | refine gsplitG ?_ ?_) <;> intro h <;> (try simp only [Bool.not_eq_true', Bool.not_eq_false'] at h) <;> replace hb0 := h) | (refine And.intro ?_ ?_; (try simp only [sxO] at *); omega) | fail) <;> (try simp (maxSteps := 1000000) only [hb0, cE_ment, cE_len, cE_kill, hasK_nil, Nat.mul_one, hu.one, hat, a1, a2, a3, intV64, ↓hold_pre, awayP, runOps, regK, step1, newK, genR, appR, obl, buildR, Value.cells, closeK, keepH, outV, retK, ret1, retC, RetV, Option.getD, runD, stepD, afterK, undef, simprocAttr, sxB, ↓sxD, sxE, sxTab]))
  exact hK _ hm
theorem pick59_ok (u : Value) (l : List Int) (p : Nat) (L : List Int) (hL : L.length = 3) (hu : IsL M intV64 u l) (hp : p < 1000000) (hK : ∀ x ∈ L, K (.ext (.int .i64 x)) [(31, 27, [.ext u, .ext (.int .i64 ((p + 1 : Nat) : Int))]), (59, 3, cE intV64 L)] M) :
    CallS Try.prog 26 [.own 31 0, .slo 59 0 3 1] [(59, 3, cE intV64 L), (31, 27, [.ext u, .ext (.int .i64 (p : Int))])] M [] K := by
  refine inlS (cs := []) Try.mixed Try.func26 rfl (by kernel_rfl) 400 rfl rfl ?_
  simp only [Try.f26]
  (replace hb0 := true_and True); refine Go1.mk ?_; repeat' ((first | (with_reducible refine Go1.go ?_) | ((with_reducible first | refine brv_mk ?_ ?_ | refine gsplitD ?_ ?_ | refine gsplitG ?_ ?_) <;> intro h <;> (try simp only [Bool.not_eq_true', Bool.not_eq_false'] at h) <;> replace hb0 := h) | ((with_reducible refine isCall (f := 17) ?_); refine callA ?_) | ((with_reducible refine isCallS (f := 17) ?_); refine (nextI_ok 31 u l p 3 hu (by omega) (by omega) (by omega) (fun x hx0 hx1 => Stop.mk ?_))) | (refine And.intro ?_ ?_; (try simp only [sxO] at *); omega) | fail) <;> (try simp (maxSteps := 1000000) only [hb0, cE_ment, cE_len, cE_kill, hasK_nil, Nat.mul_one, hu.one, ↓hold_pre, awayP, runOps, regK, step1, newK, genR, appR, obl, buildR, Value.cells, closeK, keepH, outV, retK, ret1, retC, RetV, Option.getD, runD, stepD, afterK, undef, simprocAttr, sxB, ↓sxD, sxE, sxTab]))
  obtain ⟨j, rfl⟩ := Int.eq_ofNat_of_zero_le hx0
  have hj : j < L.length := by omega
  have hat := cE_at intV64 hj
  have hm : L[j] ∈ L := List.getElem_mem hj
  have a1 : (0 : Int) ≤ (j : Int) := by omega
  have a2 : (j : Int) < 3 := by omega
  have a3 : (j : Int) < ((3 : Nat) : Int) := by omega
  generalize L[j] = y at *
  refine Stop.go ?_
  (replace hb0 := true_and True); refine Go1.mk ?_; repeat' ((first | (with_reducible refine Go1.go ?_) | ((with_reducible first | refine brv_mk ?_ ?_ | refine gsplitD ?_ ?_ | refine gsplitG ?_ ?_) <;> intro h <;> (try simp only [Bool.not_eq_true', Bool.not_eq_false'] at h) <;> replace hb0 := h) | (refine And.intro ?_ ?_; (try simp only [sxO] at *); omega) | fail) <;> (try simp (maxSteps := 1000000) only [hb0, cE_ment, cE_len, cE_kill, hasK_nil, Nat.mul_one, hu.one, hat, a1, a2, a3, intV64, ↓hold_pre, awayP, runOps, regK, step1, newK, genR, appR, obl, buildR, Value.cells, closeK, keepH, outV, retK, ret1, retC, RetV, Option.getD, runD, stepD, afterK, undef, simprocAttr, sxB, ↓sxD, sxE, sxTab]))
  exact hK _ hm
theorem drawnO_ok (u : Value) (l : List Int) (p : Nat) (most : Nat) (hu : IsL M intV64 u l) (hp : p < 10000) (hmo : most < 1000) (hK : ∀ n L p', n = L.length → L.length ≤ most → (∀ x ∈ L, okT x) → p' ≤ p + 3000 → K (.slo 221 0 n 4) [(221, 49, tkC L), (31, 27, [.ext u, .ext (.int .i64 ((p' : Nat) : Int))])] M) :
    CallS Try.prog 11 [.own 31 0, .ext (.int .i64 (most : Int))] [(31, 27, [.ext u, .ext (.int .i64 (p : Int))])] M [] K := by
  refine inlS (cs := []) Try.mixed Try.func11 rfl (by kernel_rfl) 300 rfl rfl ?_
  simp only [Try.f11]
  have hc3 : [AV.ext (.int .i64 4), .ext (.int .i64 10), .ext (.int .i64 100)] = cE intV64 [4, 10, 100] := rfl
  have w0 : IntKind.i64.wrap ((most : Int) + 1) = ((most + 1 : Nat) : Int) := succ_i (by omega)
  (replace hb0 := true_and True); refine Go1.mk ?_; repeat' ((first | (with_reducible refine Go1.go ?_) | ((with_reducible first | refine brv_mk ?_ ?_ | refine gsplitD ?_ ?_ | refine gsplitG ?_ ?_) <;> intro h <;> (try simp only [Bool.not_eq_true', Bool.not_eq_false'] at h) <;> replace hb0 := h) | ((with_reducible refine isCall (f := 26) ?_); refine callA ?_) | ((with_reducible refine isCallS (f := 26) ?_); refine (pick3_ok u l p [4, 10, 100] rfl hu (by omega) (fun top htop => Stop.mk ?_))) | (refine And.intro ?_ ?_; (try simp only [sxO] at *); omega) | fail) <;> (try simp (maxSteps := 1000000) only [hb0, hc3, w0, hu.one, cE_ment, cE_kill, hasK_nil, ↓hold_pre, awayP, runOps, regK, step1, newK, genR, appR, obl, buildR, Value.cells, closeK, keepH, outV, retK, ret1, retC, RetV, Option.getD, runD, stepD, afterK, undef, simprocAttr, sxB, ↓sxD, sxE, sxTab]))
  have ht : 4 ≤ top ∧ top ≤ 100 := by
    have htop : top ∈ ([4, 10, 100] : List Int) := htop
    simp only [List.mem_cons, List.not_mem_nil, or_false] at htop
    omega
  refine Stop.go ?_
  (replace hb0 := true_and True); refine Go1.mk ?_; repeat' ((first | (with_reducible refine Go1.go ?_) | ((with_reducible first | refine brv_mk ?_ ?_ | refine gsplitD ?_ ?_ | refine gsplitG ?_ ?_) <;> intro h <;> (try simp only [Bool.not_eq_true', Bool.not_eq_false'] at h) <;> replace hb0 := h) | ((with_reducible refine isCall (f := 17) ?_); refine callA ?_) | ((with_reducible refine isCallS (f := 17) ?_); refine (nextI_ok 31 u l (p + 1) ((most + 1 : Nat) : Int) hu (by omega) (by omega) (by omega) (fun x hx0 hx1 => Stop.mk ?_))) | (refine And.intro ?_ ?_; (try simp only [sxO] at *); omega) | fail) <;> (try simp (maxSteps := 1000000) only [hb0, w0, hu.one, cE_ment, cE_kill, hasK_nil, ↓hold_pre, awayP, runOps, regK, step1, newK, genR, appR, obl, buildR, Value.cells, closeK, keepH, outV, retK, ret1, retC, RetV, Option.getD, runD, stepD, afterK, undef, simprocAttr, sxB, ↓sxD, sxE, sxTab]))
  obtain ⟨q0, rfl⟩ := Int.eq_ofNat_of_zero_le hx0
  refine Stop.go ?_
  clear hc3
  (replace hb0 := true_and True); refine Go1.mk ?_; repeat' ((first | (with_reducible refine Go1.go ?_) | ((with_reducible first | refine brv_mk ?_ ?_ | refine gsplitD ?_ ?_ | refine gsplitG ?_ ?_) <;> intro h <;> (try simp only [Bool.not_eq_true', Bool.not_eq_false'] at h) <;> replace hb0 := h) | (refine And.intro ?_ ?_; (try simp only [sxO] at *); omega) | fail) <;> (try simp (maxSteps := 1000000) only [hb0, hu.one, cE_ment, cE_kill, hasK_nil, ↓hold_pre, awayP, runOps, regK, step1, newK, genR, appR, obl, buildR, Value.cells, closeK, keepH, outV, retK, ret1, retC, RetV, Option.getD, runD, stepD, afterK, undef, simprocAttr, sxB, ↓sxD, sxE, sxTab]))
  refine ⟨fun d z => ∃ q cs p', d = q ∧ cs.length + q ≤ most ∧ p' ≤ p + 2 + cs.length ∧ (∀ c ∈ cs, 1 ≤ c ∧ c ≤ 100) ∧ z = drA M u p' q top cs, ⟨q0, drA M u (p + 1 + 1) q0 top [], (le_nil 5 327 3 1 rfl (.inl (by simp [awayB, mentE, mentH, mentL, AV.ment, hasK, cE_ment]))).trans (le_sub ⟨rfl, rfl, rfl, rfl, trivial⟩ ⟨by simp [lkH, drA, cE], by simp [lkH, drA], trivial⟩ rfl rfl rfl (by simp [keepLt, drA, lkH])), ⟨q0, [], p + 1 + 1, rfl, by simp only [List.length_nil]; omega, by simp only [List.length_nil]; omega, fun c hc => (by cases hc), rfl⟩⟩, ?_⟩
  rintro d z ⟨q, cs, p', rfl, hcl, hp', hcs, rfl⟩
  cases d with
  | zero =>
    have d1 : decide ((0 : Int) < ((0 : Nat) : Int)) = false := by simp
    (replace hb0 := true_and True); refine Go1.mk ?_; repeat' ((first | (with_reducible refine Go1.go ?_) | ((with_reducible first | refine brv_mk ?_ ?_ | refine gsplitD ?_ ?_ | refine gsplitG ?_ ?_) <;> intro h <;> (try simp only [Bool.not_eq_true', Bool.not_eq_false'] at h) <;> replace hb0 := h) | ((with_reducible refine isCall (f := 23) ?_); refine callA ?_) | ((with_reducible refine isCallS (f := 23) ?_); refine (tasksO_ok (by decide) rfl (by omega) (Stop.mk ?_))) | (refine And.intro ?_ ?_; (try simp only [sxO] at *); omega) | fail) <;> (try simp (maxSteps := 1000000) only [hb0, drA, d1, hu.one, cE_ment, cE_kill, hasK_nil, ↓hold_pre, awayP, runOps, regK, step1, newK, genR, appR, obl, buildR, Value.cells, closeK, keepH, outV, retK, ret1, retC, RetV, Option.getD, runD, stepD, afterK, undef, simprocAttr, sxB, ↓sxD, sxE, sxTab]))
    have hlt0 : (mkT cs).length = cs.length := mkP_len cs cs.length
    refine Stop.go ?_
    (replace hb0 := true_and True); refine Go1.mk ?_; repeat' ((first | (with_reducible refine Go1.go ?_) | ((with_reducible first | refine brv_mk ?_ ?_ | refine gsplitD ?_ ?_ | refine gsplitG ?_ ?_) <;> intro h <;> (try simp only [Bool.not_eq_true', Bool.not_eq_false'] at h) <;> replace hb0 := h) | (refine And.intro ?_ ?_; (try simp only [sxO] at *); omega) | fail) <;> (try simp (maxSteps := 1000000) only [hb0, hu.one, cE_ment, cE_kill, tkC_ment, tkC_kill, hasK_nil, ↓hold_pre, awayP, runOps, regK, step1, newK, genR, appR, obl, buildR, Value.cells, closeK, keepH, outV, retK, ret1, retC, RetV, Option.getD, runD, stepD, afterK, undef, simprocAttr, sxB, ↓sxD, sxE, sxTab]))
    refine ⟨fun d z => ∃ i L p2, d = cs.length - i ∧ i ≤ cs.length ∧ L.length = cs.length ∧ p2 ≤ p + 2 + cs.length + i ∧ (∀ x ∈ L, okT x) ∧ z = drB M u p2 cs.length L i, ⟨cs.length, drB M u p' cs.length (mkT cs) 0, le_sub ⟨rfl, rfl, rfl, trivial⟩ ⟨by simp [lkH, drB], by simp [lkH, drB], trivial⟩ rfl rfl rfl (by simp [keepLt, drB, lkH]), ⟨0, mkT cs, p', by omega, by omega, hlt0, by omega, mkT_ok hcs, rfl⟩⟩, ?_⟩
    rintro d z ⟨i, L, p2, rfl, hi, hL, hp2, hok, rfl⟩
    by_cases hlt : i < cs.length
    case neg =>
      obtain rfl : i = cs.length := by omega
      have d2 : decide ((cs.length : Int) < (cs.length : Int)) = false := by simp
      (replace hb0 := true_and True); refine Go1.mk ?_; repeat' ((first | (with_reducible refine Go1.go ?_) | ((with_reducible first | refine brv_mk ?_ ?_ | refine gsplitD ?_ ?_ | refine gsplitG ?_ ?_) <;> intro h <;> (try simp only [Bool.not_eq_true', Bool.not_eq_false'] at h) <;> replace hb0 := h) | (refine And.intro ?_ ?_; (try simp only [sxO] at *); omega) | fail) <;> (try simp (maxSteps := 1000000) only [hb0, drB, d2, hu.one, tkC_ment, tkC_kill, hasK_nil, ↓hold_pre, awayP, runOps, regK, step1, newK, genR, appR, obl, buildR, Value.cells, closeK, keepH, outV, retK, ret1, retC, RetV, Option.getD, runD, stepD, afterK, undef, simprocAttr, sxB, ↓sxD, sxE, sxTab]))
      exact hK _ L p2 hL.symm (by omega) hok (by omega)
    have d2 : decide ((i : Int) < (cs.length : Int)) = true := by rw [decide_eq_true_eq]; omega
    have b1 : (0 : Int) ≤ (i : Int) := by omega
    have b2 : (i : Int) < (cs.length : Int) := by omega
    have wi : IntKind.i64.wrap ((i : Int) + 1) = ((i + 1 : Nat) : Int) := succ_i (by omega)
    have hle := tkC_len L
    rw [hL] at hle
    (replace hb0 := true_and True); refine Go1.mk ?_; repeat' ((first | (with_reducible refine Go1.go ?_) | ((with_reducible first | refine brv_mk ?_ ?_ | refine gsplitD ?_ ?_ | refine gsplitG ?_ ?_) <;> intro h <;> (try simp only [Bool.not_eq_true', Bool.not_eq_false'] at h) <;> replace hb0 := h) | ((with_reducible refine isCall (f := 17) ?_); refine callA ?_) | ((with_reducible refine isCallS (f := 17) ?_); refine (nextI_ok 31 u l p2 3 hu (by omega) (by omega) (by omega) (fun e he0 he1 => Stop.mk ?_))) | (refine And.intro ?_ ?_; (try simp only [sxO] at *); omega) | fail) <;> (try simp (maxSteps := 1000000) only [hb0, drB, d2, b1, b2, hu.one, tkC_ment, tkC_kill, hasK_nil, ↓hold_pre, awayP, runOps, regK, step1, newK, genR, appR, obl, buildR, Value.cells, closeK, keepH, outV, retK, ret1, retC, RetV, Option.getD, runD, stepD, afterK, undef, simprocAttr, sxB, ↓sxD, sxE, sxTab]))
    have hse := tkC_set (L := L) (i := i) (by omega) e
    have hok2 : ∀ x ∈ L.set i { L[i] with env := e }, okT x := fun x hx => by
      rcases List.mem_or_eq_of_mem_set hx with h | rfl
      · exact hok x h
      · have := hok _ (List.getElem_mem (show i < L.length by omega))
        exact ⟨this.pk, this.ts, he0, by simp only; omega, this.c1, this.c2⟩
    have hin : i * 4 + 2 < cs.length * 4 := by omega
    refine Stop.go ?_
    (replace hb0 := true_and True); refine Go1.mk ?_; repeat' ((first | (with_reducible refine Go1.go ?_) | ((with_reducible first | refine brv_mk ?_ ?_ | refine gsplitD ?_ ?_ | refine gsplitG ?_ ?_) <;> intro h <;> (try simp only [Bool.not_eq_true', Bool.not_eq_false'] at h) <;> replace hb0 := h) | (refine And.intro ?_ ?_; (try simp only [sxO] at *); omega) | fail) <;> (try simp (maxSteps := 1000000) only [hb0, b1, b2, wi, hle, hse, hin, hu.one, tkC_ment, tkC_kill, hasK_nil, Nat.zero_add, ↓hold_pre, awayP, runOps, regK, step1, newK, genR, appR, obl, buildR, Value.cells, closeK, keepH, outV, retK, ret1, retC, RetV, Option.getD, runD, stepD, afterK, undef, simprocAttr, sxB, ↓sxD, sxE, sxTab]))
    exact ⟨cs.length - (i + 1), drB M u (p2 + 1) cs.length _ (i + 1), by omega, le_sub ⟨rfl, rfl, rfl, trivial⟩ ⟨by simp [lkH, drB], by simp [lkH, drB], trivial⟩ rfl rfl rfl (by simp [keepLt, drB, lkH]), i + 1, _, p2 + 1, rfl, by omega, by rw [List.length_set, hL], by omega, hok2, rfl⟩
  | succ q =>
    have d1 : decide ((0 : Int) < ((q + 1 : Nat) : Int)) = true := by rw [decide_eq_true_eq]; omega
    have w1 : IntKind.i64.wrap (((q + 1 : Nat) : Int) - 1) = ((q : Nat) : Int) := by rw [wrap_id (by omega) (by omega)]; omega
    (replace hb0 := true_and True); refine Go1.mk ?_; repeat' ((first | (with_reducible refine Go1.go ?_) | ((with_reducible first | refine brv_mk ?_ ?_ | refine gsplitD ?_ ?_ | refine gsplitG ?_ ?_) <;> intro h <;> (try simp only [Bool.not_eq_true', Bool.not_eq_false'] at h) <;> replace hb0 := h) | ((with_reducible refine isCall (f := 17) ?_); refine callA ?_) | ((with_reducible refine isCallS (f := 17) ?_); refine (nextI_ok 31 u l p' top hu (by omega) (by omega) (by omega) (fun x hx0 hx1 => Stop.mk ?_))) | (refine And.intro ?_ ?_; (try simp only [sxO] at *); omega) | fail) <;> (try simp (maxSteps := 1000000) only [hb0, drA, d1, hu.one, cE_ment, cE_kill, hasK_nil, ↓hold_pre, awayP, runOps, regK, step1, newK, genR, appR, obl, buildR, Value.cells, closeK, keepH, outV, retK, ret1, retC, RetV, Option.getD, runD, stepD, afterK, undef, simprocAttr, sxB, ↓sxD, sxE, sxTab]))
    have w2 : IntKind.i64.wrap (1 + x) = 1 + x := wrap_id (by omega) (by omega)
    have hsn : cE intV64 cs ++ [.ext (.int .i64 (1 + x))] = cE intV64 (cs ++ [1 + x]) := cE_snoc intV64 cs (1 + x)
    have hln : cs.length + 1 = (cs ++ [1 + x]).length := by simp
    refine Stop.go ?_
    (replace hb0 := true_and True); refine Go1.mk ?_; repeat' ((first | (with_reducible refine Go1.go ?_) | ((with_reducible first | refine brv_mk ?_ ?_ | refine gsplitD ?_ ?_ | refine gsplitG ?_ ?_) <;> intro h <;> (try simp only [Bool.not_eq_true', Bool.not_eq_false'] at h) <;> replace hb0 := h) | (refine And.intro ?_ ?_; (try simp only [sxO] at *); omega) | fail) <;> (try simp (maxSteps := 1000000) only [hb0, w1, w2, hsn, hu.one, cE_len, cE_ment, cE_kill, hasK_nil, ↓hold_pre, awayP, runOps, regK, step1, newK, genR, appR, obl, buildR, Value.cells, closeK, keepH, outV, retK, ret1, retC, RetV, Option.getD, runD, stepD, afterK, undef, simprocAttr, sxB, ↓sxD, sxE, sxTab]))
    exact ⟨q, drA M u (p' + 1) q top (cs ++ [1 + x]), by omega, le_sub ⟨rfl, rfl, by rw [← hln]; rfl, rfl, trivial⟩ ⟨by simp [lkH, drA], by simp [lkH, drA], trivial⟩ rfl rfl rfl (by simp [keepLt, drA, lkH]), q, _, p' + 1, rfl, by rw [← hln]; omega, by rw [← hln]; omega, fun c hc => by
      rcases List.mem_append.1 hc with h | h
      · exact hcs c h
      · rw [List.mem_singleton.1 h]; omega, rfl⟩
end
end Go.Proofs.Ytgkfmlgfmcpebaa.Sx
namespace Go.Proofs.Ytgkfmlgfmcpebaa.Sx
open Go Go.RowKit
set_option linter.unusedVariables false
set_option linter.unusedSimpArgs false
set_option maxRecDepth 100000
set_option maxHeartbeats 8000000
attribute [local congr] fin_congr finG_congr stepG_congr step1_congr runOps_congr brv_congr obl_congr condK_congr LoopK_congr seqK_congr CutK_congr vc_congr DrawK_congr regK_congr CallK_congr AskK_congr newK_congr retC_congr ret1_congr retK_congr outV_congr closeK_congr genR_congr appR_congr finD_congr finGD_congr stepGD_congr stepD_congr CallK0_congr runD_congr okR_congr CallS_congr vcX_congr
attribute [local congr] Stop_congr
theorem mem_flat_len : ∀ {P : List (List Nat)} {l : List Nat}, l ∈ P → l.length ≤ P.flatten.length
  | p :: P, l, h => by
    rw [List.flatten_cons, List.length_append]
    rcases List.mem_cons.1 h with rfl | h
    · omega
    · have := mem_flat_len h; omega
theorem divR_len {T : List TK} {n : Int} {may : Nat → Nat → Bool} {P : List (List Nat)} {e : Int} (h : divR T n may P e) : (∀ l ∈ P, l.length ≤ T.length) ∧ P.length ≤ 8 := by
  rcases h with ⟨_, rfl, _⟩ | ⟨he, m, rfl, Q, ⟨Z, hZ, hQ⟩, rfl, _⟩
  · exact ⟨fun l hl => (by cases hl), by simp⟩
  · obtain ⟨_, _, h8⟩ := errT_0 he
    cases hg : giveS may (cosN T) m Z (List.replicate m 0) (List.replicate m []) with
    | none => rw [hg] at hQ; subst hQ; exact ⟨fun l hl => (by cases hl), by simp [divO]⟩
    | some x =>
      obtain ⟨E, P⟩ := x
      rw [hg] at hQ
      subst hQ
      have hk := giveS_ok (giv_start (cosN T) m) hg
      refine ⟨fun l hl => ?_, ?_⟩
      · have h1 := mem_flat_len (P := P) hl
        rw [hk.all.length_eq, List.append_nil, List.length_reverse, hZ.1.length_eq, List.length_range] at h1
        exact h1
      · have : (divO (Option.map Prod.snd (some (E, P)))).length = m := hk.lp
        omega
section
variable {M : Mem} {K : AV → Hp → Mem → Prop}
end
end Go.Proofs.Ytgkfmlgfmcpebaa.Sx
namespace Go.Proofs.Ytgkfmlgfmcpebaa.Sx
open Go
set_option linter.unusedVariables false
structure DivD (L : List TK) (m : Nat) (P : List (List Nat)) (Z E : List Nat) : Prop where
  lon : lonZ L Z
  giv : giveS allY (cosN L) m Z (List.replicate m 0) (List.replicate m []) = some (E, P)
  ok : GivOK (cosN L) m (Z.reverse ++ []) E P
end Go.Proofs.Ytgkfmlgfmcpebaa.Sx
namespace Go.Proofs.Ytgkfmlgfmcpebaa.Sx
open Go
set_option linter.unusedVariables false
end Go.Proofs.Ytgkfmlgfmcpebaa.Sx
namespace Go.Proofs.Ytgkfmlgfmcpebaa.Sx
open Go Go.RowKit
set_option linter.unusedVariables false
set_option linter.unusedSimpArgs false
set_option maxRecDepth 100000
set_option maxHeartbeats 8000000
attribute [local congr] fin_congr finG_congr stepG_congr step1_congr runOps_congr brv_congr obl_congr condK_congr LoopK_congr seqK_congr CutK_congr vc_congr DrawK_congr regK_congr CallK_congr AskK_congr newK_congr retC_congr ret1_congr retK_congr outV_congr closeK_congr genR_congr appR_congr finD_congr finGD_congr stepGD_congr stepD_congr CallK0_congr runD_congr okR_congr CallS_congr vcX_congr
attribute [local congr] Stop_congr
theorem errT_nil (T : List TK) : errT T (((0 : Nat) : Int)) ≠ 0 := by
  unfold errT
  split <;> simp
section
variable {M : Mem} {K : AV → Hp → Mem → Prop}
def chA (M : Mem) (u raw : Value) (at_ rn : Int) : St := { env := [(9, .own 31 0), (3, .ext (.int .i64 rn)), (2, .ext (.int .i64 at_)), (1, .ext raw)], hp := [(31, 27, [u, .int .i64 0].map .ext)], M := M, kb := 0, fx := [] }
def chB (M : Mem) (raw : Value) (rn : Int) (L : List TK) : St := { env := [(10, .slo 221 0 L.length 4), (3, .ext (.int .i64 rn)), (1, .ext raw)], hp := [(221, 49, tkC L)], M := M, kb := 0, fx := [] }
def chL (M : Mem) (u raw : Value) (rn : Int) (i p : Nat) (L : List TK) : St := { env := [(11, .ext (.int .i64 (i : Int))), (10, .slo 221 0 L.length 4), (9, .own 31 0), (3, .ext (.int .i64 rn)), (1, .ext raw)], hp := [(221, 49, tkC L), (31, 27, [.ext u, .ext (.int .i64 (p : Int))])], M := M, kb := 0, fx := [] }
def chI (M : Mem) (a b : Value) (rn : Int) (i : Nat) : St := { env := [(89, .ext (.int .i64 (i : Int))), (88, .ext (.int .i64 2)), (87, .slo 87 0 2 1), (3, .ext (.int .i64 rn))], hp := [(87, 23, [.ext a, .ext b])], M := M, kb := 0, fx := [] }
theorem checks30_ok (u raw : Value) (l : List Int) (Tr : List TK) (at_ rn : Int) (hu : IsL M intV64 u l) (hR : IsR M 4 TK.c raw Tr) (hK : ∀ M', Mem.le M M' → K (.ext (.bool true)) [] M') : CallS Try.prog 8 [.ext u, .ext raw, .ext (.int .i64 at_), .ext (.int .i64 rn)] [] M [] K := by
  refine inlS (cs := [4, 17]) Try.mixed Try.func8 rfl (by kernel_rfl) 0 rfl rfl ?_
  simp only [Try.f8]
  by_cases h100 : Tr.length ≤ 100
  case neg =>
    have d1 : decide ((100 : Int) < (Tr.length : Int)) = true := by rw [decide_eq_true_eq]; omega
    (try with_reducible refine Fz.of ?_); (replace hb0 := true_and True); refine Go1.mk ?_; repeat' ((first | (with_reducible refine Go1.go ?_) | ((with_reducible first | refine brv_mk ?_ ?_ | refine gsplitD ?_ ?_ | refine gsplitG ?_ ?_) <;> intro h <;> (try simp only [Bool.not_eq_true', Bool.not_eq_false'] at h) <;> replace hb0 := h) | (((with_reducible refine isCall (f := 16) ?_); refine callA_nil (by kernel_rfl) ?_; refine (known_ok (fun M1 m1 => Stop.mk ?_)))) | (refine And.intro ?_ ?_; (try simp only [sxO] at *); omega) | fail) <;> (try simp (maxSteps := 1000000) only [hb0, hu.one, hR.one, hR.sl, hR.len, d1, hasK_nil, ↓hold_pre, awayP, runOps, regK, step1, newK, genR, appR, obl, buildR, Value.cells, closeK, keepH, outV, retK, ret1, retC, RetV, Option.getD, runD, stepD, afterK, undef, simprocAttr, sxB, ↓sxD, sxE, sxTab]))
    have hk := hK M1 m1
    refine Stop.go ?_
    (try with_reducible refine Fz.of ?_); (replace hb0 := true_and True); refine Go1.mk ?_; repeat' ((first | (with_reducible refine Go1.go ?_) | ((with_reducible first | refine brv_mk ?_ ?_ | refine gsplitD ?_ ?_ | refine gsplitG ?_ ?_) <;> intro h <;> (try simp only [Bool.not_eq_true', Bool.not_eq_false'] at h) <;> replace hb0 := h) | (refine And.intro ?_ ?_; (try simp only [sxO] at *); omega) | fail) <;> (try simp (maxSteps := 1000000) only [hb0, hasK_nil, ↓hold_pre, awayP, runOps, regK, step1, newK, genR, appR, obl, buildR, Value.cells, closeK, keepH, outV, retK, ret1, retC, RetV, Option.getD, runD, stepD, afterK, undef, simprocAttr, sxB, ↓sxD, sxE, sxTab]))
    exact hk
  have d1 : decide ((100 : Int) < (Tr.length : Int)) = false := by rw [decide_eq_false_iff_not]; omega
  (try with_reducible refine Fz.of ?_); (replace hb0 := true_and True); refine Go1.mk ?_; repeat' ((first | (with_reducible refine Go1.go ?_) | ((with_reducible first | refine brv_mk ?_ ?_ | refine gsplitD ?_ ?_ | refine gsplitG ?_ ?_) <;> intro h <;> (try simp only [Bool.not_eq_true', Bool.not_eq_false'] at h) <;> replace hb0 := h) | (refine And.intro ?_ ?_; (try simp only [sxO] at *); omega) | fail) <;> (try simp (maxSteps := 1000000) only [hb0, hu.one, hR.one, hR.sl, hR.len, d1, hasK_nil, ↓hold_pre, awayP, runOps, regK, step1, newK, genR, appR, obl, buildR, Value.cells, closeK, keepH, outV, retK, ret1, retC, RetV, Option.getD, runD, stepD, afterK, undef, simprocAttr, sxB, ↓sxD, sxE, sxTab]))
  clear d1
  refine ⟨fun z => z = chA M u raw at_ rn, ?_, ?_⟩
  · (try with_reducible refine Fz.of ?_); (replace hb0 := true_and True); refine Go1.mk ?_; repeat' ((first | (with_reducible refine Go1.go ?_) | ((with_reducible first | refine brv_mk ?_ ?_ | refine gsplitD ?_ ?_ | refine gsplitG ?_ ?_) <;> intro h <;> (try simp only [Bool.not_eq_true', Bool.not_eq_false'] at h) <;> replace hb0 := h) | (refine And.intro ?_ ?_; (try simp only [sxO] at *); omega) | fail) <;> (try simp (maxSteps := 1000000) only [hb0, hu.one, hR.one, hasK_nil, ↓hold_pre, awayP, runOps, regK, step1, newK, genR, appR, obl, buildR, Value.cells, closeK, keepH, outV, retK, ret1, retC, RetV, Option.getD, runD, stepD, afterK, undef, simprocAttr, sxB, ↓sxD, sxE, sxTab]))
    exact ⟨chA M u raw at_ rn, le_ren1 (k := 32) (k' := 31) [u, .int .i64 0] _ (by simp [lkH]) (by simp [awayB, mentE, mentH, mentL, AV.ment, hasK]) (Nat.zero_le _) rfl ⟨.inr ⟨0, rfl, rfl⟩, .inl ⟨rfl, rfl⟩, .inl ⟨rfl, rfl⟩, .inl ⟨rfl, rfl⟩, trivial⟩ (keepLt0 _), rfl⟩
  rintro z rfl
  (try with_reducible refine Fz.of ?_); (replace hb0 := true_and True); refine Go1.mk ?_; repeat' ((first | (with_reducible refine Go1.go ?_) | ((with_reducible first | refine brv_mk ?_ ?_ | refine gsplitD ?_ ?_ | refine gsplitG ?_ ?_) <;> intro h <;> (try simp only [Bool.not_eq_true', Bool.not_eq_false'] at h) <;> replace hb0 := h) | ((with_reducible refine isCall (f := 11) ?_); refine callA ?_) | ((with_reducible refine isCallS (f := 11) ?_); refine (drawnO_ok u l 0 9 hu (by omega) (by omega) (fun n L p' hn hl hok hp => Stop.mk ?_))) | (refine And.intro ?_ ?_; (try simp only [sxO] at *); omega) | fail) <;> (try simp (maxSteps := 1000000) only [hb0, chA, hu.one, hR.one, hasK_nil, ↓hold_pre, awayP, runOps, regK, step1, newK, genR, appR, obl, buildR, Value.cells, closeK, keepH, outV, retK, ret1, retC, RetV, Option.getD, runD, stepD, afterK, undef, simprocAttr, sxB, ↓sxD, sxE, sxTab]))
  subst hn
  refine Stop.go ?_
  (try with_reducible refine Fz.of ?_); (replace hb0 := true_and True); refine Go1.mk ?_; repeat' ((first | (with_reducible refine Go1.go ?_) | ((with_reducible first | refine brv_mk ?_ ?_ | refine gsplitD ?_ ?_ | refine gsplitG ?_ ?_) <;> intro h <;> (try simp only [Bool.not_eq_true', Bool.not_eq_false'] at h) <;> replace hb0 := h) | (refine And.intro ?_ ?_; (try simp only [sxO] at *); omega) | fail) <;> (try simp (maxSteps := 1000000) only [hb0, hu.one, hR.one, tkC_ment, tkC_kill, hasK_nil, ↓hold_pre, awayP, runOps, regK, step1, newK, genR, appR, obl, buildR, Value.cells, closeK, keepH, outV, retK, ret1, retC, RetV, Option.getD, runD, stepD, afterK, undef, simprocAttr, sxB, ↓sxD, sxE, sxTab]))
  refine ⟨fun z => ∃ L, L.length ≤ 65 ∧ z = chB M raw rn L, ?_, ?_⟩
  case refine_1 =>
    by_cases h0 : 0 < L.length
    case neg =>
      have d1 : decide ((0 : Int) < (L.length : Int)) = false := by rw [decide_eq_false_iff_not]; omega
      (try with_reducible refine Fz.of ?_); (replace hb0 := true_and True); refine Go1.mk ?_; repeat' ((first | (with_reducible refine Go1.go ?_) | ((with_reducible first | refine brv_mk ?_ ?_ | refine gsplitD ?_ ?_ | refine gsplitG ?_ ?_) <;> intro h <;> (try simp only [Bool.not_eq_true', Bool.not_eq_false'] at h) <;> replace hb0 := h) | (refine And.intro ?_ ?_; (try simp only [sxO] at *); omega) | fail) <;> (try simp (maxSteps := 1000000) only [hb0, d1, hu.one, hR.one, tkC_ment, tkC_kill, hasK_nil, ↓hold_pre, awayP, runOps, regK, step1, newK, genR, appR, obl, buildR, Value.cells, closeK, keepH, outV, retK, ret1, retC, RetV, Option.getD, runD, stepD, afterK, undef, simprocAttr, sxB, ↓sxD, sxE, sxTab]))
      exact ⟨chB M raw rn L, le_sub ⟨rfl, rfl, rfl, trivial⟩ ⟨by simp [lkH], trivial⟩ rfl rfl rfl (by simp [keepLt]), L, by omega, rfl⟩
    have d1 : decide ((0 : Int) < (L.length : Int)) = true := by rw [decide_eq_true_eq]; omega
    (try with_reducible refine Fz.of ?_); (replace hb0 := true_and True); refine Go1.mk ?_; repeat' ((first | (with_reducible refine Go1.go ?_) | ((with_reducible first | refine brv_mk ?_ ?_ | refine gsplitD ?_ ?_ | refine gsplitG ?_ ?_) <;> intro h <;> (try simp only [Bool.not_eq_true', Bool.not_eq_false'] at h) <;> replace hb0 := h) | (((with_reducible refine isCall (f := 12) ?_); refine callA_nil (by kernel_rfl) ?_; refine (fold_ok at_ L.length (Stop.mk ?_)))) | (refine And.intro ?_ ?_; (try simp only [sxO] at *); omega) | fail) <;> (try simp (maxSteps := 1000000) only [hb0, d1, hu.one, hR.one, tkC_ment, tkC_kill, hasK_nil, ↓hold_pre, awayP, runOps, regK, step1, newK, genR, appR, obl, buildR, Value.cells, closeK, keepH, outV, retK, ret1, retC, RetV, Option.getD, runD, stepD, afterK, undef, simprocAttr, sxB, ↓sxD, sxE, sxTab]))
    obtain ⟨i, hi, hiL⟩ : ∃ i : Nat, foldI at_ L.length = (i : Int) ∧ i < L.length := by
      obtain ⟨f1, f2⟩ := foldI_bd1 at_ L.length (by omega) (by omega)
      exact ⟨(foldI at_ L.length).toNat, by omega, by omega⟩
    rw [hi]
    refine Stop.go ?_
    (try with_reducible refine Fz.of ?_); (replace hb0 := true_and True); refine Go1.mk ?_; repeat' ((first | (with_reducible refine Go1.go ?_) | ((with_reducible first | refine brv_mk ?_ ?_ | refine gsplitD ?_ ?_ | refine gsplitG ?_ ?_) <;> intro h <;> (try simp only [Bool.not_eq_true', Bool.not_eq_false'] at h) <;> replace hb0 := h) | (((with_reducible refine isCall (f := 12) ?_); refine callA_nil (by kernel_rfl) ?_; refine (fold_ok _ 6 (Stop.mk ?_)))) | (refine And.intro ?_ ?_; (try simp only [sxO] at *); omega) | fail) <;> (try simp (maxSteps := 1000000) only [hb0, hu.one, hR.one, tkC_ment, tkC_kill, hasK_nil, ↓hold_pre, awayP, runOps, regK, step1, newK, genR, appR, obl, buildR, Value.cells, closeK, keepH, outV, retK, ret1, retC, RetV, Option.getD, runD, stepD, afterK, undef, simprocAttr, sxB, ↓sxD, sxE, sxTab]))
    obtain ⟨c1, c2⟩ := foldI_bd1 (IntKind.i64.wrap (at_.tdiv 11)) 6 (by omega) (by omega)
    generalize foldI (IntKind.i64.wrap (at_.tdiv 11)) 6 = c at *
    have b1 : (0 : Int) ≤ (i : Int) := by omega
    have b2 : (i : Int) < (L.length : Int) := by omega
    have hle := tkC_len L
    have hout : ∀ x : TK, (L.set i x).length ≤ 65 := fun x => by rw [List.length_set]; omega
    rcases (show c = 0 ∨ c = 1 ∨ c = 2 ∨ c = 3 ∨ c = 4 ∨ c = 5 by omega) with rfl | rfl | rfl | rfl | rfl | rfl
    · have hc4 : [AV.ext (.int .i64 0), .ext (.int .i64 (-1)), .ext (.int .i64 1048576), .ext (.int .i64 1048577)] = cE intV64 [0, -1, 1048576, 1048577] := rfl
      refine Stop.go ?_
      (try with_reducible refine Fz.of ?_); (replace hb0 := true_and True); refine Go1.mk ?_; repeat' ((first | (with_reducible refine Go1.go ?_) | ((with_reducible first | refine brv_mk ?_ ?_ | refine gsplitD ?_ ?_ | refine gsplitG ?_ ?_) <;> intro h <;> (try simp only [Bool.not_eq_true', Bool.not_eq_false'] at h) <;> replace hb0 := h) | ((with_reducible refine isCall (f := 26) ?_); refine callA ?_) | ((with_reducible refine isCallS (f := 26) ?_); refine (pick50_ok u l p' [0, -1, 1048576, 1048577] rfl hu (by omega) (fun y _ => Stop.mk ?_))) | (refine And.intro ?_ ?_; (try simp only [sxO] at *); omega) | fail) <;> (try simp (maxSteps := 1000000) only [hb0, hc4, hu.one, hR.one, cE_ment, cE_kill, tkC_ment, tkC_kill, hasK_nil, ↓hold_pre, awayP, runOps, regK, step1, newK, genR, appR, obl, buildR, Value.cells, closeK, keepH, outV, retK, ret1, retC, RetV, Option.getD, runD, stepD, afterK, undef, simprocAttr, sxB, ↓sxD, sxE, sxTab]))
      have hse := tkC_setC hiL y
      have hin : i * 4 + 3 < L.length * 4 := by omega
      refine Stop.go ?_
      (try with_reducible refine Fz.of ?_); (replace hb0 := true_and True); refine Go1.mk ?_; repeat' ((first | (with_reducible refine Go1.go ?_) | ((with_reducible first | refine brv_mk ?_ ?_ | refine gsplitD ?_ ?_ | refine gsplitG ?_ ?_) <;> intro h <;> (try simp only [Bool.not_eq_true', Bool.not_eq_false'] at h) <;> replace hb0 := h) | (refine And.intro ?_ ?_; (try simp only [sxO] at *); omega) | fail) <;> (try simp (maxSteps := 1000000) only [hb0, b1, b2, hle, hse, hin, hu.one, hR.one, cE_ment, cE_kill, tkC_ment, tkC_kill, hasK_nil, Nat.zero_add, ↓hold_pre, awayP, runOps, regK, step1, newK, genR, appR, obl, buildR, Value.cells, closeK, keepH, outV, retK, ret1, retC, RetV, Option.getD, runD, stepD, afterK, undef, simprocAttr, sxB, ↓sxD, sxE, sxTab]))
      exact ⟨chB M raw rn (L.set i { L[i] with cost := y }), le_sub ⟨by simp only [List.length_set]; rfl, rfl, rfl, trivial⟩ ⟨by simp [lkH], trivial⟩ rfl rfl rfl (keepLt0 _), _, hout _, rfl⟩
    · have hc4 : [AV.ext (.int .i64 (-1)), .ext (.int .i64 63), .ext (.int .i64 64)] = cE intV64 [-1, 63, 64] := rfl
      refine Stop.go ?_
      (try with_reducible refine Fz.of ?_); (replace hb0 := true_and True); refine Go1.mk ?_; repeat' ((first | (with_reducible refine Go1.go ?_) | ((with_reducible first | refine brv_mk ?_ ?_ | refine gsplitD ?_ ?_ | refine gsplitG ?_ ?_) <;> intro h <;> (try simp only [Bool.not_eq_true', Bool.not_eq_false'] at h) <;> replace hb0 := h) | ((with_reducible refine isCall (f := 26) ?_); refine callA ?_) | ((with_reducible refine isCallS (f := 26) ?_); refine (pick59_ok u l p' [-1, 63, 64] rfl hu (by omega) (fun y _ => Stop.mk ?_))) | (refine And.intro ?_ ?_; (try simp only [sxO] at *); omega) | fail) <;> (try simp (maxSteps := 1000000) only [hb0, hc4, hu.one, hR.one, cE_ment, cE_kill, tkC_ment, tkC_kill, hasK_nil, ↓hold_pre, awayP, runOps, regK, step1, newK, genR, appR, obl, buildR, Value.cells, closeK, keepH, outV, retK, ret1, retC, RetV, Option.getD, runD, stepD, afterK, undef, simprocAttr, sxB, ↓sxD, sxE, sxTab]))
      have hse := tkC_set hiL y
      have hin : i * 4 + 2 < L.length * 4 := by omega
      refine Stop.go ?_
      (try with_reducible refine Fz.of ?_); (replace hb0 := true_and True); refine Go1.mk ?_; repeat' ((first | (with_reducible refine Go1.go ?_) | ((with_reducible first | refine brv_mk ?_ ?_ | refine gsplitD ?_ ?_ | refine gsplitG ?_ ?_) <;> intro h <;> (try simp only [Bool.not_eq_true', Bool.not_eq_false'] at h) <;> replace hb0 := h) | (refine And.intro ?_ ?_; (try simp only [sxO] at *); omega) | fail) <;> (try simp (maxSteps := 1000000) only [hb0, b1, b2, hle, hse, hin, hu.one, hR.one, cE_ment, cE_kill, tkC_ment, tkC_kill, hasK_nil, Nat.zero_add, ↓hold_pre, awayP, runOps, regK, step1, newK, genR, appR, obl, buildR, Value.cells, closeK, keepH, outV, retK, ret1, retC, RetV, Option.getD, runD, stepD, afterK, undef, simprocAttr, sxB, ↓sxD, sxE, sxTab]))
      exact ⟨chB M raw rn (L.set i { L[i] with env := y }), le_sub ⟨by simp only [List.length_set]; rfl, rfl, rfl, trivial⟩ ⟨by simp [lkH], trivial⟩ rfl rfl rfl (keepLt0 _), _, hout _, rfl⟩
    · have hse : (tkC L).set (i * 4) (.ext (.string ⟨#[]⟩)) = _ := tkC_setP hiL
      have hin : i * 4 < L.length * 4 := by omega
      refine Stop.go ?_
      (try with_reducible refine Fz.of ?_); (replace hb0 := true_and True); refine Go1.mk ?_; repeat' ((first | (with_reducible refine Go1.go ?_) | ((with_reducible first | refine brv_mk ?_ ?_ | refine gsplitD ?_ ?_ | refine gsplitG ?_ ?_) <;> intro h <;> (try simp only [Bool.not_eq_true', Bool.not_eq_false'] at h) <;> replace hb0 := h) | (refine And.intro ?_ ?_; (try simp only [sxO] at *); omega) | fail) <;> (try simp (maxSteps := 1000000) only [hb0, b1, b2, hle, hse, hin, hu.one, hR.one, tkC_ment, tkC_kill, hasK_nil, Nat.zero_add, ↓hold_pre, awayP, runOps, regK, step1, newK, genR, appR, obl, buildR, Value.cells, closeK, keepH, outV, retK, ret1, retC, RetV, Option.getD, runD, stepD, afterK, undef, simprocAttr, sxB, ↓sxD, sxE, sxTab]))
      exact ⟨chB M raw rn (L.set i { L[i] with pk := [] }), le_sub ⟨by simp only [List.length_set]; rfl, rfl, rfl, trivial⟩ ⟨by simp [lkH], trivial⟩ rfl rfl rfl (keepLt0 _), _, hout _, rfl⟩
    · refine Stop.go ?_
      (try with_reducible refine Fz.of ?_); (replace hb0 := true_and True); refine Go1.mk ?_; repeat' ((first | (with_reducible refine Go1.go ?_) | ((with_reducible first | refine brv_mk ?_ ?_ | refine gsplitD ?_ ?_ | refine gsplitG ?_ ?_) <;> intro h <;> (try simp only [Bool.not_eq_true', Bool.not_eq_false'] at h) <;> replace hb0 := h) | (refine And.intro ?_ ?_; (try simp only [sxO] at *); omega) | fail) <;> (try simp (maxSteps := 1000000) only [hb0, hu.one, hR.one, tkC_ment, tkC_kill, hasK_nil, ↓hold_pre, awayP, runOps, regK, step1, newK, genR, appR, obl, buildR, Value.cells, closeK, keepH, outV, retK, ret1, retC, RetV, Option.getD, runD, stepD, afterK, undef, simprocAttr, sxB, ↓sxD, sxE, sxTab]))
      refine ⟨fun d z => ∃ p L', d = 65 - L'.length ∧ L.length ≤ L'.length ∧ L'.length ≤ 65 ∧ p + L.length ≤ p' + L'.length ∧ z = chL M u raw rn i p L', ⟨_, chL M u raw rn i p' L, le_sub ⟨rfl, rfl, rfl, rfl, rfl, trivial⟩ ⟨by simp [lkH], by simp [lkH], trivial⟩ rfl rfl rfl (keepLt0 _), ⟨p', L, rfl, by omega, by omega, by omega, rfl⟩⟩, ?_⟩
      rintro d z ⟨p2, L', rfl, hl1, hl2, hp2, rfl⟩
      (try with_reducible refine Fz.of ?_); (replace hb0 := true_and True); refine Go1.mk ?_; repeat' ((first | (with_reducible refine Go1.go ?_) | ((with_reducible first | refine brv_mk ?_ ?_ | refine gsplitD ?_ ?_ | refine gsplitG ?_ ?_) <;> intro h <;> (try simp only [Bool.not_eq_true', Bool.not_eq_false'] at h) <;> replace hb0 := h) | ((with_reducible refine isCall (f := 17) ?_); refine callA ?_) | ((with_reducible refine isCallS (f := 17) ?_); refine (nextI_ok 31 u l p2 2 hu (by omega) (by omega) (by omega) (fun y hy0 hy1 => Stop.mk ?_))) | (refine And.intro ?_ ?_; (try simp only [sxO] at *); omega) | fail) <;> (try simp (maxSteps := 1000000) only [hb0, chL, hu.one, hR.one, tkC_ment, tkC_kill, hasK_nil, ↓hold_pre, awayP, runOps, regK, step1, newK, genR, appR, obl, buildR, Value.cells, closeK, keepH, outV, retK, ret1, retC, RetV, Option.getD, runD, stepD, afterK, undef, simprocAttr, sxB, ↓sxD, sxE, sxTab]))
      have w1 : IntKind.i64.wrap (64 + y) = 64 + y := wrap_id (by omega) (by omega)
      by_cases hlt : (L'.length : Int) < 64 + y
      case neg =>
        have d2 : decide ((L'.length : Int) < 64 + y) = false := decide_eq_false hlt
        refine Stop.go ?_
        (try with_reducible refine Fz.of ?_); (replace hb0 := true_and True); refine Go1.mk ?_; repeat' ((first | (with_reducible refine Go1.go ?_) | ((with_reducible first | refine brv_mk ?_ ?_ | refine gsplitD ?_ ?_ | refine gsplitG ?_ ?_) <;> intro h <;> (try simp only [Bool.not_eq_true', Bool.not_eq_false'] at h) <;> replace hb0 := h) | (refine And.intro ?_ ?_; (try simp only [sxO] at *); omega) | fail) <;> (try simp (maxSteps := 1000000) only [hb0, w1, d2, hu.one, hR.one, tkC_ment, tkC_kill, hasK_nil, ↓hold_pre, awayP, runOps, regK, step1, newK, genR, appR, obl, buildR, Value.cells, closeK, keepH, outV, retK, ret1, retC, RetV, Option.getD, runD, stepD, afterK, undef, simprocAttr, sxB, ↓sxD, sxE, sxTab]))
        exact ⟨chB M raw rn L', le_sub ⟨rfl, rfl, rfl, trivial⟩ ⟨by simp [lkH], trivial⟩ rfl rfl rfl (keepLt0 _), L', by omega, rfl⟩
      have d2 : decide ((L'.length : Int) < 64 + y) = true := decide_eq_true hlt
      have hle2 := tkC_len L'
      have hin : i * 4 + 4 ≤ L'.length * 4 := by omega
      have hpt := tkC_part (L := L') (i := i) (by omega)
      have happ := tkC_app L' (L'[i]'(by omega))
      have b3 : (i : Int) < (L'.length : Int) := by omega
      have hln : (L' ++ [L'[i]'(by omega)]).length = L'.length + 1 := by simp
      generalize L'[i]'(by omega) = xi at *
      refine Stop.go ?_
      (try with_reducible refine Fz.of ?_); (replace hb0 := true_and True); refine Go1.mk ?_; repeat' ((first | (with_reducible refine Go1.go ?_) | ((with_reducible first | refine brv_mk ?_ ?_ | refine gsplitD ?_ ?_ | refine gsplitG ?_ ?_) <;> intro h <;> (try simp only [Bool.not_eq_true', Bool.not_eq_false'] at h) <;> replace hb0 := h) | (refine And.intro ?_ ?_; (try simp only [sxO] at *); omega) | fail) <;> (try simp (maxSteps := 1000000) only [hb0, w1, d2, b1, b3, hle2, hin, hpt, happ, hu.one, hR.one, tkC_ment, tkC_kill, hasK_nil, Nat.zero_add, ↓hold_pre, awayP, runOps, regK, step1, newK, genR, appR, obl, buildR, Value.cells, closeK, keepH, outV, retK, ret1, retC, RetV, Option.getD, runD, stepD, afterK, undef, simprocAttr, sxB, ↓sxD, sxE, sxTab]))
      exact ⟨65 - (L' ++ [xi]).length, chL M u raw rn i (p2 + 1) (L' ++ [xi]), by omega, le_sub ⟨rfl, by rw [hln]; rfl, rfl, rfl, rfl, trivial⟩ ⟨by simp [lkH], by simp [lkH], trivial⟩ rfl rfl rfl (keepLt0 _), p2 + 1, _, rfl, by omega, by omega, by omega, rfl⟩
    · refine Stop.go ?_
      (try with_reducible refine Fz.of ?_); (replace hb0 := true_and True); refine Go1.mk ?_; repeat' ((first | (with_reducible refine Go1.go ?_) | ((with_reducible first | refine brv_mk ?_ ?_ | refine gsplitD ?_ ?_ | refine gsplitG ?_ ?_) <;> intro h <;> (try simp only [Bool.not_eq_true', Bool.not_eq_false'] at h) <;> replace hb0 := h) | (refine And.intro ?_ ?_; (try simp only [sxO] at *); omega) | fail) <;> (try simp (maxSteps := 1000000) only [hb0, hu.one, hR.one, tkC_ment, tkC_kill, hasK_nil, ↓hold_pre, awayP, runOps, regK, step1, newK, genR, appR, obl, buildR, Value.cells, closeK, keepH, outV, retK, ret1, retC, RetV, Option.getD, runD, stepD, afterK, undef, simprocAttr, sxB, ↓sxD, sxE, sxTab]))
      exact ⟨chB M raw rn L, le_sub ⟨rfl, rfl, rfl, trivial⟩ ⟨by simp [lkH], trivial⟩ rfl rfl rfl (keepLt0 _), L, by omega, rfl⟩
    · refine Stop.go ?_
      (try with_reducible refine Fz.of ?_); (replace hb0 := true_and True); refine Go1.mk ?_; repeat' ((first | (with_reducible refine Go1.go ?_) | ((with_reducible first | refine brv_mk ?_ ?_ | refine gsplitD ?_ ?_ | refine gsplitG ?_ ?_) <;> intro h <;> (try simp only [Bool.not_eq_true', Bool.not_eq_false'] at h) <;> replace hb0 := h) | (refine And.intro ?_ ?_; (try simp only [sxO] at *); omega) | fail) <;> (try simp (maxSteps := 1000000) only [hb0, hu.one, hR.one, tkC_ment, tkC_kill, hasK_nil, ↓hold_pre, awayP, runOps, regK, step1, newK, genR, appR, obl, buildR, Value.cells, closeK, keepH, outV, retK, ret1, retC, RetV, Option.getD, runD, stepD, afterK, undef, simprocAttr, sxB, ↓sxD, sxE, sxTab]))
      exact ⟨chB M raw rn L, le_sub ⟨rfl, rfl, rfl, trivial⟩ ⟨by simp [lkH], trivial⟩ rfl rfl rfl (keepLt0 _), L, by omega, rfl⟩
  rintro z ⟨L2, hL2, rfl⟩
  refine Fz.flat (k := 221) (n := L2.length) (w := 4) (T := 49) 10 (L2.flatMap TK.c) [(3, .ext (.int .i64 rn)), (1, .ext raw)] [] rfl (by simp [chB, lkH, tkC]) (flat_len (z := 4) (f := TK.c) (fun _ => rfl) L2) (Nat.zero_le _) ⟨rfl, rfl, trivial⟩ rfl trivial rfl (keepLt0 _) (fun k hk _ => absurd hk (Nat.not_lt_zero k)) (fun M2 X m2 hX _ => ?_)
  have m2 : Mem.le M M2 := m2
  have hX : IsR M2 4 TK.c X L2 := hX
  have hR2 := hR.le m2
  (try with_reducible refine Fz.of ?_); (replace hb0 := true_and True); refine Go1.mk ?_; repeat' ((first | (with_reducible refine Go1.go ?_) | ((with_reducible first | refine brv_mk ?_ ?_ | refine gsplitD ?_ ?_ | refine gsplitG ?_ ?_) <;> intro h <;> (try simp only [Bool.not_eq_true', Bool.not_eq_false'] at h) <;> replace hb0 := h) | (refine And.intro ?_ ?_; (try simp only [sxO] at *); omega) | fail) <;> (try simp (maxSteps := 1000000) only [hb0, chB, hX.one, hR2.one, hasK_nil, ↓hold_pre, awayP, runOps, regK, step1, newK, genR, appR, obl, buildR, Value.cells, closeK, keepH, outV, retK, ret1, retC, RetV, Option.getD, runD, stepD, afterK, undef, simprocAttr, sxB, ↓sxD, sxE, sxTab]))
  refine ⟨fun d z => ∃ i M3, d = 2 - i ∧ i ≤ 2 ∧ Mem.le M2 M3 ∧ z = chI M3 raw X rn i, ⟨2, chI M2 raw X rn 0, le_sub ⟨rfl, rfl, rfl, rfl, trivial⟩ ⟨rfl, trivial⟩ rfl rfl rfl (keepLt0 _), ⟨0, M2, by omega, by omega, Mem.le.refl _, rfl⟩⟩, ?_⟩
  rintro d z ⟨i, M3, rfl, hi, m3, rfl⟩
  by_cases hlt : i < 2
  case neg =>
    obtain rfl : i = 2 := by omega
    have d1 : decide (((2 : Nat) : Int) < 2) = false := by simp
    (try with_reducible refine Fz.of ?_); (replace hb0 := true_and True); refine Go1.mk ?_; repeat' ((first | (with_reducible refine Go1.go ?_) | ((with_reducible first | refine brv_mk ?_ ?_ | refine gsplitD ?_ ?_ | refine gsplitG ?_ ?_) <;> intro h <;> (try simp only [Bool.not_eq_true', Bool.not_eq_false'] at h) <;> replace hb0 := h) | (((with_reducible refine isCall (f := 16) ?_); refine callA_nil (by kernel_rfl) ?_; refine (known_ok (fun M5 m5 => Stop.mk ?_)))) | (refine And.intro ?_ ?_; (try simp only [sxO] at *); omega) | fail) <;> (try simp (maxSteps := 1000000) only [hb0, chI, d1, hasK_nil, ↓hold_pre, awayP, runOps, regK, step1, newK, genR, appR, obl, buildR, Value.cells, closeK, keepH, outV, retK, ret1, retC, RetV, Option.getD, runD, stepD, afterK, undef, simprocAttr, sxB, ↓sxD, sxE, sxTab]))
    have hk := hK M5 (m2.trans (m3.trans m5))
    refine Stop.go ?_
    (try with_reducible refine Fz.of ?_); (replace hb0 := true_and True); refine Go1.mk ?_; repeat' ((first | (with_reducible refine Go1.go ?_) | ((with_reducible first | refine brv_mk ?_ ?_ | refine gsplitD ?_ ?_ | refine gsplitG ?_ ?_) <;> intro h <;> (try simp only [Bool.not_eq_true', Bool.not_eq_false'] at h) <;> replace hb0 := h) | (refine And.intro ?_ ?_; (try simp only [sxO] at *); omega) | fail) <;> (try simp (maxSteps := 1000000) only [hb0, hasK_nil, ↓hold_pre, awayP, runOps, regK, step1, newK, genR, appR, obl, buildR, Value.cells, closeK, keepH, outV, retK, ret1, retC, RetV, Option.getD, runD, stepD, afterK, undef, simprocAttr, sxB, ↓sxD, sxE, sxTab]))
    exact hk
  have d1 : decide ((i : Int) < 2) = true := by rw [decide_eq_true_eq]; omega
  have b1 : (0 : Int) ≤ (i : Int) := by omega
  have b2 : (i : Int) < 2 := by omega
  have wi : IntKind.i64.wrap ((i : Int) + 1) = ((i + 1 : Nat) : Int) := succ_i (by omega)
  obtain ⟨Y, T, hYi, hY, hT⟩ : ∃ Y T, ([AV.ext raw, .ext X])[i]? = some (.ext Y) ∧ IsR M3 4 TK.c Y T ∧ T.length < 1000000 := by
    rcases (show i = 0 ∨ i = 1 by omega) with rfl | rfl
    · exact ⟨raw, Tr, rfl, hR2.le m3, by omega⟩
    · exact ⟨X, L2, rfl, hX.le m3, by omega⟩
  (try with_reducible refine Fz.of ?_); (replace hb0 := true_and True); refine Go1.mk ?_; repeat' ((first | (with_reducible refine Go1.go ?_) | ((with_reducible first | refine brv_mk ?_ ?_ | refine gsplitD ?_ ?_ | refine gsplitG ?_ ?_) <;> intro h <;> (try simp only [Bool.not_eq_true', Bool.not_eq_false'] at h) <;> replace hb0 := h) | (((with_reducible refine isCall (f := 13) ?_); refine callA_nil (by kernel_rfl) ?_; refine (Divide_ok hY hT rn (fun M4 A P e m4 q1 hA => Stop.mk ?_)))) | (refine And.intro ?_ ?_; (try simp only [sxO] at *); omega) | fail) <;> (try simp (maxSteps := 1000000) only [hb0, chI, d1, b1, b2, hYi, hX.one, hY.one, hR2.one, mentL_ext, hasK_nil, Nat.mul_one, Nat.zero_add, ↓hold_pre, awayP, runOps, regK, step1, newK, genR, appR, obl, buildR, Value.cells, closeK, keepH, outV, retK, ret1, retC, RetV, Option.getD, runD, stepD, afterK, undef, simprocAttr, sxB, ↓sxD, sxE, sxTab]))
  have m4 : Mem.le M3 M4 := m4
  have q1 : divR T rn allY P e := q1
  have hA : LLF M3 M4 A (LsP P) := hA
  have hY4 := hY.le m4
  have ho := hA.ll.sl.2.2
  refine Stop.go ?_
  (try with_reducible refine Fz.of ?_); (replace hb0 := true_and True); refine Go1.mk ?_; repeat' ((first | (with_reducible refine Go1.go ?_) | ((with_reducible first | refine brv_mk ?_ ?_ | refine gsplitD ?_ ?_ | refine gsplitG ?_ ?_) <;> intro h <;> (try simp only [Bool.not_eq_true', Bool.not_eq_false'] at h) <;> replace hb0 := h) | (((with_reducible refine isCall (f := 14) ?_); refine callA_nil (by kernel_rfl) ?_; refine (rDivide_ok hY4 hT rn (fun M5 B P2 e2 m5 q2 hB => Stop.mk ?_)))) | (refine And.intro ?_ ?_; (try simp only [sxO] at *); omega) | fail) <;> (try simp (maxSteps := 1000000) only [hb0, hX.one, hY4.one, hR2.one, ho, mentL_ext, hasK_nil, ↓hold_pre, awayP, runOps, regK, step1, newK, genR, appR, obl, buildR, Value.cells, closeK, keepH, outV, retK, ret1, retC, RetV, Option.getD, runD, stepD, afterK, undef, simprocAttr, sxB, ↓sxD, sxE, sxTab]))
  have m5 : Mem.le M4 M5 := m5
  have q2 : divR T rn allY P2 e2 := q2
  have hB : LLF M4 M5 B (LsP P2) := hB
  obtain ⟨rfl, rfl⟩ := divR_one q1 q2
  have hY5 := hY4.le m5
  have hA5 := hA.ll.le m5
  have ho2 := hB.ll.sl.2.2
  obtain ⟨z1, z2⟩ := divR_len q1
  have de : decide (e = e) = true := by simp
  have dB : decide (errT T rn = errT T rn) = true := by simp
  have dC : decide (bndQ T rn = bndQ T rn) = true := by simp
  have hLn : LL M5 (.slice none 0 0) (LsI []) := (LLF.nil M5).ll
  refine Stop.go ?_
  (try with_reducible refine Fz.of ?_); (replace hb0 := true_and True); refine Go1.mk ?_; repeat' ((first | (with_reducible refine Go1.go ?_) | ((with_reducible first | refine brv_mk ?_ ?_ | refine gsplitD ?_ ?_ | refine gsplitG ?_ ?_) <;> intro h <;> (try simp only [Bool.not_eq_true', Bool.not_eq_false'] at h) <;> replace hb0 := h) | (((with_reducible refine isCall (f := 24) ?_); refine callA_nil (by kernel_rfl) ?_; refine (Bound_ok hY5 hT rn ?_))) | (((with_reducible refine isCall (f := 27) ?_); refine callA_nil (by kernel_rfl) ?_; refine (rBound_ok hY5 hT rn ?_))) | (((with_reducible refine isCall (f := 18) ?_); refine callA_nil (by kernel_rfl) ?_; refine (Ends_ok (Sh := []) hY5 hT hLn (fun w hw => by cases hw) (by simp) (fun V M6 m6 hV _ => Stop.mk ?_)))) | (refine And.intro ?_ ?_; (try simp only [sxO] at *); omega) | fail) <;> (try simp (maxSteps := 1000000) only [hb0, hX.one, hY5.one, hR2.one, ho, ho2, mentL_ext, hasK_nil, ↓hold_pre, awayP, runOps, regK, step1, newK, genR, appR, obl, buildR, Value.cells, closeK, keepH, outV, retK, ret1, retC, RetV, Option.getD, runD, stepD, afterK, undef, simprocAttr, sxB, ↓sxD, sxE, sxTab]))
  have m6 : Mem.le M5 M6 := m6
  rw [endQ_err (Sh := []) (errT_nil T)] at hV
  have hV : IsL M6 intV64 V [] := hV
  rw [endQ_err (Sh := []) (errT_nil T)]
  have hY6 := hY5.le m6
  have hA6 := hA5.le m6
  have hB6 := hB.ll.le m6
  refine Stop.go ?_
  (try with_reducible refine Fz.of ?_); (replace hb0 := true_and True); refine Go1.mk ?_; repeat' ((first | (with_reducible refine Go1.go ?_) | ((with_reducible first | refine brv_mk ?_ ?_ | refine gsplitD ?_ ?_ | refine gsplitG ?_ ?_) <;> intro h <;> (try simp only [Bool.not_eq_true', Bool.not_eq_false'] at h) <;> replace hb0 := h) | (((with_reducible refine isCall (f := 28) ?_); refine callA_nil (by kernel_rfl) ?_; refine (Assign_ok (Pl := []) hY6 hT ((LLF.nil M6).ll) (fun w hw => by cases hw) (by simp) (fun M7 W P3 e3 m7 q3 hW => Stop.mk ?_)))) | (refine And.intro ?_ ?_; (try simp only [sxO] at *); omega) | fail) <;> (try simp (maxSteps := 1000000) only [hb0, hX.one, hY6.one, hR2.one, ho, ho2, hV.one, mentL_ext, hasK_nil, ↓hold_pre, awayP, runOps, regK, step1, newK, genR, appR, obl, buildR, Value.cells, closeK, keepH, outV, retK, ret1, retC, RetV, Option.getD, runD, stepD, afterK, undef, simprocAttr, sxB, ↓sxD, sxE, sxTab]))
  have m7 : Mem.le M6 M7 := m7
  have hW : LLF M6 M7 W (LsP P3) := hW
  have he3 : e3 = errT T ((([] : List (List Int)).length : Nat) : Int) := by
    rcases q3 with ⟨_, _, h⟩ | ⟨h, _⟩
    · exact h
    · exact absurd h (errT_nil T)
  subst he3
  have hY7 := hY6.le m7
  have hA7 := hA6.le m7
  have hB7 := hB6.le m7
  have ho3 := hW.ll.sl.2.2
  have dn : decide (errT T ((([] : List (List Int)).length : Nat) : Int) = 0) = false := decide_eq_false (errT_nil T)
  generalize errT T ((([] : List (List Int)).length : Nat) : Int) = e0 at *
  refine Stop.go ?_
  (try with_reducible refine Fz.of ?_); (replace hb0 := true_and True); refine Go1.mk ?_; repeat' ((first | (with_reducible refine Go1.go ?_) | ((with_reducible first | refine brv_mk ?_ ?_ | refine gsplitD ?_ ?_ | refine gsplitG ?_ ?_) <;> intro h <;> (try simp only [Bool.not_eq_true', Bool.not_eq_false'] at h) <;> replace hb0 := h) | (((with_reducible refine isCall (f := 29) ?_); refine callA_nil (by kernel_rfl) ?_; refine (tCheck_ok hY7 hT ?_))) | (((with_reducible refine isCall (f := 30) ?_); refine callA_nil (by kernel_rfl) ?_; refine (rCheck_ok hY7 hT ?_))) | (((with_reducible refine isCall (f := 15) ?_); refine callA_nil (by kernel_rfl) ?_; refine (rSame_ok hA7 hB7 (fun l hl => by have := z1 l hl; omega) (by omega) ?_))) | (refine And.intro ?_ ?_; (try simp only [sxO] at *); omega) | fail) <;> (try simp (maxSteps := 1000000) only [hb0, hX.one, hY7.one, hR2.one, ho, ho2, ho3, hV.one, de, dB, dC, dn, wi, mentL_ext, hasK_nil, ↓hold_pre, awayP, runOps, regK, step1, newK, genR, appR, obl, buildR, Value.cells, closeK, keepH, outV, retK, ret1, retC, RetV, Option.getD, runD, stepD, afterK, undef, simprocAttr, sxB, ↓sxD, sxE, sxTab]))
  exact ⟨2 - (i + 1), chI M7 raw X rn (i + 1), by omega, le_sub ⟨rfl, rfl, rfl, rfl, trivial⟩ ⟨rfl, trivial⟩ rfl rfl rfl (keepLt0 _), i + 1, M7, rfl, by omega, m3.trans (m4.trans (m5.trans (m6.trans m7))), rfl⟩
end
end Go.Proofs.Ytgkfmlgfmcpebaa.Sx
namespace Go.Proofs.Ytgkfmlgfmcpebaa.Sx
set_option linter.unusedVariables false
open Go Go.RowKit Go.ChangeShapes Go.WideShapes Go.ChangeAt
section
variable {H : Type} {enc : TypeId × Value → H} {P : Program} {W : World} {base : Nat} {spare : Nat → Bool} {held : Bool}
theorem open_tasks {t e nm st it : TypeId} {f0 f1 f2 g0 g1 : Field} {v : Value} {d : DataW H} {ps : List MemPlace} {r : Reach} {b0 : Nat} (ht : P.underlying t = some (.slice e)) (he : P.underlying e = some (.struct #[f0, f1, f2])) (hn : P.underlying nm = some (.struct #[g0, g1])) (hs : P.underlying st = some .string) (hi : P.underlying it = some (.int .i64))
    (hf : f0.type = nm ∧ f1.type = it ∧ f2.type = it ∧ g0.type = st ∧ g1.type = st) (hof : f0.offset = 0 ∧ f1.offset = 2 ∧ f2.offset = 3 ∧ g0.offset = 0 ∧ g1.offset = 1) (hc : P.cellsOf e = 4 ∧ P.cellsOf nm = 2 ∧ P.cellsOf st = 1 ∧ P.cellsOf it = 1) (hv : Value.okWide P W r b0 t v) (h : DataW.Trod enc P W base spare held t v d ps) :
    ∃ T : List TK, IsR (heapM W) 4 TK.c v T ∧ T.length ≤ maxLen ∧ True := by
  obtain ⟨c1, c2, c3, c4⟩ := hc
  obtain ⟨o0, o1, o2, p0, p1⟩ := hof
  obtain ⟨t0, t1, t2, u0, u1⟩ := hf
  obtain ⟨n, cs, h1, h2, h3⟩ := open_row ht c1 hv h
  have hl : cs.length = n * 4 := h1.size
  have one : ∀ fu (c : List Value) x, DataW.trod enc P W base spare held fu e c = some x → ∃ y : TK, c = y.c := fun fu c x hx => by
    obtain ⟨xs, k, _, _, hcl, hlen, hg⟩ := DataW.trod_struct he hx
    rw [c1] at hcl
    obtain ⟨a0, a1, a2, a3, rfl⟩ := len4 hcl
    have hlen : xs.length = 3 := hlen
    have e0 := hg 0 f0 rfl
    have e1 := hg 1 f1 rfl
    have e2 := hg 2 f2 rfl
    rw [List.getElem?_eq_getElem (by omega), t0, o0, c2] at e0
    rw [List.getElem?_eq_getElem (by omega), t1, o1, c4] at e1
    rw [List.getElem?_eq_getElem (by omega), t2, o2, c4] at e2
    obtain ⟨n1, q1, _, _⟩ := DataW.trod_int hi e1
    obtain ⟨n2, q2, _, _⟩ := DataW.trod_int hi e2
    obtain ⟨ys, k2, _, _, hcl2, hlen2, hg2⟩ := DataW.trod_struct hn e0
    have hlen2 : ys.length = 2 := hlen2
    have d0 := hg2 0 g0 rfl
    have d1 := hg2 1 g1 rfl
    rw [List.getElem?_eq_getElem (by omega), u0, p0, c3] at d0
    rw [List.getElem?_eq_getElem (by omega), u1, p1, c3] at d1
    obtain ⟨s0, q3, _, _⟩ := DataW.trod_string hs d0
    obtain ⟨s1, q4, _, _⟩ := DataW.trod_string hs d1
    refine ⟨⟨s0.data.toList, s1.data.toList, n1, n2⟩, ?_⟩
    simp at q1 q2 q3 q4
    subst q1 q2 q3 q4
    simp [TK.c, bs]
  have all : ∀ (n : Nat) (cs : List Value), cs.length = n * 4 → (∀ i, i < n → ∃ fu x, DataW.trod enc P W base spare held fu e ((cs.drop (i * 4)).take 4) = some x) → ∃ T : List TK, T.length = n ∧ cs = T.flatMap TK.c := by
    intro n
    induction n with
    | zero => intro cs hcs _; exact ⟨[], rfl, List.eq_nil_of_length_eq_zero (by omega)⟩
    | succ n ih =>
      intro cs hcs hh
      obtain ⟨fu, x, hx⟩ := hh 0 (by omega)
      obtain ⟨y, hy⟩ := one _ _ _ hx
      obtain ⟨T, hT, hd⟩ := ih (cs.drop 4) (by rw [List.length_drop]; omega) fun i hi => by
        obtain ⟨fu, x, hx⟩ := hh (i + 1) (by omega)
        refine ⟨fu, x, ?_⟩
        rw [List.drop_drop, show 4 + i * 4 = (i + 1) * 4 by omega]
        exact hx
      refine ⟨y :: T, by simp [hT], ?_⟩
      rw [List.flatMap_cons, ← hd, ← hy, Nat.zero_mul, List.drop_zero, List.take_append_drop]
  obtain ⟨T, hT, hcs⟩ := all n cs hl h3
  subst hT
  exact ⟨T, by unfold IsR; rw [← hcs]; exact h1, h2, trivial⟩
end
end Go.Proofs.Ytgkfmlgfmcpebaa.Sx
