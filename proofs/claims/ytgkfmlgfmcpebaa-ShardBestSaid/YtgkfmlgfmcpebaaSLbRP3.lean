/- Part 26 of the texts of this claim: a symbolic executor and contracts of functions. -/
import Derived.Test.YtgkfmlgfmcpebaaSLbRP2
namespace Go.Proofs.Ytgkfmlgfmcpebaa.Sx
open Go Go.RowKit
set_option linter.unusedVariables false
set_option linter.unusedSimpArgs false
set_option maxRecDepth 100000
set_option maxHeartbeats 8000000
attribute [local congr] fin_congr finG_congr stepG_congr step1_congr runOps_congr brv_congr obl_congr condK_congr LoopK_congr seqK_congr CutK_congr vc_congr DrawK_congr regK_congr CallK_congr AskK_congr newK_congr retC_congr ret1_congr retK_congr outV_congr closeK_congr genR_congr appR_congr finD_congr finGD_congr stepGD_congr stepD_congr CallK0_congr runD_congr okR_congr CallS_congr vcX_congr
attribute [local congr] Stop_congr
section
variable {M : Mem} {K : AV → Hp → Mem → Prop} {u : Value} {T : List TK}
def rbM (M : Mem) (m : Nat) (E : List Nat) (j : Nat) : St := { env := [(8, .ext (.int .i64 (j : Int))), (7, .ext (.int .i64 ((maxL (E.take j) : Nat) : Int))), (2, .slo 18 0 m 1)], hp := [(18, 3, cE natV E)], M := M, kb := 100, fx := [18] }
def rbL (M : Mem) (u : Value) (m i : Nat) (E : List Nat) (k : Nat) (a : Option Nat) : St := { env := [(10, .ext (.int .i64 (k : Int))), (9, .ext (.int .i64 (bstI a))), (2, .slo 18 0 m 1), (1, .ext (.int .i64 (i : Int))), (0, .ext u)], hp := [(18, 3, cE natV E)], M := M, kb := 100, fx := [18] }
theorem set_back {E : List Nat} {k x : Nat} (h : k < E.length) : (E.set k x).set k (E.getD k 0) = E := by
  rw [List.set_set, List.getD_eq_getElem?_getD, List.getElem?_eq_getElem h]
  exact List.set_getElem_self h
theorem rbest_ok (hu : IsR M 4 TK.c u T) (hc : chkTL T = true) {m : Nat} (hm1 : 1 ≤ m) (hm8 : m ≤ 8) : ∀ (q i : Nat) (E : List Nat) (K : AV → Hp → Mem → Prop), i + q = T.length → E.length = m → (∀ x ∈ E, x ≤ i * 1048576) → K (.ext (.int .i64 ((rbs (cosN T) (List.range' i q) E : Nat) : Int))) [(18, 3, cE natV E)] M →
    CallS Try.prog 44 [.ext u, .ext (.int .i64 (i : Int)), .slo 18 0 m 1] [(18, 3, cE natV E)] M [] K
  | 0, i, E, K, hq, hE, hEb, hK => by
    obtain ⟨hT64, hTc⟩ := chkTL_parts hc
    obtain rfl : i = T.length := by omega
    refine inlS (cs := []) Try.mixed Try.func44 rfl (by kernel_rfl) 100 rfl rfl ?_
    simp only [Try.f44]
    have l8 : (cE natV E).length = m := by rw [cE_len, hE]
    have d0 : decide ((T.length : Int) = (T.length : Int)) = true := by simp
    (replace hb0 := true_and True); refine Go1.mk ?_; repeat' ((first | (with_reducible refine Go1.go ?_) | ((with_reducible first | refine brv_mk ?_ ?_ | refine gsplitD ?_ ?_ | refine gsplitG ?_ ?_) <;> intro h <;> (try simp only [Bool.not_eq_true', Bool.not_eq_false'] at h) <;> replace hb0 := h) | (refine And.intro ?_ ?_; (try simp only [sxO] at *); omega) | fail) <;> (try simp (maxSteps := 1000000) only [hb0, hu.one, hu.len, hu.sl, d0, cE_ment, hasK_nil, ↓hold_pre, awayP, runOps, regK, step1, newK, genR, appR, obl, buildR, Value.cells, closeK, keepH, outV, retK, ret1, retC, RetV, Option.getD, runD, stepD, afterK, undef, simprocAttr, sxB, ↓sxD, sxE, sxTab]))
    refine ⟨fun d z => ∃ j, j ≤ m ∧ d = m - j ∧ z = rbM M m E j, ⟨m, rbM M m E 0, le_sub ⟨rfl, rfl, rfl, trivial⟩ ⟨rfl, trivial⟩ rfl rfl rfl (by simp [keepLt, rbM, lkH]), ⟨0, by omega, by omega, rfl⟩⟩, ?_⟩
    rintro d z ⟨j, hj, rfl, rfl⟩
    by_cases hlt : j < m
    case neg =>
      obtain rfl : j = m := by omega
      have d1 : decide ((j : Int) < (j : Int)) = false := by simp
      have ht : E.take j = E := List.take_of_length_le (by omega)
      (replace hb0 := true_and True); refine Go1.mk ?_; repeat' ((first | (with_reducible refine Go1.go ?_) | ((with_reducible first | refine brv_mk ?_ ?_ | refine gsplitD ?_ ?_ | refine gsplitG ?_ ?_) <;> intro h <;> (try simp only [Bool.not_eq_true', Bool.not_eq_false'] at h) <;> replace hb0 := h) | (refine And.intro ?_ ?_; (try simp only [sxO] at *); omega) | fail) <;> (try simp (maxSteps := 1000000) only [hb0, rbM, d1, ht, cE_ment, cE_kill, hasK_nil, ↓hold_pre, awayP, runOps, regK, step1, newK, genR, appR, obl, buildR, Value.cells, closeK, keepH, outV, retK, ret1, retC, RetV, Option.getD, runD, stepD, afterK, undef, simprocAttr, sxB, ↓sxD, sxE, sxTab]))
      exact hK
    have d1 : decide ((j : Int) < (m : Int)) = true := by rw [decide_eq_true_eq]; omega
    have b1 : (0 : Int) ≤ (j : Int) := by omega
    have b2 : (j : Int) < (m : Int) := by omega
    have wi : IntKind.i64.wrap ((j : Int) + 1) = ((j + 1 : Nat) : Int) := succ_i (by omega)
    have a1 := nat_at (E := E) (r := j) (by omega)
    have hx := maxI (maxL (E.take j)) (E.getD j 0)
    have ht : max (maxL (E.take j)) (E.getD j 0) = maxL (E.take (j + 1)) := by
      rw [List.take_add_one, List.getElem?_eq_getElem (by omega), List.getD_eq_getElem?_getD, List.getElem?_eq_getElem (by omega)]
      exact (maxL_snoc _ _).symm
    rw [ht] at hx
    (replace hb0 := true_and True); refine Go1.mk ?_; repeat' ((first | (with_reducible refine Go1.go ?_) | ((with_reducible first | refine brv_mk ?_ ?_ | refine gsplitD ?_ ?_ | refine gsplitG ?_ ?_) <;> intro h <;> (try simp only [Bool.not_eq_true', Bool.not_eq_false'] at h) <;> replace hb0 := h) | ((with_reducible refine isDraw [some 35, some 36, some 37, some 38, some 39, some 40, some 41, some 42, some 43, some 44, some 45, none] (by decide) ?_); refine draw_rule [(0, []), (1, []), (2, []), (3, []), (4, [3]), (5, [3]), (6, [3]), (7, [3]), (8, [3]), (9, []), (10, []), (11, [])] [[], [], [0, 1], [0, 1, 2], [], [], [4, 5], [4, 5, 6], [4, 5, 6, 7], [0, 1, 2, 3, 4, 5, 6, 7, 8], [0, 1, 2, 3, 4, 5, 6, 7, 8, 9], [0, 1, 2, 3, 4, 5, 6, 7, 8, 9, 10]] [35, 36, 37, 38, 39, 40, 41, 42, 43] [] (by kernel_rfl) (by kernel_rfl) (by kernel_rfl) (by kernel_rfl) (by exact trivial) ?_) | ((with_reducible refine isDraw [some 59, some 60, some 61, some 62, some 63, some 64, some 65, some 66, some 67, some 68, some 69, none] (by decide) ?_); refine draw_rule [(0, []), (1, []), (2, []), (3, []), (4, [3]), (5, [3]), (6, [3]), (7, [3]), (8, [3]), (9, []), (10, []), (11, [])] [[], [], [0, 1], [0, 1, 2], [], [], [4, 5], [4, 5, 6], [4, 5, 6, 7], [0, 1, 2, 3, 4, 5, 6, 7, 8], [0, 1, 2, 3, 4, 5, 6, 7, 8, 9], [0, 1, 2, 3, 4, 5, 6, 7, 8, 9, 10]] [59, 60, 61, 62, 63, 64, 65, 66, 67] [] (by kernel_rfl) (by kernel_rfl) (by kernel_rfl) (by kernel_rfl) (by exact trivial) ?_) | (refine And.intro ?_ ?_; (try simp only [sxO] at *); omega) | fail) <;> (try simp (maxSteps := 1000000) only [hb0, rbM, d1, b1, b2, wi, a1, hx, l8, Nat.mul_one, Nat.zero_add, cE_ment, cE_kill, hasK_nil, ↓hold_pre, awayP, runOps, regK, step1, newK, genR, appR, obl, buildR, Value.cells, closeK, keepH, outV, retK, ret1, retC, RetV, Option.getD, runD, stepD, afterK, undef, simprocAttr, sxB, ↓sxD, sxE, sxTab]))
    exact ⟨m - (j + 1), rbM M m E (j + 1), by omega, le_sub ⟨rfl, rfl, rfl, trivial⟩ ⟨rfl, trivial⟩ rfl rfl rfl (by simp [keepLt, rbM, lkH]), j + 1, by omega, rfl, rfl⟩
  | q + 1, i, E, K, hq, hE, hEb, hK => by
    obtain ⟨hT64, hTc⟩ := chkTL_parts hc
    have hi : i < T.length := by omega
    refine inlS (cs := []) Try.mixed Try.func44 rfl (by kernel_rfl) 100 rfl rfl ?_
    simp only [Try.f44]
    have l8 : ∀ F : List Nat, F.length = m → (cE natV F).length = m := fun F h => by rw [cE_len, h]
    have l1 := l8 E hE
    have d0 : decide ((i : Int) = (T.length : Int)) = false := by rw [decide_eq_false_iff_not]; omega
    have i1 : (0 : Int) ≤ (i : Int) := by omega
    have i2 : (i : Int) < (T.length : Int) := by omega
    have wi : IntKind.i64.wrap ((i : Int) + 1) = ((i + 1 : Nat) : Int) := succ_i (by omega)
    have unn := hu.nn hi
    have upt := hu.pt hi
    have hci := hTc i hi
    have hcb : cosN T i ≤ 1048576 := by unfold cosN; omega
    have uat := hu.atF (P := Try.prog) (T := 3) (fun _ => rfl) tk3 tz3 hi (o := 3) (v := .int .i64 T[i].cost) rfl
    rw [cosN_cost hi hci.1] at uat
    rw [List.range'_succ] at hK
    simp only [rbs] at hK
    rw [hE] at hK
    (replace hb0 := true_and True); refine Go1.mk ?_; repeat' ((first | (with_reducible refine Go1.go ?_) | ((with_reducible first | refine brv_mk ?_ ?_ | refine gsplitD ?_ ?_ | refine gsplitG ?_ ?_) <;> intro h <;> (try simp only [Bool.not_eq_true', Bool.not_eq_false'] at h) <;> replace hb0 := h) | (refine And.intro ?_ ?_; (try simp only [sxO] at *); omega) | fail) <;> (try simp (maxSteps := 1000000) only [hb0, hu.one, hu.len, hu.sl, d0, cE_ment, hasK_nil, ↓hold_pre, awayP, runOps, regK, step1, newK, genR, appR, obl, buildR, Value.cells, closeK, keepH, outV, retK, ret1, retC, RetV, Option.getD, runD, stepD, afterK, undef, simprocAttr, sxB, ↓sxD, sxE, sxTab]))
    refine ⟨fun d z => ∃ k a, k ≤ m ∧ d = m - k ∧ (k = m → a.isSome = true) ∧ rbl (fun k => rbs (cosN T) (List.range' (i + 1) q) (E.set k (E.getD k 0 + cosN T i))) E m 0 none = rbl (fun k => rbs (cosN T) (List.range' (i + 1) q) (E.set k (E.getD k 0 + cosN T i))) E (m - k) k a ∧ z = rbL M u m i E k a,
      ⟨m, rbL M u m i E 0 none, le_sub ⟨rfl, rfl, rfl, rfl, rfl, trivial⟩ ⟨rfl, trivial⟩ rfl rfl rfl (by simp [keepLt, rbL, lkH]), ⟨0, none, by omega, by omega, fun h => by omega, rfl, rfl⟩⟩, ?_⟩
    rintro d z ⟨k, a, hk, rfl, ha, hr, rfl⟩
    by_cases hlt : k < m
    case neg =>
      obtain rfl : k = m := by omega
      have d1 : decide ((k : Int) < (k : Int)) = false := by simp
      obtain ⟨x, rfl⟩ := Option.isSome_iff_exists.1 (ha rfl)
      rw [hr, Nat.sub_self] at hK
      (replace hb0 := true_and True); refine Go1.mk ?_; repeat' ((first | (with_reducible refine Go1.go ?_) | ((with_reducible first | refine brv_mk ?_ ?_ | refine gsplitD ?_ ?_ | refine gsplitG ?_ ?_) <;> intro h <;> (try simp only [Bool.not_eq_true', Bool.not_eq_false'] at h) <;> replace hb0 := h) | (refine And.intro ?_ ?_; (try simp only [sxO] at *); omega) | fail) <;> (try simp (maxSteps := 1000000) only [hb0, rbL, bstI, d1, cE_ment, cE_kill, hasK_nil, ↓hold_pre, awayP, runOps, regK, step1, newK, genR, appR, obl, buildR, Value.cells, closeK, keepH, outV, retK, ret1, retC, RetV, Option.getD, runD, stepD, afterK, undef, simprocAttr, sxB, ↓sxD, sxE, sxTab]))
      exact hK
    have d1 : decide ((k : Int) < (m : Int)) = true := by rw [decide_eq_true_eq]; omega
    have b1 : (0 : Int) ≤ (k : Int) := by omega
    have b2 : (k : Int) < (m : Int) := by omega
    have wk : IntKind.i64.wrap ((k : Int) + 1) = ((k + 1 : Nat) : Int) := succ_i (by omega)
    have a1 := nat_at (E := E) (r := k) (by omega)
    have hEk : E.getD k 0 ≤ i * 1048576 := by
      rw [List.getD_eq_getElem?_getD, List.getElem?_eq_getElem (by omega)]
      exact hEb _ (List.getElem_mem _)
    have w1 : IntKind.i64.wrap (((E.getD k 0 : Nat) : Int) + ((cosN T i : Nat) : Int)) = ((E.getD k 0 + cosN T i : Nat) : Int) := by rw [wrap_id (by omega) (by omega)]; omega
    have w2 : IntKind.i64.wrap (((E.getD k 0 + cosN T i : Nat) : Int) - ((cosN T i : Nat) : Int)) = ((E.getD k 0 : Nat) : Int) := by rw [wrap_id (by omega) (by omega)]; omega
    have st : (cE natV E).set k (.ext (.int .i64 ((E.getD k 0 + cosN T i : Nat) : Int))) = cE natV (E.set k (E.getD k 0 + cosN T i)) := cE_set natV E k _
    have hE2 : (E.set k (E.getD k 0 + cosN T i)).length = m := by rw [List.length_set, hE]
    have a2 := nat_at (E := E.set k (E.getD k 0 + cosN T i)) (r := k) (by omega)
    rw [getD_set (by omega), if_pos rfl] at a2
    have sb : (cE natV (E.set k (E.getD k 0 + cosN T i))).set k (.ext (.int .i64 ((E.getD k 0 : Nat) : Int))) = cE natV E := by
      refine (cE_set natV _ k (E.getD k 0)).trans ?_
      rw [set_back (by omega)]
    have l2 := l8 _ hE2
    have hEb2 := setE_le hEb (b := k) (y := E.getD k 0 + cosN T i) (Nat.le_trans (Nat.add_le_add hEk hcb) (by rw [Nat.succ_mul]; exact Nat.le_refl _))
    have hstep : ∀ p, m - k = p + 1 → rbl (fun k => rbs (cosN T) (List.range' (i + 1) q) (E.set k (E.getD k 0 + cosN T i))) E (m - k) k a = if E.getD k 0 = 0 then minO a (rbs (cosN T) (List.range' (i + 1) q) (E.set k (E.getD k 0 + cosN T i))) else rbl (fun k => rbs (cosN T) (List.range' (i + 1) q) (E.set k (E.getD k 0 + cosN T i))) E p (k + 1) (minO a (rbs (cosN T) (List.range' (i + 1) q) (E.set k (E.getD k 0 + cosN T i)))) := fun p hp => by
      rw [hp]; rfl
    have hstep := hstep (m - (k + 1)) (by omega)
    rw [hstep] at hr
    clear hstep
    have ih := fun K hK => rbest_ok hu hc hm1 hm8 q (i + 1) (E.set k (E.getD k 0 + cosN T i)) K (by omega) hE2 hEb2 hK
    generalize rbs (cosN T) (List.range' (i + 1) q) (E.set k (E.getD k 0 + cosN T i)) = n at *
    cases a with
    | none =>
      have hmin : minO none n = some n := rfl
      (replace hb0 := true_and True); refine Go1.mk ?_; repeat' ((first | (with_reducible refine Go1.go ?_) | ((with_reducible first | refine brv_mk ?_ ?_ | refine gsplitD ?_ ?_ | refine gsplitG ?_ ?_) <;> intro h <;> (try simp only [Bool.not_eq_true', Bool.not_eq_false'] at h) <;> replace hb0 := h) | ((with_reducible refine isCall (f := 44) ?_); refine callA ?_) | ((with_reducible refine isCallS (f := 44) ?_); refine (ih _ (Stop.mk ?_))) | ((with_reducible refine isDraw [some 35, some 36, some 37, some 38, some 39, some 40, some 41, some 42, some 43, some 44, some 45, none] (by decide) ?_); refine draw_rule [(0, []), (1, []), (2, []), (3, []), (4, [3]), (5, [3]), (6, [3]), (7, [3]), (8, [3]), (9, []), (10, []), (11, [])] [[], [], [0, 1], [0, 1, 2], [], [], [4, 5], [4, 5, 6], [4, 5, 6, 7], [0, 1, 2, 3, 4, 5, 6, 7, 8], [0, 1, 2, 3, 4, 5, 6, 7, 8, 9], [0, 1, 2, 3, 4, 5, 6, 7, 8, 9, 10]] [35, 36, 37, 38, 39, 40, 41, 42, 43] [] (by kernel_rfl) (by kernel_rfl) (by kernel_rfl) (by kernel_rfl) (by exact trivial) ?_) | ((with_reducible refine isDraw [some 59, some 60, some 61, some 62, some 63, some 64, some 65, some 66, some 67, some 68, some 69, none] (by decide) ?_); refine draw_rule [(0, []), (1, []), (2, []), (3, []), (4, [3]), (5, [3]), (6, [3]), (7, [3]), (8, [3]), (9, []), (10, []), (11, [])] [[], [], [0, 1], [0, 1, 2], [], [], [4, 5], [4, 5, 6], [4, 5, 6, 7], [0, 1, 2, 3, 4, 5, 6, 7, 8], [0, 1, 2, 3, 4, 5, 6, 7, 8, 9], [0, 1, 2, 3, 4, 5, 6, 7, 8, 9, 10]] [59, 60, 61, 62, 63, 64, 65, 66, 67] [] (by kernel_rfl) (by kernel_rfl) (by kernel_rfl) (by kernel_rfl) (by exact trivial) ?_) | (refine And.intro ?_ ?_; (try simp only [sxO] at *); omega) | fail) <;> (try simp (maxSteps := 1000000) only [hb0, rbL, bstI, d1, b1, b2, i1, i2, unn, upt, uat, wi, a1, w1, st, l1, hu.one, hu.len, hu.sl, Nat.mul_one, Nat.zero_add, cE_ment, cE_kill, hasK_nil, ↓hold_pre, awayP, runOps, regK, step1, newK, genR, appR, obl, buildR, Value.cells, closeK, keepH, outV, retK, ret1, retC, RetV, Option.getD, runD, stepD, afterK, undef, simprocAttr, sxB, ↓sxD, sxE, sxTab]))
      by_cases hz : E.getD k 0 = 0
      · have z1 : decide (((E.getD k 0 : Nat) : Int) = 0) = true := by rw [decide_eq_true_eq]; omega
        rw [if_pos hz, hmin] at hr
        rw [hr] at hK
        refine Stop.go ?_
        (replace hb0 := true_and True); refine Go1.mk ?_; repeat' ((first | (with_reducible refine Go1.go ?_) | ((with_reducible first | refine brv_mk ?_ ?_ | refine gsplitD ?_ ?_ | refine gsplitG ?_ ?_) <;> intro h <;> (try simp only [Bool.not_eq_true', Bool.not_eq_false'] at h) <;> replace hb0 := h) | ((with_reducible refine isDraw [some 35, some 36, some 37, some 38, some 39, some 40, some 41, some 42, some 43, some 44, some 45, none] (by decide) ?_); refine draw_rule [(0, []), (1, []), (2, []), (3, []), (4, [3]), (5, [3]), (6, [3]), (7, [3]), (8, [3]), (9, []), (10, []), (11, [])] [[], [], [0, 1], [0, 1, 2], [], [], [4, 5], [4, 5, 6], [4, 5, 6, 7], [0, 1, 2, 3, 4, 5, 6, 7, 8], [0, 1, 2, 3, 4, 5, 6, 7, 8, 9], [0, 1, 2, 3, 4, 5, 6, 7, 8, 9, 10]] [35, 36, 37, 38, 39, 40, 41, 42, 43] [] (by kernel_rfl) (by kernel_rfl) (by kernel_rfl) (by kernel_rfl) (by exact trivial) ?_) | ((with_reducible refine isDraw [some 59, some 60, some 61, some 62, some 63, some 64, some 65, some 66, some 67, some 68, some 69, none] (by decide) ?_); refine draw_rule [(0, []), (1, []), (2, []), (3, []), (4, [3]), (5, [3]), (6, [3]), (7, [3]), (8, [3]), (9, []), (10, []), (11, [])] [[], [], [0, 1], [0, 1, 2], [], [], [4, 5], [4, 5, 6], [4, 5, 6, 7], [0, 1, 2, 3, 4, 5, 6, 7, 8], [0, 1, 2, 3, 4, 5, 6, 7, 8, 9], [0, 1, 2, 3, 4, 5, 6, 7, 8, 9, 10]] [59, 60, 61, 62, 63, 64, 65, 66, 67] [] (by kernel_rfl) (by kernel_rfl) (by kernel_rfl) (by kernel_rfl) (by exact trivial) ?_) | (refine And.intro ?_ ?_; (try simp only [sxO] at *); omega) | fail) <;> (try simp (maxSteps := 1000000) only [hb0, wk, b1, b2, i1, i2, unn, upt, uat, a1, a2, w2, sb, l1, l2, z1, hu.one, hu.len, hu.sl, Nat.mul_one, Nat.zero_add, cE_ment, cE_kill, hasK_nil, ↓hold_pre, awayP, runOps, regK, step1, newK, genR, appR, obl, buildR, Value.cells, closeK, keepH, outV, retK, ret1, retC, RetV, Option.getD, runD, stepD, afterK, undef, simprocAttr, sxB, ↓sxD, sxE, sxTab]))
        exact hK
      · have z1 : decide (((E.getD k 0 : Nat) : Int) = 0) = false := by rw [decide_eq_false_iff_not]; omega
        rw [if_neg hz, hmin] at hr
        refine Stop.go ?_
        (replace hb0 := true_and True); refine Go1.mk ?_; repeat' ((first | (with_reducible refine Go1.go ?_) | ((with_reducible first | refine brv_mk ?_ ?_ | refine gsplitD ?_ ?_ | refine gsplitG ?_ ?_) <;> intro h <;> (try simp only [Bool.not_eq_true', Bool.not_eq_false'] at h) <;> replace hb0 := h) | ((with_reducible refine isDraw [some 35, some 36, some 37, some 38, some 39, some 40, some 41, some 42, some 43, some 44, some 45, none] (by decide) ?_); refine draw_rule [(0, []), (1, []), (2, []), (3, []), (4, [3]), (5, [3]), (6, [3]), (7, [3]), (8, [3]), (9, []), (10, []), (11, [])] [[], [], [0, 1], [0, 1, 2], [], [], [4, 5], [4, 5, 6], [4, 5, 6, 7], [0, 1, 2, 3, 4, 5, 6, 7, 8], [0, 1, 2, 3, 4, 5, 6, 7, 8, 9], [0, 1, 2, 3, 4, 5, 6, 7, 8, 9, 10]] [35, 36, 37, 38, 39, 40, 41, 42, 43] [] (by kernel_rfl) (by kernel_rfl) (by kernel_rfl) (by kernel_rfl) (by exact trivial) ?_) | ((with_reducible refine isDraw [some 59, some 60, some 61, some 62, some 63, some 64, some 65, some 66, some 67, some 68, some 69, none] (by decide) ?_); refine draw_rule [(0, []), (1, []), (2, []), (3, []), (4, [3]), (5, [3]), (6, [3]), (7, [3]), (8, [3]), (9, []), (10, []), (11, [])] [[], [], [0, 1], [0, 1, 2], [], [], [4, 5], [4, 5, 6], [4, 5, 6, 7], [0, 1, 2, 3, 4, 5, 6, 7, 8], [0, 1, 2, 3, 4, 5, 6, 7, 8, 9], [0, 1, 2, 3, 4, 5, 6, 7, 8, 9, 10]] [59, 60, 61, 62, 63, 64, 65, 66, 67] [] (by kernel_rfl) (by kernel_rfl) (by kernel_rfl) (by kernel_rfl) (by exact trivial) ?_) | (refine And.intro ?_ ?_; (try simp only [sxO] at *); omega) | fail) <;> (try simp (maxSteps := 1000000) only [hb0, wk, b1, b2, i1, i2, unn, upt, uat, a1, a2, w2, sb, l1, l2, z1, hu.one, hu.len, hu.sl, Nat.mul_one, Nat.zero_add, cE_ment, cE_kill, hasK_nil, ↓hold_pre, awayP, runOps, regK, step1, newK, genR, appR, obl, buildR, Value.cells, closeK, keepH, outV, retK, ret1, retC, RetV, Option.getD, runD, stepD, afterK, undef, simprocAttr, sxB, ↓sxD, sxE, sxTab]))
        exact ⟨m - (k + 1), rbL M u m i E (k + 1) (some n), by omega, le_sub ⟨rfl, rfl, rfl, rfl, rfl, trivial⟩ ⟨rfl, trivial⟩ rfl rfl rfl (by simp [keepLt, rbL, lkH]), k + 1, some n, by omega, rfl, fun _ => rfl, hr, rfl⟩
    | some x =>
      have x0 : decide ((x : Int) < 0) = false := by rw [decide_eq_false_iff_not]; omega
      by_cases hx : n < x
      · have x1 : decide ((n : Int) < (x : Int)) = true := by rw [decide_eq_true_eq]; omega
        have hmin : minO (some x) n = some n := by simp [minO, hx]
        (replace hb0 := true_and True); refine Go1.mk ?_; repeat' ((first | (with_reducible refine Go1.go ?_) | ((with_reducible first | refine brv_mk ?_ ?_ | refine gsplitD ?_ ?_ | refine gsplitG ?_ ?_) <;> intro h <;> (try simp only [Bool.not_eq_true', Bool.not_eq_false'] at h) <;> replace hb0 := h) | ((with_reducible refine isCall (f := 44) ?_); refine callA ?_) | ((with_reducible refine isCallS (f := 44) ?_); refine (ih _ (Stop.mk ?_))) | ((with_reducible refine isDraw [some 35, some 36, some 37, some 38, some 39, some 40, some 41, some 42, some 43, some 44, some 45, none] (by decide) ?_); refine draw_rule [(0, []), (1, []), (2, []), (3, []), (4, [3]), (5, [3]), (6, [3]), (7, [3]), (8, [3]), (9, []), (10, []), (11, [])] [[], [], [0, 1], [0, 1, 2], [], [], [4, 5], [4, 5, 6], [4, 5, 6, 7], [0, 1, 2, 3, 4, 5, 6, 7, 8], [0, 1, 2, 3, 4, 5, 6, 7, 8, 9], [0, 1, 2, 3, 4, 5, 6, 7, 8, 9, 10]] [35, 36, 37, 38, 39, 40, 41, 42, 43] [] (by kernel_rfl) (by kernel_rfl) (by kernel_rfl) (by kernel_rfl) (by exact trivial) ?_) | ((with_reducible refine isDraw [some 59, some 60, some 61, some 62, some 63, some 64, some 65, some 66, some 67, some 68, some 69, none] (by decide) ?_); refine draw_rule [(0, []), (1, []), (2, []), (3, []), (4, [3]), (5, [3]), (6, [3]), (7, [3]), (8, [3]), (9, []), (10, []), (11, [])] [[], [], [0, 1], [0, 1, 2], [], [], [4, 5], [4, 5, 6], [4, 5, 6, 7], [0, 1, 2, 3, 4, 5, 6, 7, 8], [0, 1, 2, 3, 4, 5, 6, 7, 8, 9], [0, 1, 2, 3, 4, 5, 6, 7, 8, 9, 10]] [59, 60, 61, 62, 63, 64, 65, 66, 67] [] (by kernel_rfl) (by kernel_rfl) (by kernel_rfl) (by kernel_rfl) (by exact trivial) ?_) | (refine And.intro ?_ ?_; (try simp only [sxO] at *); omega) | fail) <;> (try simp (maxSteps := 1000000) only [hb0, rbL, bstI, d1, b1, b2, i1, i2, unn, upt, uat, wi, a1, w1, st, l1, x0, x1, hu.one, hu.len, hu.sl, Nat.mul_one, Nat.zero_add, cE_ment, cE_kill, hasK_nil, ↓hold_pre, awayP, runOps, regK, step1, newK, genR, appR, obl, buildR, Value.cells, closeK, keepH, outV, retK, ret1, retC, RetV, Option.getD, runD, stepD, afterK, undef, simprocAttr, sxB, ↓sxD, sxE, sxTab]))
        by_cases hz : E.getD k 0 = 0
        · have z1 : decide (((E.getD k 0 : Nat) : Int) = 0) = true := by rw [decide_eq_true_eq]; omega
          rw [if_pos hz, hmin] at hr
          rw [hr] at hK
          refine Stop.go ?_
          (replace hb0 := true_and True); refine Go1.mk ?_; repeat' ((first | (with_reducible refine Go1.go ?_) | ((with_reducible first | refine brv_mk ?_ ?_ | refine gsplitD ?_ ?_ | refine gsplitG ?_ ?_) <;> intro h <;> (try simp only [Bool.not_eq_true', Bool.not_eq_false'] at h) <;> replace hb0 := h) | ((with_reducible refine isDraw [some 35, some 36, some 37, some 38, some 39, some 40, some 41, some 42, some 43, some 44, some 45, none] (by decide) ?_); refine draw_rule [(0, []), (1, []), (2, []), (3, []), (4, [3]), (5, [3]), (6, [3]), (7, [3]), (8, [3]), (9, []), (10, []), (11, [])] [[], [], [0, 1], [0, 1, 2], [], [], [4, 5], [4, 5, 6], [4, 5, 6, 7], [0, 1, 2, 3, 4, 5, 6, 7, 8], [0, 1, 2, 3, 4, 5, 6, 7, 8, 9], [0, 1, 2, 3, 4, 5, 6, 7, 8, 9, 10]] [35, 36, 37, 38, 39, 40, 41, 42, 43] [] (by kernel_rfl) (by kernel_rfl) (by kernel_rfl) (by kernel_rfl) (by exact trivial) ?_) | ((with_reducible refine isDraw [some 59, some 60, some 61, some 62, some 63, some 64, some 65, some 66, some 67, some 68, some 69, none] (by decide) ?_); refine draw_rule [(0, []), (1, []), (2, []), (3, []), (4, [3]), (5, [3]), (6, [3]), (7, [3]), (8, [3]), (9, []), (10, []), (11, [])] [[], [], [0, 1], [0, 1, 2], [], [], [4, 5], [4, 5, 6], [4, 5, 6, 7], [0, 1, 2, 3, 4, 5, 6, 7, 8], [0, 1, 2, 3, 4, 5, 6, 7, 8, 9], [0, 1, 2, 3, 4, 5, 6, 7, 8, 9, 10]] [59, 60, 61, 62, 63, 64, 65, 66, 67] [] (by kernel_rfl) (by kernel_rfl) (by kernel_rfl) (by kernel_rfl) (by exact trivial) ?_) | (refine And.intro ?_ ?_; (try simp only [sxO] at *); omega) | fail) <;> (try simp (maxSteps := 1000000) only [hb0, wk, b1, b2, i1, i2, unn, upt, uat, a1, a2, w2, sb, l1, l2, z1, x0, x1, hu.one, hu.len, hu.sl, Nat.mul_one, Nat.zero_add, cE_ment, cE_kill, hasK_nil, ↓hold_pre, awayP, runOps, regK, step1, newK, genR, appR, obl, buildR, Value.cells, closeK, keepH, outV, retK, ret1, retC, RetV, Option.getD, runD, stepD, afterK, undef, simprocAttr, sxB, ↓sxD, sxE, sxTab]))
          exact hK
        · have z1 : decide (((E.getD k 0 : Nat) : Int) = 0) = false := by rw [decide_eq_false_iff_not]; omega
          rw [if_neg hz, hmin] at hr
          refine Stop.go ?_
          (replace hb0 := true_and True); refine Go1.mk ?_; repeat' ((first | (with_reducible refine Go1.go ?_) | ((with_reducible first | refine brv_mk ?_ ?_ | refine gsplitD ?_ ?_ | refine gsplitG ?_ ?_) <;> intro h <;> (try simp only [Bool.not_eq_true', Bool.not_eq_false'] at h) <;> replace hb0 := h) | ((with_reducible refine isDraw [some 35, some 36, some 37, some 38, some 39, some 40, some 41, some 42, some 43, some 44, some 45, none] (by decide) ?_); refine draw_rule [(0, []), (1, []), (2, []), (3, []), (4, [3]), (5, [3]), (6, [3]), (7, [3]), (8, [3]), (9, []), (10, []), (11, [])] [[], [], [0, 1], [0, 1, 2], [], [], [4, 5], [4, 5, 6], [4, 5, 6, 7], [0, 1, 2, 3, 4, 5, 6, 7, 8], [0, 1, 2, 3, 4, 5, 6, 7, 8, 9], [0, 1, 2, 3, 4, 5, 6, 7, 8, 9, 10]] [35, 36, 37, 38, 39, 40, 41, 42, 43] [] (by kernel_rfl) (by kernel_rfl) (by kernel_rfl) (by kernel_rfl) (by exact trivial) ?_) | ((with_reducible refine isDraw [some 59, some 60, some 61, some 62, some 63, some 64, some 65, some 66, some 67, some 68, some 69, none] (by decide) ?_); refine draw_rule [(0, []), (1, []), (2, []), (3, []), (4, [3]), (5, [3]), (6, [3]), (7, [3]), (8, [3]), (9, []), (10, []), (11, [])] [[], [], [0, 1], [0, 1, 2], [], [], [4, 5], [4, 5, 6], [4, 5, 6, 7], [0, 1, 2, 3, 4, 5, 6, 7, 8], [0, 1, 2, 3, 4, 5, 6, 7, 8, 9], [0, 1, 2, 3, 4, 5, 6, 7, 8, 9, 10]] [59, 60, 61, 62, 63, 64, 65, 66, 67] [] (by kernel_rfl) (by kernel_rfl) (by kernel_rfl) (by kernel_rfl) (by exact trivial) ?_) | (refine And.intro ?_ ?_; (try simp only [sxO] at *); omega) | fail) <;> (try simp (maxSteps := 1000000) only [hb0, wk, b1, b2, i1, i2, unn, upt, uat, a1, a2, w2, sb, l1, l2, z1, x0, x1, hu.one, hu.len, hu.sl, Nat.mul_one, Nat.zero_add, cE_ment, cE_kill, hasK_nil, ↓hold_pre, awayP, runOps, regK, step1, newK, genR, appR, obl, buildR, Value.cells, closeK, keepH, outV, retK, ret1, retC, RetV, Option.getD, runD, stepD, afterK, undef, simprocAttr, sxB, ↓sxD, sxE, sxTab]))
          exact ⟨m - (k + 1), rbL M u m i E (k + 1) (some n), by omega, le_sub ⟨rfl, rfl, rfl, rfl, rfl, trivial⟩ ⟨rfl, trivial⟩ rfl rfl rfl (by simp [keepLt, rbL, lkH]), k + 1, some n, by omega, rfl, fun _ => rfl, hr, rfl⟩
      · have x1 : decide ((n : Int) < (x : Int)) = false := by rw [decide_eq_false_iff_not]; omega
        have hmin : minO (some x) n = some x := by simp [minO, hx]
        (replace hb0 := true_and True); refine Go1.mk ?_; repeat' ((first | (with_reducible refine Go1.go ?_) | ((with_reducible first | refine brv_mk ?_ ?_ | refine gsplitD ?_ ?_ | refine gsplitG ?_ ?_) <;> intro h <;> (try simp only [Bool.not_eq_true', Bool.not_eq_false'] at h) <;> replace hb0 := h) | ((with_reducible refine isCall (f := 44) ?_); refine callA ?_) | ((with_reducible refine isCallS (f := 44) ?_); refine (ih _ (Stop.mk ?_))) | ((with_reducible refine isDraw [some 35, some 36, some 37, some 38, some 39, some 40, some 41, some 42, some 43, some 44, some 45, none] (by decide) ?_); refine draw_rule [(0, []), (1, []), (2, []), (3, []), (4, [3]), (5, [3]), (6, [3]), (7, [3]), (8, [3]), (9, []), (10, []), (11, [])] [[], [], [0, 1], [0, 1, 2], [], [], [4, 5], [4, 5, 6], [4, 5, 6, 7], [0, 1, 2, 3, 4, 5, 6, 7, 8], [0, 1, 2, 3, 4, 5, 6, 7, 8, 9], [0, 1, 2, 3, 4, 5, 6, 7, 8, 9, 10]] [35, 36, 37, 38, 39, 40, 41, 42, 43] [] (by kernel_rfl) (by kernel_rfl) (by kernel_rfl) (by kernel_rfl) (by exact trivial) ?_) | ((with_reducible refine isDraw [some 59, some 60, some 61, some 62, some 63, some 64, some 65, some 66, some 67, some 68, some 69, none] (by decide) ?_); refine draw_rule [(0, []), (1, []), (2, []), (3, []), (4, [3]), (5, [3]), (6, [3]), (7, [3]), (8, [3]), (9, []), (10, []), (11, [])] [[], [], [0, 1], [0, 1, 2], [], [], [4, 5], [4, 5, 6], [4, 5, 6, 7], [0, 1, 2, 3, 4, 5, 6, 7, 8], [0, 1, 2, 3, 4, 5, 6, 7, 8, 9], [0, 1, 2, 3, 4, 5, 6, 7, 8, 9, 10]] [59, 60, 61, 62, 63, 64, 65, 66, 67] [] (by kernel_rfl) (by kernel_rfl) (by kernel_rfl) (by kernel_rfl) (by exact trivial) ?_) | (refine And.intro ?_ ?_; (try simp only [sxO] at *); omega) | fail) <;> (try simp (maxSteps := 1000000) only [hb0, rbL, bstI, d1, b1, b2, i1, i2, unn, upt, uat, wi, a1, w1, st, l1, x0, x1, hu.one, hu.len, hu.sl, Nat.mul_one, Nat.zero_add, cE_ment, cE_kill, hasK_nil, ↓hold_pre, awayP, runOps, regK, step1, newK, genR, appR, obl, buildR, Value.cells, closeK, keepH, outV, retK, ret1, retC, RetV, Option.getD, runD, stepD, afterK, undef, simprocAttr, sxB, ↓sxD, sxE, sxTab]))
        by_cases hz : E.getD k 0 = 0
        · have z1 : decide (((E.getD k 0 : Nat) : Int) = 0) = true := by rw [decide_eq_true_eq]; omega
          rw [if_pos hz, hmin] at hr
          rw [hr] at hK
          refine Stop.go ?_
          (replace hb0 := true_and True); refine Go1.mk ?_; repeat' ((first | (with_reducible refine Go1.go ?_) | ((with_reducible first | refine brv_mk ?_ ?_ | refine gsplitD ?_ ?_ | refine gsplitG ?_ ?_) <;> intro h <;> (try simp only [Bool.not_eq_true', Bool.not_eq_false'] at h) <;> replace hb0 := h) | ((with_reducible refine isDraw [some 35, some 36, some 37, some 38, some 39, some 40, some 41, some 42, some 43, some 44, some 45, none] (by decide) ?_); refine draw_rule [(0, []), (1, []), (2, []), (3, []), (4, [3]), (5, [3]), (6, [3]), (7, [3]), (8, [3]), (9, []), (10, []), (11, [])] [[], [], [0, 1], [0, 1, 2], [], [], [4, 5], [4, 5, 6], [4, 5, 6, 7], [0, 1, 2, 3, 4, 5, 6, 7, 8], [0, 1, 2, 3, 4, 5, 6, 7, 8, 9], [0, 1, 2, 3, 4, 5, 6, 7, 8, 9, 10]] [35, 36, 37, 38, 39, 40, 41, 42, 43] [] (by kernel_rfl) (by kernel_rfl) (by kernel_rfl) (by kernel_rfl) (by exact trivial) ?_) | ((with_reducible refine isDraw [some 59, some 60, some 61, some 62, some 63, some 64, some 65, some 66, some 67, some 68, some 69, none] (by decide) ?_); refine draw_rule [(0, []), (1, []), (2, []), (3, []), (4, [3]), (5, [3]), (6, [3]), (7, [3]), (8, [3]), (9, []), (10, []), (11, [])] [[], [], [0, 1], [0, 1, 2], [], [], [4, 5], [4, 5, 6], [4, 5, 6, 7], [0, 1, 2, 3, 4, 5, 6, 7, 8], [0, 1, 2, 3, 4, 5, 6, 7, 8, 9], [0, 1, 2, 3, 4, 5, 6, 7, 8, 9, 10]] [59, 60, 61, 62, 63, 64, 65, 66, 67] [] (by kernel_rfl) (by kernel_rfl) (by kernel_rfl) (by kernel_rfl) (by exact trivial) ?_) | (refine And.intro ?_ ?_; (try simp only [sxO] at *); omega) | fail) <;> (try simp (maxSteps := 1000000) only [hb0, wk, b1, b2, i1, i2, unn, upt, uat, a1, a2, w2, sb, l1, l2, z1, x0, x1, hu.one, hu.len, hu.sl, Nat.mul_one, Nat.zero_add, cE_ment, cE_kill, hasK_nil, ↓hold_pre, awayP, runOps, regK, step1, newK, genR, appR, obl, buildR, Value.cells, closeK, keepH, outV, retK, ret1, retC, RetV, Option.getD, runD, stepD, afterK, undef, simprocAttr, sxB, ↓sxD, sxE, sxTab]))
          exact hK
        · have z1 : decide (((E.getD k 0 : Nat) : Int) = 0) = false := by rw [decide_eq_false_iff_not]; omega
          rw [if_neg hz, hmin] at hr
          refine Stop.go ?_
          (replace hb0 := true_and True); refine Go1.mk ?_; repeat' ((first | (with_reducible refine Go1.go ?_) | ((with_reducible first | refine brv_mk ?_ ?_ | refine gsplitD ?_ ?_ | refine gsplitG ?_ ?_) <;> intro h <;> (try simp only [Bool.not_eq_true', Bool.not_eq_false'] at h) <;> replace hb0 := h) | ((with_reducible refine isDraw [some 35, some 36, some 37, some 38, some 39, some 40, some 41, some 42, some 43, some 44, some 45, none] (by decide) ?_); refine draw_rule [(0, []), (1, []), (2, []), (3, []), (4, [3]), (5, [3]), (6, [3]), (7, [3]), (8, [3]), (9, []), (10, []), (11, [])] [[], [], [0, 1], [0, 1, 2], [], [], [4, 5], [4, 5, 6], [4, 5, 6, 7], [0, 1, 2, 3, 4, 5, 6, 7, 8], [0, 1, 2, 3, 4, 5, 6, 7, 8, 9], [0, 1, 2, 3, 4, 5, 6, 7, 8, 9, 10]] [35, 36, 37, 38, 39, 40, 41, 42, 43] [] (by kernel_rfl) (by kernel_rfl) (by kernel_rfl) (by kernel_rfl) (by exact trivial) ?_) | ((with_reducible refine isDraw [some 59, some 60, some 61, some 62, some 63, some 64, some 65, some 66, some 67, some 68, some 69, none] (by decide) ?_); refine draw_rule [(0, []), (1, []), (2, []), (3, []), (4, [3]), (5, [3]), (6, [3]), (7, [3]), (8, [3]), (9, []), (10, []), (11, [])] [[], [], [0, 1], [0, 1, 2], [], [], [4, 5], [4, 5, 6], [4, 5, 6, 7], [0, 1, 2, 3, 4, 5, 6, 7, 8], [0, 1, 2, 3, 4, 5, 6, 7, 8, 9], [0, 1, 2, 3, 4, 5, 6, 7, 8, 9, 10]] [59, 60, 61, 62, 63, 64, 65, 66, 67] [] (by kernel_rfl) (by kernel_rfl) (by kernel_rfl) (by kernel_rfl) (by exact trivial) ?_) | (refine And.intro ?_ ?_; (try simp only [sxO] at *); omega) | fail) <;> (try simp (maxSteps := 1000000) only [hb0, wk, b1, b2, i1, i2, unn, upt, uat, a1, a2, w2, sb, l1, l2, z1, x0, x1, hu.one, hu.len, hu.sl, Nat.mul_one, Nat.zero_add, cE_ment, cE_kill, hasK_nil, ↓hold_pre, awayP, runOps, regK, step1, newK, genR, appR, obl, buildR, Value.cells, closeK, keepH, outV, retK, ret1, retC, RetV, Option.getD, runD, stepD, afterK, undef, simprocAttr, sxB, ↓sxD, sxE, sxTab]))
          exact ⟨m - (k + 1), rbL M u m i E (k + 1) (some x), by omega, le_sub ⟨rfl, rfl, rfl, rfl, rfl, trivial⟩ ⟨rfl, trivial⟩ rfl rfl rfl (by simp [keepLt, rbL, lkH]), k + 1, some x, by omega, rfl, fun _ => rfl, hr, rfl⟩
def bestN (T : List TK) (m : Nat) : Nat := rbs (cosN T) (List.range T.length) (List.replicate m 0)
def bestQ (T : List TK) (n : Int) : Int × Int := if errT T n = 0 then (if T.length ≤ 10 then (((bestN T n.toNat : Nat) : Int), 0) else (0, 2)) else (0, errT T n)
theorem bestQ_err {n : Int} (h : ¬ errT T n = 0) : bestQ T n = (0, errT T n) := by unfold bestQ; rw [if_neg h]
theorem bestQ_many {n : Int} (h : errT T n = 0) (h2 : ¬ T.length ≤ 10) : bestQ T n = (0, 2) := by unfold bestQ; rw [if_pos h, if_neg h2]
theorem bestQ_ok {m : Nat} (h : errT T m = 0) (h2 : T.length ≤ 10) : bestQ T m = (((bestN T m : Nat) : Int), 0) := by unfold bestQ; rw [if_pos h, if_pos h2, Int.toNat_natCast]
theorem rBest_ok (hu : IsR M 4 TK.c u T) (hb : T.length < 1000000) (n : Int) (hK : K (.ext (.tuple #[.int .i64 (bestQ T n).1, .int .i64 (bestQ T n).2])) [] M) : CallS Try.prog 22 [.ext u, .ext (.int .i64 n)] [] M [] K := by
  refine inlS (cs := []) Try.mixed Try.func22 rfl (by kernel_rfl) 0 rfl rfl ?_
  simp only [Try.f22]
  by_cases he : errT T n = 0
  case neg =>
    have d1 : decide (errT T n = 0) = false := decide_eq_false he
    rw [bestQ_err he] at hK
    (replace hb0 := true_and True); refine Go1.mk ?_; repeat' ((first | (with_reducible refine Go1.go ?_) | ((with_reducible first | refine brv_mk ?_ ?_ | refine gsplitD ?_ ?_ | refine gsplitG ?_ ?_) <;> intro h <;> (try simp only [Bool.not_eq_true', Bool.not_eq_false'] at h) <;> replace hb0 := h) | (((with_reducible refine isCall (f := 37) ?_); refine callA_nil (by kernel_rfl) ?_; refine (rcheck_ok hu hb n ?_))) | (refine And.intro ?_ ?_; (try simp only [sxO] at *); omega) | fail) <;> (try simp (maxSteps := 1000000) only [hb0, hu.one, d1, ↓hold_pre, awayP, runOps, regK, step1, newK, genR, appR, obl, buildR, Value.cells, closeK, keepH, outV, retK, ret1, retC, RetV, Option.getD, runD, stepD, afterK, undef, simprocAttr, sxB, ↓sxD, sxE, sxTab]))
    exact hK
  obtain ⟨hc, h1, h8⟩ := errT_0 he
  obtain ⟨m, rfl⟩ := Int.eq_ofNat_of_zero_le (show 0 ≤ n by omega)
  by_cases h10 : T.length ≤ 10
  case neg =>
    have d1 : decide ((10 : Int) < (T.length : Int)) = true := by rw [decide_eq_true_eq]; omega
    rw [bestQ_many he h10] at hK
    (replace hb0 := true_and True); refine Go1.mk ?_; repeat' ((first | (with_reducible refine Go1.go ?_) | ((with_reducible first | refine brv_mk ?_ ?_ | refine gsplitD ?_ ?_ | refine gsplitG ?_ ?_) <;> intro h <;> (try simp only [Bool.not_eq_true', Bool.not_eq_false'] at h) <;> replace hb0 := h) | (((with_reducible refine isCall (f := 37) ?_); refine callA_nil (by kernel_rfl) ?_; refine (rcheck_ok hu hb _ ?_))) | (refine And.intro ?_ ?_; (try simp only [sxO] at *); omega) | fail) <;> (try simp (maxSteps := 1000000) only [hb0, hu.one, hu.len, hu.sl, he, d1, ↓hold_pre, awayP, runOps, regK, step1, newK, genR, appR, obl, buildR, Value.cells, closeK, keepH, outV, retK, ret1, retC, RetV, Option.getD, runD, stepD, afterK, undef, simprocAttr, sxB, ↓sxD, sxE, sxTab]))
    exact hK
  have d1 : decide ((10 : Int) < (T.length : Int)) = false := by rw [decide_eq_false_iff_not]; omega
  rw [bestQ_ok he h10] at hK
  have t1 := Int.toNat_natCast m
  have t3 : (repN [.int .i64 0] m).map AV.ext = cE natV (List.replicate m 0) := cE_rep natV m 0
  have hbn : bestN T m = rbs (cosN T) (List.range' 0 T.length) (List.replicate m 0) := by unfold bestN; rw [List.range_eq_range']
  rw [hbn] at hK
  (replace hb0 := true_and True); refine Go1.mk ?_; repeat' ((first | (with_reducible refine Go1.go ?_) | ((with_reducible first | refine brv_mk ?_ ?_ | refine gsplitD ?_ ?_ | refine gsplitG ?_ ?_) <;> intro h <;> (try simp only [Bool.not_eq_true', Bool.not_eq_false'] at h) <;> replace hb0 := h) | (((with_reducible refine isCall (f := 37) ?_); refine callA_nil (by kernel_rfl) ?_; refine (rcheck_ok hu hb _ ?_))) | ((with_reducible refine isCall (f := 44) ?_); refine callA ?_) | ((with_reducible refine isCallS (f := 44) ?_); refine (rbest_ok hu hc (by omega) (by omega) T.length 0 (List.replicate m 0) _ (by omega) List.length_replicate (fun x hx => by rw [(List.mem_replicate.1 hx).2]; omega) (Stop.mk ?_))) | (refine And.intro ?_ ?_; (try simp only [sxO] at *); omega) | fail) <;> (try simp (maxSteps := 1000000) only [hb0, hu.one, hu.len, hu.sl, he, d1, t1, t3, cE_ment, cE_kill, hasK_nil, List.nil_append, ↓hold_pre, awayP, runOps, regK, step1, newK, genR, appR, obl, buildR, Value.cells, closeK, keepH, outV, retK, ret1, retC, RetV, Option.getD, runD, stepD, afterK, undef, simprocAttr, sxB, ↓sxD, sxE, sxTab]))
  refine Stop.go ?_
  (replace hb0 := true_and True); refine Go1.mk ?_; repeat' ((first | (with_reducible refine Go1.go ?_) | ((with_reducible first | refine brv_mk ?_ ?_ | refine gsplitD ?_ ?_ | refine gsplitG ?_ ?_) <;> intro h <;> (try simp only [Bool.not_eq_true', Bool.not_eq_false'] at h) <;> replace hb0 := h) | (refine And.intro ?_ ?_; (try simp only [sxO] at *); omega) | fail) <;> (try simp (maxSteps := 1000000) only [hb0, cE_ment, cE_kill, hasK_nil, List.nil_append, ↓hold_pre, awayP, runOps, regK, step1, newK, genR, appR, obl, buildR, Value.cells, closeK, keepH, outV, retK, ret1, retC, RetV, Option.getD, runD, stepD, afterK, undef, simprocAttr, sxB, ↓sxD, sxE, sxTab]))
  exact hK
end
end Go.Proofs.Ytgkfmlgfmcpebaa.Sx
namespace Go.Proofs.Ytgkfmlgfmcpebaa.Sx
open Go Go.RowKit
set_option linter.unusedVariables false
set_option linter.unusedSimpArgs false
set_option maxRecDepth 100000
set_option maxHeartbeats 8000000
attribute [local congr] fin_congr finG_congr stepG_congr step1_congr runOps_congr brv_congr obl_congr condK_congr LoopK_congr seqK_congr CutK_congr vc_congr DrawK_congr regK_congr CallK_congr AskK_congr newK_congr retC_congr ret1_congr retK_congr outV_congr closeK_congr genR_congr appR_congr finD_congr finGD_congr stepGD_congr stepD_congr CallK0_congr runD_congr okR_congr CallS_congr vcX_congr
attribute [local congr] Stop_congr
theorem maxL_one {l : List Nat} (h : 0 < l.length) : l[0] = maxL (l.take 1) := by
  cases l with
  | nil => simp at h
  | cons x r => simp [maxL]
section
variable {M : Mem} {K : AV → Hp → Mem → Prop} {u v : Value} {T : List TK}
def mxSt (M : Mem) (u : Value) (l : List Nat) (j : Nat) : St := { env := [(4, .ext (.int .i64 (j : Int))), (3, .ext (.int .i64 ((maxL (l.take j) : Nat) : Int))), (0, .ext u)], hp := [], M := M, kb := 0, fx := [] }
theorem max_ok (l : List Nat) (hu : IsL M natV u l) (h1 : 1 ≤ l.length) (hb : l.length < 1000000) (hK : K (.ext (.int .i64 ((maxL l : Nat) : Int))) [] M) : CallS Try.prog 42 [.ext u] [] M [] K := by
  refine inlS (cs := []) Try.mixed Try.func42 rfl (by kernel_rfl) 0 rfl rfl ?_
  simp only [Try.f42]
  have d0 : decide ((l.length : Int) < 1) = false := by rw [decide_eq_false_iff_not]; omega
  have f0 := hu.idx (P := Try.prog) (T := 3) tk3 tz3 (by omega) (i := 0) (by omega)
  have hm1 := maxL_one (l := l) (by omega)
  have f0 : lookM Try.prog 3 M (elemP u 1 0) = some (.int .i64 ((maxL (l.take 1) : Nat) : Int)) ∧ nilS u = false ∧ isSl u = true ∧ slen u = l.length ∧ (0 : Int) < (l.length : Int) := ⟨by rw [← hm1]; exact f0.1, f0.2.1, f0.2.2.1, f0.2.2.2.1, by omega⟩
  clear hm1
  (replace hb0 := true_and True); refine Go1.mk ?_; repeat' ((first | (with_reducible refine Go1.go ?_) | ((with_reducible first | refine brv_mk ?_ ?_ | refine gsplitD ?_ ?_ | refine gsplitG ?_ ?_) <;> intro h <;> (try simp only [Bool.not_eq_true', Bool.not_eq_false'] at h) <;> replace hb0 := h) | (refine And.intro ?_ ?_; (try simp only [sxO] at *); omega) | fail) <;> (try simp (maxSteps := 1000000) only [hb0, hu.one, f0, d0, ↓hold_pre, awayP, runOps, regK, step1, newK, genR, appR, obl, buildR, Value.cells, closeK, keepH, outV, retK, ret1, retC, RetV, Option.getD, runD, stepD, afterK, undef, simprocAttr, sxB, ↓sxD, sxE, sxTab]))
  refine ⟨fun d z => ∃ j, j ≤ l.length ∧ d = l.length - j ∧ z = mxSt M u l j, ⟨l.length - 1, mxSt M u l 1, le_sub ⟨rfl, rfl, rfl, trivial⟩ trivial rfl rfl rfl (keepLt0 _), ⟨1, by omega, by omega, rfl⟩⟩, ?_⟩
  rintro d z ⟨j, hj, rfl, rfl⟩
  by_cases hlt : j < l.length
  case neg =>
    obtain rfl : j = l.length := by omega
    have d1 : decide ((l.length : Int) < (l.length : Int)) = false := by simp
    have ht : l.take l.length = l := List.take_length
    (replace hb0 := true_and True); refine Go1.mk ?_; repeat' ((first | (with_reducible refine Go1.go ?_) | ((with_reducible first | refine brv_mk ?_ ?_ | refine gsplitD ?_ ?_ | refine gsplitG ?_ ?_) <;> intro h <;> (try simp only [Bool.not_eq_true', Bool.not_eq_false'] at h) <;> replace hb0 := h) | (refine And.intro ?_ ?_; (try simp only [sxO] at *); omega) | fail) <;> (try simp (maxSteps := 1000000) only [hb0, mxSt, f0, d1, ht, ↓hold_pre, awayP, runOps, regK, step1, newK, genR, appR, obl, buildR, Value.cells, closeK, keepH, outV, retK, ret1, retC, RetV, Option.getD, runD, stepD, afterK, undef, simprocAttr, sxB, ↓sxD, sxE, sxTab]))
    exact hK
  have f1 := hu.idx (P := Try.prog) (T := 3) tk3 tz3 (by omega) hlt
  have hx := maxI (maxL (l.take j)) l[j]
  have ht : max (maxL (l.take j)) l[j] = maxL (l.take (j + 1)) := by
    rw [List.take_add_one, List.getElem?_eq_getElem hlt]
    exact (maxL_snoc _ _).symm
  rw [ht] at hx
  (replace hb0 := true_and True); refine Go1.mk ?_; repeat' ((first | (with_reducible refine Go1.go ?_) | ((with_reducible first | refine brv_mk ?_ ?_ | refine gsplitD ?_ ?_ | refine gsplitG ?_ ?_) <;> intro h <;> (try simp only [Bool.not_eq_true', Bool.not_eq_false'] at h) <;> replace hb0 := h) | (refine And.intro ?_ ?_; (try simp only [sxO] at *); omega) | fail) <;> (try simp (maxSteps := 1000000) only [hb0, mxSt, f1, natV, hx, ↓hold_pre, awayP, runOps, regK, step1, newK, genR, appR, obl, buildR, Value.cells, closeK, keepH, outV, retK, ret1, retC, RetV, Option.getD, runD, stepD, afterK, undef, simprocAttr, sxB, ↓sxD, sxE, sxTab]))
  exact ⟨l.length - (j + 1), mxSt M u l (j + 1), by omega, le_sub ⟨rfl, rfl, rfl, trivial⟩ trivial rfl rfl rfl (keepLt0 _), j + 1, by omega, rfl, rfl⟩
end
end Go.Proofs.Ytgkfmlgfmcpebaa.Sx
namespace Go.Proofs.Ytgkfmlgfmcpebaa.Sx
open Go Go.RowKit
set_option linter.unusedVariables false
set_option linter.unusedSimpArgs false
set_option maxRecDepth 100000
set_option maxHeartbeats 8000000
attribute [local congr] fin_congr finG_congr stepG_congr step1_congr runOps_congr brv_congr obl_congr condK_congr LoopK_congr seqK_congr CutK_congr vc_congr DrawK_congr regK_congr CallK_congr AskK_congr newK_congr retC_congr ret1_congr retK_congr outV_congr closeK_congr genR_congr appR_congr finD_congr finGD_congr stepGD_congr stepD_congr CallK0_congr runD_congr okR_congr CallS_congr vcX_congr
attribute [local congr] Stop_congr
section
variable {M : Mem} {K : AV → Hp → Mem → Prop} {u v : Value} {T : List TK}
theorem maxO_ok {Ty : TypeId} {m : Nat} {E : List Nat} (hE : E.length = m) (hm1 : 1 ≤ m) (hm8 : m ≤ 8) (hK : K (.ext (.int .i64 ((maxL E : Nat) : Int))) [(7, Ty, end8 m E)] M) : CallS Try.prog 42 [.slo 7 0 m 1] [(7, Ty, end8 m E)] M [] K := by
  refine CallS.bor ⟨⟨_, rfl⟩, trivial⟩ fun us M' hM hb => ?_
  obtain ⟨x, _, rfl, h1, rfl⟩ := hb
  have h2 := h1.part (L := E ++ List.replicate (8 - m) 0) (g := natV) (T := Ty) (by simp [lkH, end8]) (by rw [List.length_append]; omega)
  rw [List.drop_zero, List.take_left' hE] at h2
  exact max_ok E h2 (by omega) (by omega) (BorK.same hK)
theorem contN (l : List Nat) (x : Nat) : (l.map fun (x : Nat) => (x : Int)).contains (x : Int) = l.contains x := by
  rw [Bool.eq_iff_iff]
  simp only [List.contains_iff_mem, List.mem_map]
  constructor
  · rintro ⟨y, h1, h2⟩
    have : y = x := by omega
    exact this ▸ h1
  · exact fun h => ⟨x, h, rfl⟩
theorem contO_ok {Ty : TypeId} {m r x : Nat} {E : List Nat} (hE : E.length = m) (hr : r ≤ m) (hm8 : m ≤ 8) (hK : K (.ext (.bool ((E.take r).contains x))) [(7, Ty, end8 m E)] M) : CallS Try.prog 43 [.slo 7 0 r 1, .ext (.int .i64 (x : Int))] [(7, Ty, end8 m E)] M [] K := by
  refine CallS.bor ⟨⟨_, rfl⟩, trivial⟩ fun us M' hM hb => ?_
  obtain ⟨y, _, rfl, h1, z, _, rfl, hz, rfl⟩ := hb
  have hz : z = .int .i64 (x : Int) := hz
  subst hz
  have h2 := h1.part (L := E ++ List.replicate (8 - m) 0) (g := natV) (T := Ty) (by simp [lkH, end8]) (by rw [List.length_append]; omega)
  rw [List.drop_zero, List.take_append_of_le_length (by omega)] at h2
  refine contains_ok y _ _ h2.nat (by rw [List.length_map, List.length_take]; omega) (BorK.same ?_)
  rw [contN]; exact hK
def plH (u v : Value) (m least : Nat) (E : List Nat) (b : Nat) : Hp := [(7, 61, end8 m E), (11, 64, [.fn 41 [.own 7 0, .own 3 0, .own 10 0, .own 9 0, .own 8 0, .own 2 0, .own 11 0]]), (10, 3, [.ext (.int .i64 (b : Int))]), (9, 3, [.ext (.int .i64 (least : Int))]), (8, 22, [.ext v]), (3, 3, [.ext (.int .i64 (m : Int))]), (2, 23, [.ext u])]
def plSt (M : Mem) (u v : Value) (m least k : Nat) (E : List Nat) (b r : Nat) : St := { env := [(28, .ext (.int .i64 (r : Int))), (27, .ext (.int .i64 (m : Int))), (0, .ext (.int .i64 (k : Int))), (1, .own 7 0), (2, .own 3 0), (3, .own 10 0), (4, .own 9 0), (5, .own 8 0), (6, .own 2 0), (7, .own 11 0)], hp := plH u v m least E b, M := M, kb := 100, fx := [7, 11, 10, 9, 8, 3, 2] }
theorem place_ok (hu : IsR M 4 TK.c u T) (hc : chkTL T = true) {m least : Nat} (hm1 : 1 ≤ m) (hm8 : m ≤ 8) {Z : List Nat} (hv : IsL M natV v Z) (hZ : ∀ x ∈ Z, x < T.length) (hZl : Z.length = T.length) : ∀ (q k : Nat) (E : List Nat) (b : Nat) (K : AV → Hp → Mem → Prop), k + q = Z.length → E.length = m → (∀ x ∈ E, x ≤ k * 1048576) → K (.ext (.tuple #[])) (plH u v m least E (plc (cosN T) m least (Z.drop k) E b)) M →
    CallS Try.prog 41 [.ext (.int .i64 (k : Int)), .own 7 0, .own 3 0, .own 10 0, .own 9 0, .own 8 0, .own 2 0, .own 11 0] (plH u v m least E b) M [] K := by
  obtain ⟨hT64, hTc⟩ := chkTL_parts hc
  intro q
  induction q with
  | zero =>
    intro k E b K hq hE hEb hK
    obtain rfl : k = Z.length := by omega
    rw [List.drop_length] at hK
    simp only [plc] at hK
    refine inlS (cs := []) Try.mixed Try.func41 rfl (by kernel_rfl) 100 rfl rfl ?_
    simp only [Try.f41]
    have l8 := end8_len hE hm8
    have b1 : (0 : Int) ≤ (m : Int) := by omega
    have b2 : (m : Int) ≤ 8 := by omega
    have d0 : decide ((Z.length : Int) = (Z.length : Int)) = true := by simp
    by_cases h1 : b ≤ maxL E
    · have d1 : decide ((b : Int) ≤ ((maxL E : Nat) : Int)) = true := by rw [decide_eq_true_eq]; omega
      rw [if_pos (.inl h1)] at hK
      (replace hb0 := true_and True); refine Go1.mk ?_; repeat' ((first | (with_reducible refine Go1.go ?_) | ((with_reducible first | refine brv_mk ?_ ?_ | refine gsplitD ?_ ?_ | refine gsplitG ?_ ?_) <;> intro h <;> (try simp only [Bool.not_eq_true', Bool.not_eq_false'] at h) <;> replace hb0 := h) | ((with_reducible refine isCall (f := 42) ?_); refine callA ?_) | ((with_reducible refine isCallS (f := 42) ?_); refine (maxO_ok hE hm1 hm8 (Stop.mk ?_))) | (refine And.intro ?_ ?_; (try simp only [sxO] at *); omega) | fail) <;> (try simp (maxSteps := 1000000) only [hb0, plH, l8, b1, b2, Int.toNat_natCast, Int.toNat_zero, Nat.sub_zero, Nat.mul_one, Nat.zero_add, Nat.zero_mul, end8_ment, end8_kill, hasK_nil, hv.one, hv.len, hv.sl, d1, ↓hold_pre, awayP, runOps, regK, step1, newK, genR, appR, obl, buildR, Value.cells, closeK, keepH, outV, retK, ret1, retC, RetV, Option.getD, runD, stepD, afterK, undef, simprocAttr, sxB, ↓sxD, sxE, sxTab]))
      refine Stop.go ?_
      (replace hb0 := true_and True); refine Go1.mk ?_; repeat' ((first | (with_reducible refine Go1.go ?_) | ((with_reducible first | refine brv_mk ?_ ?_ | refine gsplitD ?_ ?_ | refine gsplitG ?_ ?_) <;> intro h <;> (try simp only [Bool.not_eq_true', Bool.not_eq_false'] at h) <;> replace hb0 := h) | (refine And.intro ?_ ?_; (try simp only [sxO] at *); omega) | fail) <;> (try simp (maxSteps := 1000000) only [hb0, plH, l8, b1, b2, Int.toNat_natCast, Int.toNat_zero, Nat.sub_zero, Nat.mul_one, Nat.zero_add, Nat.zero_mul, end8_ment, end8_kill, hasK_nil, hv.one, hv.len, hv.sl, d1, ↓hold_pre, awayP, runOps, regK, step1, newK, genR, appR, obl, buildR, Value.cells, closeK, keepH, outV, retK, ret1, retC, RetV, Option.getD, runD, stepD, afterK, undef, simprocAttr, sxB, ↓sxD, sxE, sxTab]))
      exact hK
    have d1 : decide ((b : Int) ≤ ((maxL E : Nat) : Int)) = false := by rw [decide_eq_false_iff_not]; omega
    by_cases h2 : b = least
    · have d2 : decide ((b : Int) = (least : Int)) = true := by rw [decide_eq_true_eq]; omega
      rw [if_pos (.inr h2)] at hK
      (replace hb0 := true_and True); refine Go1.mk ?_; repeat' ((first | (with_reducible refine Go1.go ?_) | ((with_reducible first | refine brv_mk ?_ ?_ | refine gsplitD ?_ ?_ | refine gsplitG ?_ ?_) <;> intro h <;> (try simp only [Bool.not_eq_true', Bool.not_eq_false'] at h) <;> replace hb0 := h) | ((with_reducible refine isCall (f := 42) ?_); refine callA ?_) | ((with_reducible refine isCallS (f := 42) ?_); refine (maxO_ok hE hm1 hm8 (Stop.mk ?_))) | (refine And.intro ?_ ?_; (try simp only [sxO] at *); omega) | fail) <;> (try simp (maxSteps := 1000000) only [hb0, plH, l8, b1, b2, Int.toNat_natCast, Int.toNat_zero, Nat.sub_zero, Nat.mul_one, Nat.zero_add, Nat.zero_mul, end8_ment, end8_kill, hasK_nil, hv.one, hv.len, hv.sl, d1, d2, ↓hold_pre, awayP, runOps, regK, step1, newK, genR, appR, obl, buildR, Value.cells, closeK, keepH, outV, retK, ret1, retC, RetV, Option.getD, runD, stepD, afterK, undef, simprocAttr, sxB, ↓sxD, sxE, sxTab]))
      refine Stop.go ?_
      (replace hb0 := true_and True); refine Go1.mk ?_; repeat' ((first | (with_reducible refine Go1.go ?_) | ((with_reducible first | refine brv_mk ?_ ?_ | refine gsplitD ?_ ?_ | refine gsplitG ?_ ?_) <;> intro h <;> (try simp only [Bool.not_eq_true', Bool.not_eq_false'] at h) <;> replace hb0 := h) | (refine And.intro ?_ ?_; (try simp only [sxO] at *); omega) | fail) <;> (try simp (maxSteps := 1000000) only [hb0, plH, l8, b1, b2, Int.toNat_natCast, Int.toNat_zero, Nat.sub_zero, Nat.mul_one, Nat.zero_add, Nat.zero_mul, end8_ment, end8_kill, hasK_nil, hv.one, hv.len, hv.sl, d1, d2, ↓hold_pre, awayP, runOps, regK, step1, newK, genR, appR, obl, buildR, Value.cells, closeK, keepH, outV, retK, ret1, retC, RetV, Option.getD, runD, stepD, afterK, undef, simprocAttr, sxB, ↓sxD, sxE, sxTab]))
      exact hK
    have d2 : decide ((b : Int) = (least : Int)) = false := by rw [decide_eq_false_iff_not]; omega
    rw [if_neg (by rintro (h | h); exact h1 h; exact h2 h)] at hK
    (replace hb0 := true_and True); refine Go1.mk ?_; repeat' ((first | (with_reducible refine Go1.go ?_) | ((with_reducible first | refine brv_mk ?_ ?_ | refine gsplitD ?_ ?_ | refine gsplitG ?_ ?_) <;> intro h <;> (try simp only [Bool.not_eq_true', Bool.not_eq_false'] at h) <;> replace hb0 := h) | ((with_reducible refine isCall (f := 42) ?_); refine callA ?_) | ((with_reducible refine isCallS (f := 42) ?_); refine (maxO_ok hE hm1 hm8 (Stop.mk ?_))) | (refine And.intro ?_ ?_; (try simp only [sxO] at *); omega) | fail) <;> (try simp (maxSteps := 1000000) only [hb0, plH, l8, b1, b2, Int.toNat_natCast, Int.toNat_zero, Nat.sub_zero, Nat.mul_one, Nat.zero_add, Nat.zero_mul, end8_ment, end8_kill, hasK_nil, hv.one, hv.len, hv.sl, d1, d2, ↓hold_pre, awayP, runOps, regK, step1, newK, genR, appR, obl, buildR, Value.cells, closeK, keepH, outV, retK, ret1, retC, RetV, Option.getD, runD, stepD, afterK, undef, simprocAttr, sxB, ↓sxD, sxE, sxTab]))
    refine Stop.go ?_
    (replace hb0 := true_and True); refine Go1.mk ?_; repeat' ((first | (with_reducible refine Go1.go ?_) | ((with_reducible first | refine brv_mk ?_ ?_ | refine gsplitD ?_ ?_ | refine gsplitG ?_ ?_) <;> intro h <;> (try simp only [Bool.not_eq_true', Bool.not_eq_false'] at h) <;> replace hb0 := h) | (refine And.intro ?_ ?_; (try simp only [sxO] at *); omega) | fail) <;> (try simp (maxSteps := 1000000) only [hb0, plH, l8, b1, b2, Int.toNat_natCast, Int.toNat_zero, Nat.sub_zero, Nat.mul_one, Nat.zero_add, Nat.zero_mul, end8_ment, end8_kill, hasK_nil, hv.one, hv.len, hv.sl, d0, d1, d2, ↓hold_pre, awayP, runOps, regK, step1, newK, genR, appR, obl, buildR, Value.cells, closeK, keepH, outV, retK, ret1, retC, RetV, Option.getD, runD, stepD, afterK, undef, simprocAttr, sxB, ↓sxD, sxE, sxTab]))
    exact hK
  | succ q ih =>
    intro k E b K hq hE hEb hK
    have hkl : k < Z.length := by omega
    have hdr : Z.drop k = Z[k] :: Z.drop (k + 1) := (List.getElem_cons_drop hkl).symm
    have hvk := hv.at (P := Try.prog) (T := 3) tk3 tz3 hkl
    have hi := hZ _ (List.getElem_mem hkl)
    have vnn := hv.nn hkl
    rw [hdr, plc_cons] at hK
    clear hdr
    generalize Z[k] = i at *
    have hvk : lookM Try.prog 3 M (elemP v 1 k) = some (.int .i64 (i : Int)) := hvk
    refine inlS (cs := []) Try.mixed Try.func41 rfl (by kernel_rfl) 100 rfl rfl ?_
    simp only [Try.f41]
    have l8 := end8_len hE hm8
    have b1 : (0 : Int) ≤ (m : Int) := by omega
    have b2 : (m : Int) ≤ 8 := by omega
    have d0 : decide ((k : Int) = (Z.length : Int)) = false := by rw [decide_eq_false_iff_not]; omega
    by_cases h1 : b ≤ maxL E
    · have d1 : decide ((b : Int) ≤ ((maxL E : Nat) : Int)) = true := by rw [decide_eq_true_eq]; omega
      rw [if_pos (.inl h1)] at hK
      (replace hb0 := true_and True); refine Go1.mk ?_; repeat' ((first | (with_reducible refine Go1.go ?_) | ((with_reducible first | refine brv_mk ?_ ?_ | refine gsplitD ?_ ?_ | refine gsplitG ?_ ?_) <;> intro h <;> (try simp only [Bool.not_eq_true', Bool.not_eq_false'] at h) <;> replace hb0 := h) | ((with_reducible refine isCall (f := 42) ?_); refine callA ?_) | ((with_reducible refine isCallS (f := 42) ?_); refine (maxO_ok hE hm1 hm8 (Stop.mk ?_))) | (refine And.intro ?_ ?_; (try simp only [sxO] at *); omega) | fail) <;> (try simp (maxSteps := 1000000) only [hb0, plH, l8, b1, b2, Int.toNat_natCast, Int.toNat_zero, Nat.sub_zero, Nat.mul_one, Nat.zero_add, Nat.zero_mul, end8_ment, end8_kill, hasK_nil, hv.one, hv.len, hv.sl, d1, ↓hold_pre, awayP, runOps, regK, step1, newK, genR, appR, obl, buildR, Value.cells, closeK, keepH, outV, retK, ret1, retC, RetV, Option.getD, runD, stepD, afterK, undef, simprocAttr, sxB, ↓sxD, sxE, sxTab]))
      refine Stop.go ?_
      (replace hb0 := true_and True); refine Go1.mk ?_; repeat' ((first | (with_reducible refine Go1.go ?_) | ((with_reducible first | refine brv_mk ?_ ?_ | refine gsplitD ?_ ?_ | refine gsplitG ?_ ?_) <;> intro h <;> (try simp only [Bool.not_eq_true', Bool.not_eq_false'] at h) <;> replace hb0 := h) | (refine And.intro ?_ ?_; (try simp only [sxO] at *); omega) | fail) <;> (try simp (maxSteps := 1000000) only [hb0, plH, l8, b1, b2, Int.toNat_natCast, Int.toNat_zero, Nat.sub_zero, Nat.mul_one, Nat.zero_add, Nat.zero_mul, end8_ment, end8_kill, hasK_nil, hv.one, hv.len, hv.sl, d1, ↓hold_pre, awayP, runOps, regK, step1, newK, genR, appR, obl, buildR, Value.cells, closeK, keepH, outV, retK, ret1, retC, RetV, Option.getD, runD, stepD, afterK, undef, simprocAttr, sxB, ↓sxD, sxE, sxTab]))
      exact hK
    have d1 : decide ((b : Int) ≤ ((maxL E : Nat) : Int)) = false := by rw [decide_eq_false_iff_not]; omega
    by_cases h2 : b = least
    · have d2 : decide ((b : Int) = (least : Int)) = true := by rw [decide_eq_true_eq]; omega
      rw [if_pos (.inr h2)] at hK
      (replace hb0 := true_and True); refine Go1.mk ?_; repeat' ((first | (with_reducible refine Go1.go ?_) | ((with_reducible first | refine brv_mk ?_ ?_ | refine gsplitD ?_ ?_ | refine gsplitG ?_ ?_) <;> intro h <;> (try simp only [Bool.not_eq_true', Bool.not_eq_false'] at h) <;> replace hb0 := h) | ((with_reducible refine isCall (f := 42) ?_); refine callA ?_) | ((with_reducible refine isCallS (f := 42) ?_); refine (maxO_ok hE hm1 hm8 (Stop.mk ?_))) | (refine And.intro ?_ ?_; (try simp only [sxO] at *); omega) | fail) <;> (try simp (maxSteps := 1000000) only [hb0, plH, l8, b1, b2, Int.toNat_natCast, Int.toNat_zero, Nat.sub_zero, Nat.mul_one, Nat.zero_add, Nat.zero_mul, end8_ment, end8_kill, hasK_nil, hv.one, hv.len, hv.sl, d1, d2, ↓hold_pre, awayP, runOps, regK, step1, newK, genR, appR, obl, buildR, Value.cells, closeK, keepH, outV, retK, ret1, retC, RetV, Option.getD, runD, stepD, afterK, undef, simprocAttr, sxB, ↓sxD, sxE, sxTab]))
      refine Stop.go ?_
      (replace hb0 := true_and True); refine Go1.mk ?_; repeat' ((first | (with_reducible refine Go1.go ?_) | ((with_reducible first | refine brv_mk ?_ ?_ | refine gsplitD ?_ ?_ | refine gsplitG ?_ ?_) <;> intro h <;> (try simp only [Bool.not_eq_true', Bool.not_eq_false'] at h) <;> replace hb0 := h) | (refine And.intro ?_ ?_; (try simp only [sxO] at *); omega) | fail) <;> (try simp (maxSteps := 1000000) only [hb0, plH, l8, b1, b2, Int.toNat_natCast, Int.toNat_zero, Nat.sub_zero, Nat.mul_one, Nat.zero_add, Nat.zero_mul, end8_ment, end8_kill, hasK_nil, hv.one, hv.len, hv.sl, d1, d2, ↓hold_pre, awayP, runOps, regK, step1, newK, genR, appR, obl, buildR, Value.cells, closeK, keepH, outV, retK, ret1, retC, RetV, Option.getD, runD, stepD, afterK, undef, simprocAttr, sxB, ↓sxD, sxE, sxTab]))
      exact hK
    have d2 : decide ((b : Int) = (least : Int)) = false := by rw [decide_eq_false_iff_not]; omega
    rw [if_neg (by rintro (h | h); exact h1 h; exact h2 h)] at hK
    (replace hb0 := true_and True); refine Go1.mk ?_; repeat' ((first | (with_reducible refine Go1.go ?_) | ((with_reducible first | refine brv_mk ?_ ?_ | refine gsplitD ?_ ?_ | refine gsplitG ?_ ?_) <;> intro h <;> (try simp only [Bool.not_eq_true', Bool.not_eq_false'] at h) <;> replace hb0 := h) | ((with_reducible refine isCall (f := 42) ?_); refine callA ?_) | ((with_reducible refine isCallS (f := 42) ?_); refine (maxO_ok hE hm1 hm8 (Stop.mk ?_))) | (refine And.intro ?_ ?_; (try simp only [sxO] at *); omega) | fail) <;> (try simp (maxSteps := 1000000) only [hb0, plH, l8, b1, b2, Int.toNat_natCast, Int.toNat_zero, Nat.sub_zero, Nat.mul_one, Nat.zero_add, Nat.zero_mul, end8_ment, end8_kill, hasK_nil, hv.one, hv.len, hv.sl, d1, d2, ↓hold_pre, awayP, runOps, regK, step1, newK, genR, appR, obl, buildR, Value.cells, closeK, keepH, outV, retK, ret1, retC, RetV, Option.getD, runD, stepD, afterK, undef, simprocAttr, sxB, ↓sxD, sxE, sxTab]))
    refine Stop.go ?_
    (replace hb0 := true_and True); refine Go1.mk ?_; repeat' ((first | (with_reducible refine Go1.go ?_) | ((with_reducible first | refine brv_mk ?_ ?_ | refine gsplitD ?_ ?_ | refine gsplitG ?_ ?_) <;> intro h <;> (try simp only [Bool.not_eq_true', Bool.not_eq_false'] at h) <;> replace hb0 := h) | (refine And.intro ?_ ?_; (try simp only [sxO] at *); omega) | fail) <;> (try simp (maxSteps := 1000000) only [hb0, plH, l8, b1, b2, Int.toNat_natCast, Int.toNat_zero, Nat.sub_zero, Nat.mul_one, Nat.zero_add, Nat.zero_mul, end8_ment, end8_kill, hasK_nil, hv.one, hv.len, hv.sl, d0, d1, d2, ↓hold_pre, awayP, runOps, regK, step1, newK, genR, appR, obl, buildR, Value.cells, closeK, keepH, outV, retK, ret1, retC, RetV, Option.getD, runD, stepD, afterK, undef, simprocAttr, sxB, ↓sxD, sxE, sxTab]))
    refine ⟨fun d z => ∃ r b', d = m - r ∧ r ≤ m ∧ b' = (List.range r).foldl (plcS (cosN T) m least i (Z.drop (k + 1)) E) b ∧ z = plSt M u v m least k E b' r,
      ⟨m, plSt M u v m least k E b 0, le_sub ⟨rfl, rfl, rfl, rfl, rfl, rfl, rfl, rfl, rfl, rfl, trivial⟩ ⟨rfl, rfl, rfl, rfl, rfl, rfl, rfl, trivial⟩ rfl rfl rfl (by simp [keepLt, plSt, plH, lkH]), ⟨0, b, by omega, by omega, rfl, rfl⟩⟩, ?_⟩
    clear d1 d2 h1 h2
    rintro d z ⟨r, b', rfl, hr, hb', rfl⟩
    by_cases hlt : r < m
    case neg =>
      obtain rfl : r = m := by omega
      have c1 : decide ((r : Int) < (r : Int)) = false := by simp
      rw [← hb'] at hK
      (replace hb0 := true_and True); refine Go1.mk ?_; repeat' ((first | (with_reducible refine Go1.go ?_) | ((with_reducible first | refine brv_mk ?_ ?_ | refine gsplitD ?_ ?_ | refine gsplitG ?_ ?_) <;> intro h <;> (try simp only [Bool.not_eq_true', Bool.not_eq_false'] at h) <;> replace hb0 := h) | (refine And.intro ?_ ?_; (try simp only [sxO] at *); omega) | fail) <;> (try simp (maxSteps := 1000000) only [hb0, plSt, c1, plH, l8, b1, b2, Int.toNat_natCast, Int.toNat_zero, Nat.sub_zero, Nat.mul_one, Nat.zero_add, Nat.zero_mul, end8_ment, end8_kill, hasK_nil, hv.one, hv.len, hv.sl, ↓hold_pre, awayP, runOps, regK, step1, newK, genR, appR, obl, buildR, Value.cells, closeK, keepH, outV, retK, ret1, retC, RetV, Option.getD, runD, stepD, afterK, undef, simprocAttr, sxB, ↓sxD, sxE, sxTab]))
      exact hK
    have c1 : decide ((r : Int) < (m : Int)) = true := by rw [decide_eq_true_eq]; omega
    have c2 : (0 : Int) ≤ (r : Int) := by omega
    have c3 : (r : Int) < 8 := by omega
    have c4 : (r : Int) ≤ 8 := by omega
    have wr : IntKind.i64.wrap ((r : Int) + 1) = ((r + 1 : Nat) : Int) := succ_i (by omega)
    have wk : IntKind.i64.wrap ((k : Int) + 1) = ((k + 1 : Nat) : Int) := succ_i (by omega)
    have a1 := end8_at hE hlt
    have hnb : (List.range (r + 1)).foldl (plcS (cosN T) m least i (Z.drop (k + 1)) E) b = plcS (cosN T) m least i (Z.drop (k + 1)) E b' r := by rw [List.range_succ, List.foldl_append, ← hb']; rfl
    cases hcn : (E.take r).contains (E.getD r 0) with
    | true =>
      have hnb2 : plcS (cosN T) m least i (Z.drop (k + 1)) E b' r = b' := by unfold plcS; rw [hcn]; rfl
      rw [hnb2] at hnb
      (replace hb0 := true_and True); refine Go1.mk ?_; repeat' ((first | (with_reducible refine Go1.go ?_) | ((with_reducible first | refine brv_mk ?_ ?_ | refine gsplitD ?_ ?_ | refine gsplitG ?_ ?_) <;> intro h <;> (try simp only [Bool.not_eq_true', Bool.not_eq_false'] at h) <;> replace hb0 := h) | ((with_reducible refine isCall (f := 43) ?_); refine callA ?_) | ((with_reducible refine isCall0 (f := 43) ?_); refine callA0 ?_) | ((with_reducible refine isCallS (f := 43) ?_); refine (contO_ok hE (by omega) hm8 (Stop.mk ?_))) | ((with_reducible refine isDraw [some 31, some 32, some 33, some 34, some 35, some 36] (by decide) ?_); refine draw_rule [(0, []), (1, []), (2, [1]), (3, [1]), (4, [1]), (5, [])] [[], [0], [], [2], [2, 3], [0, 1, 2, 3, 4]] [31, 32, 33, 34, 35] [] (by kernel_rfl) (by kernel_rfl) (by kernel_rfl) (by kernel_rfl) (by exact trivial) ?_) | ((with_reducible refine isDraw [some 37, some 38, some 39, some 40, some 41, some 42, some 43, some 44, some 45, some 46, some 47, some 48, some 49, none] (by decide) ?_); refine draw_rule [(0, []), (1, []), (2, []), (3, [2]), (4, [2, 3]), (5, [2, 3, 4]), (6, [2, 3]), (7, [2, 3]), (8, [2]), (9, [2]), (10, [2]), (11, []), (12, []), (13, [])] [[], [0], [0, 1], [], [], [], [4, 5], [4, 5, 6], [3, 4, 5, 6, 7], [3, 4, 5, 6, 7, 8], [3, 4, 5, 6, 7, 8, 9], [0, 1, 2, 3, 4, 5, 6, 7, 8, 9, 10], [0, 1, 2, 3, 4, 5, 6, 7, 8, 9, 10, 11], [0, 1, 2, 3, 4, 5, 6, 7, 8, 9, 10, 11, 12]] [37, 38, 39, 40, 41, 42, 43, 44, 45, 46, 47] [] (by kernel_rfl) (by kernel_rfl) (by kernel_rfl) (by kernel_rfl) (by exact trivial) ?_) | ((with_reducible refine isDraw [some 54, some 55, some 56, some 57, some 58, some 59, some 60, some 61, some 62, some 63, some 64, some 65, some 66, none] (by decide) ?_); refine draw_rule [(0, []), (1, []), (2, []), (3, [2]), (4, [2, 3]), (5, [2, 3, 4]), (6, [2, 3]), (7, [2, 3]), (8, [2]), (9, [2]), (10, [2]), (11, []), (12, []), (13, [])] [[], [0], [0, 1], [], [], [], [4, 5], [4, 5, 6], [3, 4, 5, 6, 7], [3, 4, 5, 6, 7, 8], [3, 4, 5, 6, 7, 8, 9], [0, 1, 2, 3, 4, 5, 6, 7, 8, 9, 10], [0, 1, 2, 3, 4, 5, 6, 7, 8, 9, 10, 11], [0, 1, 2, 3, 4, 5, 6, 7, 8, 9, 10, 11, 12]] [54, 55, 56, 57, 58, 59, 60, 61, 62, 63, 64] [] (by kernel_rfl) (by kernel_rfl) (by kernel_rfl) (by kernel_rfl) (by exact trivial) ?_) | (refine And.intro ?_ ?_; (try simp only [sxO] at *); omega) | fail) <;> (try simp (maxSteps := 1000000) only [hb0, plSt, c1, c2, c3, c4, a1, plH, l8, b1, b2, Int.toNat_natCast, Int.toNat_zero, Nat.sub_zero, Nat.mul_one, Nat.zero_add, Nat.zero_mul, end8_ment, end8_kill, hasK_nil, hv.one, hv.len, hv.sl, ↓hold_pre, awayP, runOps, regK, step1, newK, genR, appR, obl, buildR, Value.cells, closeK, keepH, outV, retK, ret1, retC, RetV, Option.getD, runD, stepD, afterK, undef, simprocAttr, sxB, ↓sxD, sxE, sxTab]))
      rw [hcn]
      refine Stop.go ?_
      (replace hb0 := true_and True); refine Go1.mk ?_; repeat' ((first | (with_reducible refine Go1.go ?_) | ((with_reducible first | refine brv_mk ?_ ?_ | refine gsplitD ?_ ?_ | refine gsplitG ?_ ?_) <;> intro h <;> (try simp only [Bool.not_eq_true', Bool.not_eq_false'] at h) <;> replace hb0 := h) | ((with_reducible refine isDraw [some 31, some 32, some 33, some 34, some 35, some 36] (by decide) ?_); refine draw_rule [(0, []), (1, []), (2, [1]), (3, [1]), (4, [1]), (5, [])] [[], [0], [], [2], [2, 3], [0, 1, 2, 3, 4]] [31, 32, 33, 34, 35] [] (by kernel_rfl) (by kernel_rfl) (by kernel_rfl) (by kernel_rfl) (by exact trivial) ?_) | ((with_reducible refine isDraw [some 37, some 38, some 39, some 40, some 41, some 42, some 43, some 44, some 45, some 46, some 47, some 48, some 49, none] (by decide) ?_); refine draw_rule [(0, []), (1, []), (2, []), (3, [2]), (4, [2, 3]), (5, [2, 3, 4]), (6, [2, 3]), (7, [2, 3]), (8, [2]), (9, [2]), (10, [2]), (11, []), (12, []), (13, [])] [[], [0], [0, 1], [], [], [], [4, 5], [4, 5, 6], [3, 4, 5, 6, 7], [3, 4, 5, 6, 7, 8], [3, 4, 5, 6, 7, 8, 9], [0, 1, 2, 3, 4, 5, 6, 7, 8, 9, 10], [0, 1, 2, 3, 4, 5, 6, 7, 8, 9, 10, 11], [0, 1, 2, 3, 4, 5, 6, 7, 8, 9, 10, 11, 12]] [37, 38, 39, 40, 41, 42, 43, 44, 45, 46, 47] [] (by kernel_rfl) (by kernel_rfl) (by kernel_rfl) (by kernel_rfl) (by exact trivial) ?_) | ((with_reducible refine isDraw [some 54, some 55, some 56, some 57, some 58, some 59, some 60, some 61, some 62, some 63, some 64, some 65, some 66, none] (by decide) ?_); refine draw_rule [(0, []), (1, []), (2, []), (3, [2]), (4, [2, 3]), (5, [2, 3, 4]), (6, [2, 3]), (7, [2, 3]), (8, [2]), (9, [2]), (10, [2]), (11, []), (12, []), (13, [])] [[], [0], [0, 1], [], [], [], [4, 5], [4, 5, 6], [3, 4, 5, 6, 7], [3, 4, 5, 6, 7, 8], [3, 4, 5, 6, 7, 8, 9], [0, 1, 2, 3, 4, 5, 6, 7, 8, 9, 10], [0, 1, 2, 3, 4, 5, 6, 7, 8, 9, 10, 11], [0, 1, 2, 3, 4, 5, 6, 7, 8, 9, 10, 11, 12]] [54, 55, 56, 57, 58, 59, 60, 61, 62, 63, 64] [] (by kernel_rfl) (by kernel_rfl) (by kernel_rfl) (by kernel_rfl) (by exact trivial) ?_) | (refine And.intro ?_ ?_; (try simp only [sxO] at *); omega) | fail) <;> (try simp (maxSteps := 1000000) only [hb0, wr, plH, l8, b1, b2, Int.toNat_natCast, Int.toNat_zero, Nat.sub_zero, Nat.mul_one, Nat.zero_add, Nat.zero_mul, end8_ment, end8_kill, hasK_nil, hv.one, hv.len, hv.sl, ↓hold_pre, awayP, runOps, regK, step1, newK, genR, appR, obl, buildR, Value.cells, closeK, keepH, outV, retK, ret1, retC, RetV, Option.getD, runD, stepD, afterK, undef, simprocAttr, sxB, ↓sxD, sxE, sxTab]))
      exact ⟨m - (r + 1), plSt M u v m least k E b' (r + 1), by omega, le_sub ⟨rfl, rfl, rfl, rfl, rfl, rfl, rfl, rfl, rfl, rfl, trivial⟩ ⟨rfl, rfl, rfl, rfl, rfl, rfl, rfl, trivial⟩ rfl rfl rfl (by simp [keepLt, plSt, plH, lkH]), r + 1, b', rfl, by omega, hnb.symm, rfl⟩
    | false =>
      have hnb2 : plcS (cosN T) m least i (Z.drop (k + 1)) E b' r = plc (cosN T) m least (Z.drop (k + 1)) (E.set r (E.getD r 0 + cosN T i)) b' := by unfold plcS; rw [hcn]; rfl
      rw [hnb2] at hnb
      have hEr : E.getD r 0 ≤ k * 1048576 := by
        rw [List.getD_eq_getElem?_getD, List.getElem?_eq_getElem (by omega)]
        exact hEb _ (List.getElem_mem _)
      have hci := hTc i hi
      have hcb : cosN T i ≤ 1048576 := by unfold cosN; omega
      have w1 : IntKind.i64.wrap (((E.getD r 0 : Nat) : Int) + ((cosN T i : Nat) : Int)) = ((E.getD r 0 + cosN T i : Nat) : Int) := by rw [wrap_id (by omega) (by omega)]; omega
      have w2 : IntKind.i64.wrap (((E.getD r 0 + cosN T i : Nat) : Int) - ((cosN T i : Nat) : Int)) = ((E.getD r 0 : Nat) : Int) := by rw [wrap_id (by omega) (by omega)]; omega
      have st := end8_set hE hlt (E.getD r 0 + cosN T i)
      have hE2 : (E.set r (E.getD r 0 + cosN T i)).length = m := by rw [List.length_set, hE]
      have a2 := end8_at hE2 hlt
      rw [getD_set (by omega), if_pos rfl] at a2
      have sb := end8_set hE2 hlt (E.getD r 0)
      rw [set_back (by omega)] at sb
      have l2 := end8_len hE2 hm8
      have hEb2 := setE_le hEb (b := r) (y := E.getD r 0 + cosN T i) (Nat.le_trans (Nat.add_le_add hEr hcb) (by rw [Nat.succ_mul]; exact Nat.le_refl _))
      have unn := hu.nn hi
      have upt := hu.pt hi
      have uat := hu.atF (P := Try.prog) (T := 3) (fun _ => rfl) tk3 tz3 hi (o := 3) (v := .int .i64 T[i].cost) rfl
      rw [cosN_cost hi hci.1] at uat
      have i1 : (0 : Int) ≤ (i : Int) := by omega
      have i2 : (i : Int) < (T.length : Int) := by omega
      have k1 : (0 : Int) ≤ (k : Int) := by omega
      have k2 : (k : Int) < (Z.length : Int) := by omega
      have ih2 := fun K hK => ih (k + 1) (E.set r (E.getD r 0 + cosN T i)) b' K (by omega) hE2 hEb2 hK
      clear ih
      generalize plc (cosN T) m least (Z.drop (k + 1)) (E.set r (E.getD r 0 + cosN T i)) b' = nb at *
      (replace hb0 := true_and True); refine Go1.mk ?_; repeat' ((first | (with_reducible refine Go1.go ?_) | ((with_reducible first | refine brv_mk ?_ ?_ | refine gsplitD ?_ ?_ | refine gsplitG ?_ ?_) <;> intro h <;> (try simp only [Bool.not_eq_true', Bool.not_eq_false'] at h) <;> replace hb0 := h) | ((with_reducible refine isCall (f := 43) ?_); refine callA ?_) | ((with_reducible refine isCall0 (f := 43) ?_); refine callA0 ?_) | ((with_reducible refine isCallS (f := 43) ?_); refine (contO_ok hE (by omega) hm8 (Stop.mk ?_))) | ((with_reducible refine isDraw [some 31, some 32, some 33, some 34, some 35, some 36] (by decide) ?_); refine draw_rule [(0, []), (1, []), (2, [1]), (3, [1]), (4, [1]), (5, [])] [[], [0], [], [2], [2, 3], [0, 1, 2, 3, 4]] [31, 32, 33, 34, 35] [] (by kernel_rfl) (by kernel_rfl) (by kernel_rfl) (by kernel_rfl) (by exact trivial) ?_) | ((with_reducible refine isDraw [some 37, some 38, some 39, some 40, some 41, some 42, some 43, some 44, some 45, some 46, some 47, some 48, some 49, none] (by decide) ?_); refine draw_rule [(0, []), (1, []), (2, []), (3, [2]), (4, [2, 3]), (5, [2, 3, 4]), (6, [2, 3]), (7, [2, 3]), (8, [2]), (9, [2]), (10, [2]), (11, []), (12, []), (13, [])] [[], [0], [0, 1], [], [], [], [4, 5], [4, 5, 6], [3, 4, 5, 6, 7], [3, 4, 5, 6, 7, 8], [3, 4, 5, 6, 7, 8, 9], [0, 1, 2, 3, 4, 5, 6, 7, 8, 9, 10], [0, 1, 2, 3, 4, 5, 6, 7, 8, 9, 10, 11], [0, 1, 2, 3, 4, 5, 6, 7, 8, 9, 10, 11, 12]] [37, 38, 39, 40, 41, 42, 43, 44, 45, 46, 47] [] (by kernel_rfl) (by kernel_rfl) (by kernel_rfl) (by kernel_rfl) (by exact trivial) ?_) | ((with_reducible refine isDraw [some 54, some 55, some 56, some 57, some 58, some 59, some 60, some 61, some 62, some 63, some 64, some 65, some 66, none] (by decide) ?_); refine draw_rule [(0, []), (1, []), (2, []), (3, [2]), (4, [2, 3]), (5, [2, 3, 4]), (6, [2, 3]), (7, [2, 3]), (8, [2]), (9, [2]), (10, [2]), (11, []), (12, []), (13, [])] [[], [0], [0, 1], [], [], [], [4, 5], [4, 5, 6], [3, 4, 5, 6, 7], [3, 4, 5, 6, 7, 8], [3, 4, 5, 6, 7, 8, 9], [0, 1, 2, 3, 4, 5, 6, 7, 8, 9, 10], [0, 1, 2, 3, 4, 5, 6, 7, 8, 9, 10, 11], [0, 1, 2, 3, 4, 5, 6, 7, 8, 9, 10, 11, 12]] [54, 55, 56, 57, 58, 59, 60, 61, 62, 63, 64] [] (by kernel_rfl) (by kernel_rfl) (by kernel_rfl) (by kernel_rfl) (by exact trivial) ?_) | (refine And.intro ?_ ?_; (try simp only [sxO] at *); omega) | fail) <;> (try simp (maxSteps := 1000000) only [hb0, plSt, c1, c2, c3, c4, a1, plH, l8, b1, b2, Int.toNat_natCast, Int.toNat_zero, Nat.sub_zero, Nat.mul_one, Nat.zero_add, Nat.zero_mul, end8_ment, end8_kill, hasK_nil, hv.one, hv.len, hv.sl, ↓hold_pre, awayP, runOps, regK, step1, newK, genR, appR, obl, buildR, Value.cells, closeK, keepH, outV, retK, ret1, retC, RetV, Option.getD, runD, stepD, afterK, undef, simprocAttr, sxB, ↓sxD, sxE, sxTab]))
      rw [hcn]
      refine Stop.go ?_
      (replace hb0 := true_and True); refine Go1.mk ?_; repeat' ((first | (with_reducible refine Go1.go ?_) | ((with_reducible first | refine brv_mk ?_ ?_ | refine gsplitD ?_ ?_ | refine gsplitG ?_ ?_) <;> intro h <;> (try simp only [Bool.not_eq_true', Bool.not_eq_false'] at h) <;> replace hb0 := h) | ((with_reducible refine isCall (f := 41) ?_); refine callA ?_) | ((with_reducible refine isCallS (f := 41) ?_); refine (ih2 _ (Stop.mk ?_))) | ((with_reducible refine isDraw [some 31, some 32, some 33, some 34, some 35, some 36] (by decide) ?_); refine draw_rule [(0, []), (1, []), (2, [1]), (3, [1]), (4, [1]), (5, [])] [[], [0], [], [2], [2, 3], [0, 1, 2, 3, 4]] [31, 32, 33, 34, 35] [] (by kernel_rfl) (by kernel_rfl) (by kernel_rfl) (by kernel_rfl) (by exact trivial) ?_) | ((with_reducible refine isDraw [some 37, some 38, some 39, some 40, some 41, some 42, some 43, some 44, some 45, some 46, some 47, some 48, some 49, none] (by decide) ?_); refine draw_rule [(0, []), (1, []), (2, []), (3, [2]), (4, [2, 3]), (5, [2, 3, 4]), (6, [2, 3]), (7, [2, 3]), (8, [2]), (9, [2]), (10, [2]), (11, []), (12, []), (13, [])] [[], [0], [0, 1], [], [], [], [4, 5], [4, 5, 6], [3, 4, 5, 6, 7], [3, 4, 5, 6, 7, 8], [3, 4, 5, 6, 7, 8, 9], [0, 1, 2, 3, 4, 5, 6, 7, 8, 9, 10], [0, 1, 2, 3, 4, 5, 6, 7, 8, 9, 10, 11], [0, 1, 2, 3, 4, 5, 6, 7, 8, 9, 10, 11, 12]] [37, 38, 39, 40, 41, 42, 43, 44, 45, 46, 47] [] (by kernel_rfl) (by kernel_rfl) (by kernel_rfl) (by kernel_rfl) (by exact trivial) ?_) | ((with_reducible refine isDraw [some 54, some 55, some 56, some 57, some 58, some 59, some 60, some 61, some 62, some 63, some 64, some 65, some 66, none] (by decide) ?_); refine draw_rule [(0, []), (1, []), (2, []), (3, [2]), (4, [2, 3]), (5, [2, 3, 4]), (6, [2, 3]), (7, [2, 3]), (8, [2]), (9, [2]), (10, [2]), (11, []), (12, []), (13, [])] [[], [0], [0, 1], [], [], [], [4, 5], [4, 5, 6], [3, 4, 5, 6, 7], [3, 4, 5, 6, 7, 8], [3, 4, 5, 6, 7, 8, 9], [0, 1, 2, 3, 4, 5, 6, 7, 8, 9, 10], [0, 1, 2, 3, 4, 5, 6, 7, 8, 9, 10, 11], [0, 1, 2, 3, 4, 5, 6, 7, 8, 9, 10, 11, 12]] [54, 55, 56, 57, 58, 59, 60, 61, 62, 63, 64] [] (by kernel_rfl) (by kernel_rfl) (by kernel_rfl) (by kernel_rfl) (by exact trivial) ?_) | (refine And.intro ?_ ?_; (try simp only [sxO] at *); omega) | fail) <;> (try simp (maxSteps := 1000000) only [hb0, c2, c3, i1, i2, k1, k2, a1, st, w1, wk, hvk, vnn, unn, upt, uat, hu.one, hu.len, hu.sl, plH, l8, b1, b2, Int.toNat_natCast, Int.toNat_zero, Nat.sub_zero, Nat.mul_one, Nat.zero_add, Nat.zero_mul, end8_ment, end8_kill, hasK_nil, hv.one, hv.len, hv.sl, ↓hold_pre, awayP, runOps, regK, step1, newK, genR, appR, obl, buildR, Value.cells, closeK, keepH, outV, retK, ret1, retC, RetV, Option.getD, runD, stepD, afterK, undef, simprocAttr, sxB, ↓sxD, sxE, sxTab]))
      refine Stop.go ?_
      (replace hb0 := true_and True); refine Go1.mk ?_; repeat' ((first | (with_reducible refine Go1.go ?_) | ((with_reducible first | refine brv_mk ?_ ?_ | refine gsplitD ?_ ?_ | refine gsplitG ?_ ?_) <;> intro h <;> (try simp only [Bool.not_eq_true', Bool.not_eq_false'] at h) <;> replace hb0 := h) | ((with_reducible refine isDraw [some 31, some 32, some 33, some 34, some 35, some 36] (by decide) ?_); refine draw_rule [(0, []), (1, []), (2, [1]), (3, [1]), (4, [1]), (5, [])] [[], [0], [], [2], [2, 3], [0, 1, 2, 3, 4]] [31, 32, 33, 34, 35] [] (by kernel_rfl) (by kernel_rfl) (by kernel_rfl) (by kernel_rfl) (by exact trivial) ?_) | ((with_reducible refine isDraw [some 37, some 38, some 39, some 40, some 41, some 42, some 43, some 44, some 45, some 46, some 47, some 48, some 49, none] (by decide) ?_); refine draw_rule [(0, []), (1, []), (2, []), (3, [2]), (4, [2, 3]), (5, [2, 3, 4]), (6, [2, 3]), (7, [2, 3]), (8, [2]), (9, [2]), (10, [2]), (11, []), (12, []), (13, [])] [[], [0], [0, 1], [], [], [], [4, 5], [4, 5, 6], [3, 4, 5, 6, 7], [3, 4, 5, 6, 7, 8], [3, 4, 5, 6, 7, 8, 9], [0, 1, 2, 3, 4, 5, 6, 7, 8, 9, 10], [0, 1, 2, 3, 4, 5, 6, 7, 8, 9, 10, 11], [0, 1, 2, 3, 4, 5, 6, 7, 8, 9, 10, 11, 12]] [37, 38, 39, 40, 41, 42, 43, 44, 45, 46, 47] [] (by kernel_rfl) (by kernel_rfl) (by kernel_rfl) (by kernel_rfl) (by exact trivial) ?_) | ((with_reducible refine isDraw [some 54, some 55, some 56, some 57, some 58, some 59, some 60, some 61, some 62, some 63, some 64, some 65, some 66, none] (by decide) ?_); refine draw_rule [(0, []), (1, []), (2, []), (3, [2]), (4, [2, 3]), (5, [2, 3, 4]), (6, [2, 3]), (7, [2, 3]), (8, [2]), (9, [2]), (10, [2]), (11, []), (12, []), (13, [])] [[], [0], [0, 1], [], [], [], [4, 5], [4, 5, 6], [3, 4, 5, 6, 7], [3, 4, 5, 6, 7, 8], [3, 4, 5, 6, 7, 8, 9], [0, 1, 2, 3, 4, 5, 6, 7, 8, 9, 10], [0, 1, 2, 3, 4, 5, 6, 7, 8, 9, 10, 11], [0, 1, 2, 3, 4, 5, 6, 7, 8, 9, 10, 11, 12]] [54, 55, 56, 57, 58, 59, 60, 61, 62, 63, 64] [] (by kernel_rfl) (by kernel_rfl) (by kernel_rfl) (by kernel_rfl) (by exact trivial) ?_) | (refine And.intro ?_ ?_; (try simp only [sxO] at *); omega) | fail) <;> (try simp (maxSteps := 1000000) only [hb0, c2, c3, i1, i2, k1, k2, a2, sb, l2, w2, wr, hvk, vnn, unn, upt, uat, hu.one, hu.len, hu.sl, plH, l8, b1, b2, Int.toNat_natCast, Int.toNat_zero, Nat.sub_zero, Nat.mul_one, Nat.zero_add, Nat.zero_mul, end8_ment, end8_kill, hasK_nil, hv.one, hv.len, hv.sl, ↓hold_pre, awayP, runOps, regK, step1, newK, genR, appR, obl, buildR, Value.cells, closeK, keepH, outV, retK, ret1, retC, RetV, Option.getD, runD, stepD, afterK, undef, simprocAttr, sxB, ↓sxD, sxE, sxTab]))
      exact ⟨m - (r + 1), plSt M u v m least k E nb (r + 1), by omega, le_sub ⟨rfl, rfl, rfl, rfl, rfl, rfl, rfl, rfl, rfl, rfl, trivial⟩ ⟨rfl, rfl, rfl, rfl, rfl, rfl, rfl, trivial⟩ rfl rfl rfl (by simp [keepLt, plSt, plH, lkH]), r + 1, nb, rfl, by omega, hnb.symm, rfl⟩
end
end Go.Proofs.Ytgkfmlgfmcpebaa.Sx
namespace Go.Proofs.Ytgkfmlgfmcpebaa.Sx
open Go Go.RowKit
set_option linter.unusedVariables false
set_option linter.unusedSimpArgs false
set_option maxRecDepth 100000
set_option maxHeartbeats 8000000
attribute [local congr] fin_congr finG_congr stepG_congr step1_congr runOps_congr brv_congr obl_congr condK_congr LoopK_congr seqK_congr CutK_congr vc_congr DrawK_congr regK_congr CallK_congr AskK_congr newK_congr retC_congr ret1_congr retK_congr outV_congr closeK_congr genR_congr appR_congr finD_congr finGD_congr stepGD_congr stepD_congr CallK0_congr runD_congr okR_congr CallS_congr vcX_congr
attribute [local congr] Stop_congr
theorem CallS.eqv {P : Program} {f : FuncId} {args : List AV} {H H2 : Hp} {M : Mem} {mv : List Nat} {K : AV → Hp → Mem → Prop} (he : ∀ k, lkH H k = lkH H2 k) (h : CallS P f args H2 M mv K) : CallS P f args H M mv K := fun ρ w us hh ha => by
  refine (h ρ w us ⟨fun k T cs b hk hb => hh.hp k T cs b (by rw [he]; exact hk) hb, fun k T cs hk hb => hh.no k T cs (by rw [he]; exact hk) hb, fun k k' b b' hk hk' => hh.inj k k' b b' (by rw [he]; exact hk) (by rw [he]; exact hk'), hh.sub⟩ ha).mono fun e w' hall => ?_
  obtain ⟨x, v, H', M', ρ', e1, hK, hl⟩ := hall
  exact ⟨x, v, H', M', ρ', e1, hK, { is := hl.is, heap := hl.heap, keep := fun k hk => hl.keep k (by rw [← he]; exact hk), same := fun k hk hm => hl.same k (by rw [← he]; exact hk) hm, ment := hl.ment, fresh := fun k b hk hb => (by
    rcases hl.fresh k b hk hb with h1 | ⟨j, x, h1, h2, h3⟩
    · exact .inl h1
    · exact .inr ⟨j, x, by rw [he]; exact h1, h2, h3⟩), os := hl.os, tape := hl.tape, output := hl.output, size := hl.size, block := fun b hb hk => hl.block b hb fun k x h1 h2 => hk k x (by rw [he]; exact h1) h2, le := hl.le, mem := hl.mem }⟩
section
variable {M : Mem} {K : AV → Hp → Mem → Prop} {u v : Value} {T : List TK}
theorem plc_bestN (hc : chkTL T = true) (h10 : T.length ≤ 10) {m : Nat} (hm : 1 ≤ m) {Z : List Nat} (hZ : lonZ T Z) : plc (cosN T) m (bndT T m) Z (List.replicate m 0) 10485761 = bestN T m := by
  obtain ⟨_, hTc⟩ := chkTL_parts hc
  refine best_same (by omega) hZ.1 List.nodup_range (fun i hi => ?_) ?_
  · have := hTc i (List.mem_range.1 hi)
    unfold cosN; omega
  · have := sT_le hTc T.length (Nat.le_refl _)
    have e : ((List.range T.length).map (cosN T)).sum = sT T T.length := rfl
    omega
theorem Best_ok (hu : IsR M 4 TK.c u T) (hb : T.length < 1000000) (n : Int) (hK : ∀ M', Mem.le M M' → K (.ext (.tuple #[.int .i64 (bestQ T n).1, .int .i64 (bestQ T n).2])) [] M') : CallS Try.prog 21 [.ext u, .ext (.int .i64 n)] [] M [] K := by
  refine inlS (cs := []) Try.mixed Try.func21 rfl (by kernel_rfl) 0 rfl rfl ?_
  simp only [Try.f21]
  have hce : u.cells = #[u] := cells_sl hu.sl
  unfold Value.cells at hce
  by_cases he : errT T n = 0
  case neg =>
    have d1 : decide (errT T n = 0) = false := decide_eq_false he
    rw [bestQ_err he] at hK
    (replace hb0 := true_and True); refine Go1.mk ?_; repeat' ((first | (with_reducible refine Go1.go ?_) | ((with_reducible first | refine brv_mk ?_ ?_ | refine gsplitD ?_ ?_ | refine gsplitG ?_ ?_) <;> intro h <;> (try simp only [Bool.not_eq_true', Bool.not_eq_false'] at h) <;> replace hb0 := h) | (((with_reducible refine isCall (f := 34) ?_); refine callA_nil (by kernel_rfl) ?_; refine (tcheck_ok hu hb n ?_))) | (refine And.intro ?_ ?_; (try simp only [sxO] at *); omega) | fail) <;> (try simp (maxSteps := 1000000) only [hb0, hu.one, hce, d1, hasK_nil, ↓hold_pre, awayP, runOps, regK, step1, newK, genR, appR, obl, buildR, Value.cells, closeK, keepH, outV, retK, ret1, retC, RetV, Option.getD, runD, stepD, afterK, undef, simprocAttr, sxB, ↓sxD, sxE, sxTab]))
    exact hK _ (Mem.le.refl _)
  obtain ⟨hc, h1, h8⟩ := errT_0 he
  obtain ⟨m, rfl⟩ := Int.eq_ofNat_of_zero_le (show 0 ≤ n by omega)
  by_cases h10 : T.length ≤ 10
  case neg =>
    have d1 : decide ((10 : Int) < (T.length : Int)) = true := by rw [decide_eq_true_eq]; omega
    rw [bestQ_many he h10] at hK
    (replace hb0 := true_and True); refine Go1.mk ?_; repeat' ((first | (with_reducible refine Go1.go ?_) | ((with_reducible first | refine brv_mk ?_ ?_ | refine gsplitD ?_ ?_ | refine gsplitG ?_ ?_) <;> intro h <;> (try simp only [Bool.not_eq_true', Bool.not_eq_false'] at h) <;> replace hb0 := h) | (((with_reducible refine isCall (f := 34) ?_); refine callA_nil (by kernel_rfl) ?_; refine (tcheck_ok hu hb _ ?_))) | (refine And.intro ?_ ?_; (try simp only [sxO] at *); omega) | fail) <;> (try simp (maxSteps := 1000000) only [hb0, hu.one, hce, hu.len, hu.sl, he, d1, hasK_nil, ↓hold_pre, awayP, runOps, regK, step1, newK, genR, appR, obl, buildR, Value.cells, closeK, keepH, outV, retK, ret1, retC, RetV, Option.getD, runD, stepD, afterK, undef, simprocAttr, sxB, ↓sxD, sxE, sxTab]))
    exact hK _ (Mem.le.refl _)
  have d1 : decide ((10 : Int) < (T.length : Int)) = false := by rw [decide_eq_false_iff_not]; omega
  rw [bestQ_ok he h10] at hK
  have hm8 : m ≤ 8 := by omega
  have hm1 : 1 ≤ m := by omega
  (replace hb0 := true_and True); refine Go1.mk ?_; repeat' ((first | (with_reducible refine Go1.go ?_) | ((with_reducible first | refine brv_mk ?_ ?_ | refine gsplitD ?_ ?_ | refine gsplitG ?_ ?_) <;> intro h <;> (try simp only [Bool.not_eq_true', Bool.not_eq_false'] at h) <;> replace hb0 := h) | (((with_reducible refine isCall (f := 34) ?_); refine callA_nil (by kernel_rfl) ?_; refine (tcheck_ok hu hb _ ?_))) | ((first | ((with_reducible refine isCall (f := 39) ?_); refine callA_nil (by kernel_rfl) ?_) | ((with_reducible refine isCall0 (f := 39) ?_); refine callA0_nil (by kernel_rfl) ?_)); refine (lon_ok hu hb (fun v Z M1 m1 z1 z2 z3 => Stop.mk ?_))) | ((with_reducible refine isDraw [some 21, some 22, some 23, some 24, some 25, some 8, some 9, some 10, none, none, none] (by decide) ?_); refine draw_rule [(0, []), (2, [0]), (3, [0, 2]), (5, [0, 2, 3]), (6, [0, 2, 3]), (7, [0, 2, 3]), (1, [2, 3]), (4, []), (8, []), (9, []), (10, [])] [[], [0], [], [], [0, 1, 2, 3], [], [], [], [0, 1, 2, 3, 4, 5, 6, 7], [0, 1, 2, 3, 4, 5, 6, 7, 8], [0, 1, 2, 3, 4, 5, 6, 7, 8, 9]] [21, 22, 23, 24, 25, 8, 9, 10] [] (by kernel_rfl) (by kernel_rfl) (by kernel_rfl) (by kernel_rfl) (by exact trivial) ?_) | (refine And.intro ?_ ?_; (try simp only [sxO] at *); omega) | fail) <;> (try simp (maxSteps := 1000000) only [hb0, hu.one, hce, hu.len, hu.sl, he, d1, hasK_nil, mentL_ext, List.nil_append, ↓hold_pre, awayP, runOps, regK, step1, newK, genR, appR, obl, buildR, Value.cells, closeK, keepH, outV, retK, ret1, retC, RetV, Option.getD, runD, stepD, afterK, undef, simprocAttr, sxB, ↓sxD, sxE, sxTab]))
  have m1 : Mem.le M M1 := m1
  have z1 : lonZ T Z := z1
  have z2 : IsL M1 natV v Z := z2
  have hu1 := hu.le m1
  clear z3
  refine Stop.go ?_
  have hplc := plc_bestN hc h10 hm1 z1
  have hZl : Z.length = T.length := by rw [z1.1.length_eq, List.length_range]
  have e8 := (end8_zero hm8).symm
  (replace hb0 := true_and True); refine Go1.mk ?_; repeat' ((first | (with_reducible refine Go1.go ?_) | ((with_reducible first | refine brv_mk ?_ ?_ | refine gsplitD ?_ ?_ | refine gsplitG ?_ ?_) <;> intro h <;> (try simp only [Bool.not_eq_true', Bool.not_eq_false'] at h) <;> replace hb0 := h) | ((first | ((with_reducible refine isCall (f := 40) ?_); refine callA_nil (by kernel_rfl) ?_) | ((with_reducible refine isCall0 (f := 40) ?_); refine callA0_nil (by kernel_rfl) ?_)); refine (bound_ok hu1 hc hm1 hm8 ?_)) | ((with_reducible refine isCall (f := 41) ?_); refine callA ?_) | ((with_reducible refine isCallS (f := 41) ?_); refine (CallS.eqv (H2 := plH u v m (bndT T m) (List.replicate m 0) 10485761) (fun k => ?_) (place_ok hu1 hc hm1 hm8 z2 (lonZ_in z1) hZl Z.length 0 (List.replicate m 0) 10485761 _ (by omega) List.length_replicate (fun x hx => by rw [(List.mem_replicate.1 hx).2]; omega) (Stop.mk ?_)))) | ((with_reducible refine isDraw [some 21, some 22, some 23, some 24, some 25, some 8, some 9, some 10, none, none, none] (by decide) ?_); refine draw_rule [(0, []), (2, [0]), (3, [0, 2]), (5, [0, 2, 3]), (6, [0, 2, 3]), (7, [0, 2, 3]), (1, [2, 3]), (4, []), (8, []), (9, []), (10, [])] [[], [0], [], [], [0, 1, 2, 3], [], [], [], [0, 1, 2, 3, 4, 5, 6, 7], [0, 1, 2, 3, 4, 5, 6, 7, 8], [0, 1, 2, 3, 4, 5, 6, 7, 8, 9]] [21, 22, 23, 24, 25, 8, 9, 10] [] (by kernel_rfl) (by kernel_rfl) (by kernel_rfl) (by kernel_rfl) (by exact trivial) ?_) | (refine And.intro ?_ ?_; (try simp only [sxO] at *); omega) | fail) <;> (try simp (maxSteps := 1000000) only [hb0, hu1.one, z2.one, hce, hasK_nil, mentL_ext, List.nil_append, ↓hold_pre, awayP, runOps, regK, step1, newK, genR, appR, obl, buildR, Value.cells, closeK, keepH, outV, retK, ret1, retC, RetV, Option.getD, runD, stepD, afterK, undef, simprocAttr, sxB, ↓sxD, sxE, sxTab]))
  · unfold plH
    rw [end8_zero hm8]
    simp only [lkH]
    by_cases k7 : 7 = k
    · subst k7; simp
    · simp only [if_neg k7]; rfl
  · rw [hplc]
    refine Stop.go ?_
    (replace hb0 := true_and True); refine Go1.mk ?_; repeat' ((first | (with_reducible refine Go1.go ?_) | ((with_reducible first | refine brv_mk ?_ ?_ | refine gsplitD ?_ ?_ | refine gsplitG ?_ ?_) <;> intro h <;> (try simp only [Bool.not_eq_true', Bool.not_eq_false'] at h) <;> replace hb0 := h) | ((with_reducible refine isDraw [some 21, some 22, some 23, some 24, some 25, some 8, some 9, some 10, none, none, none] (by decide) ?_); refine draw_rule [(0, []), (2, [0]), (3, [0, 2]), (5, [0, 2, 3]), (6, [0, 2, 3]), (7, [0, 2, 3]), (1, [2, 3]), (4, []), (8, []), (9, []), (10, [])] [[], [0], [], [], [0, 1, 2, 3], [], [], [], [0, 1, 2, 3, 4, 5, 6, 7], [0, 1, 2, 3, 4, 5, 6, 7, 8], [0, 1, 2, 3, 4, 5, 6, 7, 8, 9]] [21, 22, 23, 24, 25, 8, 9, 10] [] (by kernel_rfl) (by kernel_rfl) (by kernel_rfl) (by kernel_rfl) (by exact trivial) ?_) | (refine And.intro ?_ ?_; (try simp only [sxO] at *); omega) | fail) <;> (try simp (maxSteps := 1000000) only [hb0, plH, hu1.one, z2.one, end8_ment, hasK_nil, mentL_ext, List.nil_append, ↓hold_pre, awayP, runOps, regK, step1, newK, genR, appR, obl, buildR, Value.cells, closeK, keepH, outV, retK, ret1, retC, RetV, Option.getD, runD, stepD, afterK, undef, simprocAttr, sxB, ↓sxD, sxE, sxTab]))
    exact hK M1 m1
end
end Go.Proofs.Ytgkfmlgfmcpebaa.Sx
namespace Go.Proofs.Ytgkfmlgfmcpebaa.Sx
open Go Go.RowKit
set_option linter.unusedVariables false
set_option linter.unusedSimpArgs false
set_option maxRecDepth 100000
set_option maxHeartbeats 8000000
attribute [local congr] fin_congr finG_congr stepG_congr step1_congr runOps_congr brv_congr obl_congr condK_congr LoopK_congr seqK_congr CutK_congr vc_congr DrawK_congr regK_congr CallK_congr AskK_congr newK_congr retC_congr ret1_congr retK_congr outV_congr closeK_congr genR_congr appR_congr finD_congr finGD_congr stepGD_congr stepD_congr CallK0_congr runD_congr okR_congr CallS_congr vcX_congr
attribute [local congr] Stop_congr
def tkC (L : List TK) : List AV := (L.flatMap TK.c).map .ext
theorem tkC_len (L : List TK) : (tkC L).length = L.length * 4 := by
  unfold tkC
  rw [List.length_map, flat_len (z := 4) (fun _ => rfl)]
theorem tkC_ment (L : List TK) : mentL (tkC L) = [] := mentL_ext _
theorem tkC_kill (k : Nat) (L : List TK) : killL k (tkC L) = tkC L := killL_exts _ _
theorem tkC_app (L : List TK) (x : TK) : tkC L ++ [.ext (.string (bs x.pk)), .ext (.string (bs x.ts)), .ext (.int .i64 x.env), .ext (.int .i64 x.cost)] = tkC (L ++ [x]) := by simp [tkC, TK.c]
def mkX (cs : List Int) (i : Nat) : TK := ⟨[112], [116], ((i % 3 : Nat) : Int), cs.getD i 0⟩
def mkP (cs : List Int) (i : Nat) : List TK := (List.range i).map (mkX cs)
def mkT (cs : List Int) : List TK := mkP cs cs.length
theorem mkP_len (cs : List Int) (i : Nat) : (mkP cs i).length = i := by simp [mkP]
theorem mkP_succ (cs : List Int) (i : Nat) : mkP cs (i + 1) = mkP cs i ++ [mkX cs i] := by simp [mkP, List.range_succ]
section
variable {M : Mem} {K : AV → Hp → Mem → Prop} {w : Value} {cs : List Int}
def tsSt (M : Mem) (w : Value) (cs : List Int) (i : Nat) : St := { env := [(4, .ext (.int .i64 (i : Int))), (3, .slo 221 0 i 4), (0, .ext w)], hp := [(221, 49, tkC (mkP cs i))], M := M, kb := 200, fx := [] }
theorem tasks_ok (hw : IsL M intV64 w cs) (hb : cs.length < 1000000) (hK : K (.slo 221 0 cs.length 4) [(221, 49, tkC (mkT cs))] M) : CallS Try.prog 23 [.ext w] [] M [] K := by
  refine inlS (cs := []) Try.mixed Try.func23 rfl (by kernel_rfl) 200 rfl rfl ?_
  simp only [Try.f23]
  (replace hb0 := true_and True); refine Go1.mk ?_; repeat' ((first | (with_reducible refine Go1.go ?_) | ((with_reducible first | refine brv_mk ?_ ?_ | refine gsplitD ?_ ?_ | refine gsplitG ?_ ?_) <;> intro h <;> (try simp only [Bool.not_eq_true', Bool.not_eq_false'] at h) <;> replace hb0 := h) | (refine And.intro ?_ ?_; (try simp only [sxO] at *); omega) | fail) <;> (try simp (maxSteps := 1000000) only [hb0, hw.one, ↓hold_pre, awayP, runOps, regK, step1, newK, genR, appR, obl, buildR, Value.cells, closeK, keepH, outV, retK, ret1, retC, RetV, Option.getD, runD, stepD, afterK, undef, simprocAttr, sxB, ↓sxD, sxE, sxTab]))
  refine ⟨fun d z => ∃ i, i ≤ cs.length ∧ d = cs.length - i ∧ z = tsSt M w cs i, ⟨cs.length, tsSt M w cs 0, (le_nil 3 221 49 4 rfl (.inl (by simp [awayB, mentE, mentH, mentL, AV.ment, hasK]))).trans (le_sub ⟨rfl, rfl, rfl, trivial⟩ ⟨by simp [lkH, tsSt, tkC, mkP], trivial⟩ rfl rfl rfl (by simp [keepLt, tsSt, lkH])), ⟨0, by omega, by omega, rfl⟩⟩, ?_⟩
  rintro d z ⟨i, hi, rfl, rfl⟩
  by_cases hlt : i < cs.length
  case neg =>
    obtain rfl : i = cs.length := by omega
    have f1 := hw.fin hlt
    (replace hb0 := true_and True); refine Go1.mk ?_; repeat' ((first | (with_reducible refine Go1.go ?_) | ((with_reducible first | refine brv_mk ?_ ?_ | refine gsplitD ?_ ?_ | refine gsplitG ?_ ?_) <;> intro h <;> (try simp only [Bool.not_eq_true', Bool.not_eq_false'] at h) <;> replace hb0 := h) | (refine And.intro ?_ ?_; (try simp only [sxO] at *); omega) | fail) <;> (try simp (maxSteps := 1000000) only [hb0, tsSt, f1, tkC_ment, tkC_kill, hasK_nil, ↓hold_pre, awayP, runOps, regK, step1, newK, genR, appR, obl, buildR, Value.cells, closeK, keepH, outV, retK, ret1, retC, RetV, Option.getD, runD, stepD, afterK, undef, simprocAttr, sxB, ↓sxD, sxE, sxTab]))
    exact hK
  have f1 := hw.idx (P := Try.prog) (T := 3) tk3 tz3 (by omega) hlt
  have hle := tkC_len (mkP cs i)
  rw [mkP_len] at hle
  have hap := tkC_app (mkP cs i) (mkX cs i)
  rw [← mkP_succ] at hap
  have hget : cs[i] = cs.getD i 0 := by rw [List.getD_eq_getElem?_getD, List.getElem?_eq_getElem hlt]; rfl
  rw [hget] at f1
  have hap : tkC (mkP cs i) ++ [.ext (.string (bs [112])), .ext (.string (bs [116])), .ext (.int .i64 ((i % 3 : Nat) : Int)), .ext (.int .i64 (cs.getD i 0))] = tkC (mkP cs (i + 1)) := hap
  have hmod : ((i : Int)).tmod 3 = ((i % 3 : Nat) : Int) := rfl
  (replace hb0 := true_and True); refine Go1.mk ?_; repeat' ((first | (with_reducible refine Go1.go ?_) | ((with_reducible first | refine brv_mk ?_ ?_ | refine gsplitD ?_ ?_ | refine gsplitG ?_ ?_) <;> intro h <;> (try simp only [Bool.not_eq_true', Bool.not_eq_false'] at h) <;> replace hb0 := h) | (refine And.intro ?_ ?_; (try simp only [sxO] at *); omega) | fail) <;> (try simp (maxSteps := 1000000) only [hb0, tsSt, f1, intV64, hmod, hle, hap, tkC_ment, tkC_kill, hasK_nil, bs_mk, bs_app, bs_ext, bs_size, bs_toList, bs_at, bs_cells, List.take_length, imp_ga, guard_pk, guard_pk2, ↓hold_pre, awayP, runOps, regK, step1, newK, genR, appR, obl, buildR, Value.cells, closeK, keepH, outV, retK, ret1, retC, RetV, Option.getD, runD, stepD, afterK, undef, simprocAttr, sxB, ↓sxD, sxE, sxTab]))
  exact ⟨cs.length - (i + 1), tsSt M w cs (i + 1), by omega, le_sub ⟨rfl, rfl, rfl, trivial⟩ ⟨by simp [lkH, tsSt], trivial⟩ rfl rfl rfl (by simp [keepLt, tsSt, lkH]), i + 1, by omega, rfl, rfl⟩
theorem tasksF_ok (hw : IsL M intV64 w cs) (hb : cs.length < 1000000) (hK : ∀ U M', Mem.le M M' → IsR M' 4 TK.c U (mkT cs) → FreshS M U → K (.ext U) [] M') : CallS Try.prog 23 [.ext w] [] M [] K := by
  refine CallS.frzF (tasks_ok hw hb ?_)
  have hl : (mkT cs).length = cs.length := mkP_len cs cs.length
  refine FrzF.one ((mkT cs).flatMap TK.c) rfl (by rw [flat_len (z := 4) (fun _ => rfl), hl]) fun U M' h1 h2 h3 => hK U M' h1 ?_ h3
  unfold IsR
  rw [hl]; exact h2
theorem tasksB_ok {k n : Nat} {Ty : TypeId} (hn : n = cs.length) (hb : cs.length < 1000000) (hK : ∀ U M', Mem.le M M' → IsR M' 4 TK.c U (mkT cs) → K (.ext U) [(k, Ty, cE intV64 cs)] M') : CallS Try.prog 23 [.slo k 0 n 1] [(k, Ty, cE intV64 cs)] M [] K := by
  refine CallS.bor ⟨⟨_, rfl⟩, trivial⟩ fun us M' hM hb' => ?_
  obtain ⟨x, _, rfl, h1, rfl⟩ := hb'
  refine tasksF_ok (h1.isL (L := cs) (T := Ty) (by simp [lkH]) hn) hb fun U M2 a1 a2 a3 => ?_
  exact ⟨fun j hj => rfl, fun M3 h5 h6 _ => hK U M3 h5 (SlM.move a2 a3 h6)⟩
def grI (l : List Int) : Int := l.foldl (fun n x => if n < x then x else n) 0
def grSt (M : Mem) (w : Value) (l : List Int) (i : Nat) : St := { env := [(4, .ext (.int .i64 (i : Int))), (3, .ext (.int .i64 (grI (l.take i)))), (0, .ext w)], hp := [], M := M, kb := 0, fx := [] }
theorem greatest_ok {l : List Int} (hw : IsL M intV64 w l) (hb : l.length < 1000000) (hK : K (.ext (.int .i64 (grI l))) [] M) : CallS Try.prog 25 [.ext w] [] M [] K := by
  refine inlS (cs := []) Try.mixed Try.func25 rfl (by kernel_rfl) 0 rfl rfl ?_
  simp only [Try.f25]
  (replace hb0 := true_and True); refine Go1.mk ?_; repeat' ((first | (with_reducible refine Go1.go ?_) | ((with_reducible first | refine brv_mk ?_ ?_ | refine gsplitD ?_ ?_ | refine gsplitG ?_ ?_) <;> intro h <;> (try simp only [Bool.not_eq_true', Bool.not_eq_false'] at h) <;> replace hb0 := h) | (refine And.intro ?_ ?_; (try simp only [sxO] at *); omega) | fail) <;> (try simp (maxSteps := 1000000) only [hb0, hw.one, ↓hold_pre, awayP, runOps, regK, step1, newK, genR, appR, obl, buildR, Value.cells, closeK, keepH, outV, retK, ret1, retC, RetV, Option.getD, runD, stepD, afterK, undef, simprocAttr, sxB, ↓sxD, sxE, sxTab]))
  refine ⟨fun d z => ∃ i, i ≤ l.length ∧ d = l.length - i ∧ z = grSt M w l i, ⟨l.length, grSt M w l 0, le_sub ⟨rfl, rfl, rfl, trivial⟩ trivial rfl rfl rfl (keepLt0 _), ⟨0, by omega, by omega, rfl⟩⟩, ?_⟩
  rintro d z ⟨i, hi, rfl, rfl⟩
  by_cases hlt : i < l.length
  case neg =>
    obtain rfl : i = l.length := by omega
    have f1 := hw.fin hlt
    have ht : l.take l.length = l := List.take_length
    (replace hb0 := true_and True); refine Go1.mk ?_; repeat' ((first | (with_reducible refine Go1.go ?_) | ((with_reducible first | refine brv_mk ?_ ?_ | refine gsplitD ?_ ?_ | refine gsplitG ?_ ?_) <;> intro h <;> (try simp only [Bool.not_eq_true', Bool.not_eq_false'] at h) <;> replace hb0 := h) | (refine And.intro ?_ ?_; (try simp only [sxO] at *); omega) | fail) <;> (try simp (maxSteps := 1000000) only [hb0, grSt, f1, ht, ↓hold_pre, awayP, runOps, regK, step1, newK, genR, appR, obl, buildR, Value.cells, closeK, keepH, outV, retK, ret1, retC, RetV, Option.getD, runD, stepD, afterK, undef, simprocAttr, sxB, ↓sxD, sxE, sxTab]))
    exact hK
  have f1 := hw.idx (P := Try.prog) (T := 3) tk3 tz3 (by omega) hlt
  have hx : (if grI (l.take i) < l[i] then l[i] else grI (l.take i)) = grI (l.take (i + 1)) := by
    unfold grI
    rw [List.take_add_one, List.getElem?_eq_getElem hlt]
    simp only [Option.toList_some, List.foldl_append, List.foldl_cons, List.foldl_nil]
  (replace hb0 := true_and True); refine Go1.mk ?_; repeat' ((first | (with_reducible refine Go1.go ?_) | ((with_reducible first | refine brv_mk ?_ ?_ | refine gsplitD ?_ ?_ | refine gsplitG ?_ ?_) <;> intro h <;> (try simp only [Bool.not_eq_true', Bool.not_eq_false'] at h) <;> replace hb0 := h) | (refine And.intro ?_ ?_; (try simp only [sxO] at *); omega) | fail) <;> (try simp (maxSteps := 1000000) only [hb0, grSt, f1, intV64, hx, ↓hold_pre, awayP, runOps, regK, step1, newK, genR, appR, obl, buildR, Value.cells, closeK, keepH, outV, retK, ret1, retC, RetV, Option.getD, runD, stepD, afterK, undef, simprocAttr, sxB, ↓sxD, sxE, sxTab]))
  exact ⟨l.length - (i + 1), grSt M w l (i + 1), by omega, le_sub ⟨rfl, rfl, rfl, trivial⟩ trivial rfl rfl rfl (keepLt0 _), i + 1, by omega, rfl, rfl⟩
end
end Go.Proofs.Ytgkfmlgfmcpebaa.Sx
namespace Go.Proofs.Ytgkfmlgfmcpebaa.Sx
open Go Go.RowKit
set_option linter.unusedVariables false
set_option linter.unusedSimpArgs false
set_option maxRecDepth 100000
set_option maxHeartbeats 8000000
attribute [local congr] fin_congr finG_congr stepG_congr step1_congr runOps_congr brv_congr obl_congr condK_congr LoopK_congr seqK_congr CutK_congr vc_congr DrawK_congr regK_congr CallK_congr AskK_congr newK_congr retC_congr ret1_congr retK_congr outV_congr closeK_congr genR_congr appR_congr finD_congr finGD_congr stepGD_congr stepD_congr CallK0_congr runD_congr okR_congr CallS_congr vcX_congr
attribute [local congr] Stop_congr
def natI (P : List (List Nat)) : List (List Int) := P.map fun l => l.map fun (x : Nat) => (x : Int)
theorem LsP_natI (P : List (List Nat)) : LsP P = LsI (natI P) := by
  unfold LsP LsI natI
  rw [List.map_map]
  refine List.map_congr_left fun l _ => ?_
  simp only [Function.comp, List.map_map]
  rfl
def t5 : List TK := mkT [5, 4, 3, 3, 3]
theorem t5_div : divR t5 2 allY [[0, 3], [1, 2, 4]] 0 := by
  refine .inr ⟨by decide, 2, rfl, some [[0, 3], [1, 2, 4]], ⟨[0, 1, 2, 3, 4], ⟨List.Perm.refl _, ?_⟩, by decide⟩, rfl, rfl⟩
  have h : ([0, 1, 2, 3, 4] : List Nat).Pairwise (fun x y => cosC t5 x y < 0 ∨ (cosC t5 x y = 0 ∧ x < y)) := by decide
  exact h
theorem t5_err : errT t5 2 = 0 := by decide
theorem t5_end : endQ t5 (natI [[0, 3], [1, 2, 4]]) = ([8, 10], 0) := by decide
theorem t5_bnd : bndQ t5 2 = 9 := by decide
theorem t5_best : bestQ t5 2 = (9, 0) := by decide
theorem t5_gr : grI [8, 10] = 10 := by decide
section
variable {M : Mem} {K : AV → Hp → Mem → Prop}
theorem known_ok (hK : ∀ M', Mem.le M M' → K (.ext (.bool true)) [] M') : CallS Try.prog 16 [] [] M [] K := by
  refine inlS (cs := []) Try.mixed Try.func16 rfl (by kernel_rfl) 0 rfl rfl ?_
  simp only [Try.f16]
  have hc5 : [AV.ext (.int .i64 5), .ext (.int .i64 4), .ext (.int .i64 3), .ext (.int .i64 3), .ext (.int .i64 3)] = cE intV64 [5, 4, 3, 3, 3] := rfl
  (replace hb0 := true_and True); refine Go1.mk ?_; repeat' ((first | (with_reducible refine Go1.go ?_) | ((with_reducible first | refine brv_mk ?_ ?_ | refine gsplitD ?_ ?_ | refine gsplitG ?_ ?_) <;> intro h <;> (try simp only [Bool.not_eq_true', Bool.not_eq_false'] at h) <;> replace hb0 := h) | ((with_reducible refine isCall (f := 23) ?_); refine callA ?_) | ((with_reducible refine isCallS (f := 23) ?_); refine (tasksB_ok (cs := [5, 4, 3, 3, 3]) rfl (by decide) (fun u M1 m1 hu => Stop.mk ?_))) | (refine And.intro ?_ ?_; (try simp only [sxO] at *); omega) | fail) <;> (try simp (maxSteps := 1000000) only [hb0, hc5, cE_ment, hasK_nil, ↓hold_pre, awayP, runOps, regK, step1, newK, genR, appR, obl, buildR, Value.cells, closeK, keepH, outV, retK, ret1, retC, RetV, Option.getD, runD, stepD, afterK, undef, simprocAttr, sxB, ↓sxD, sxE, sxTab]))
  have m1 : Mem.le M M1 := m1
  have hu : IsR M1 4 TK.c u t5 := hu
  clear hc5
  refine Stop.go ?_
  have hb : t5.length < 1000000 := by decide
  (replace hb0 := true_and True); refine Go1.mk ?_; repeat' ((first | (with_reducible refine Go1.go ?_) | ((with_reducible first | refine brv_mk ?_ ?_ | refine gsplitD ?_ ?_ | refine gsplitG ?_ ?_) <;> intro h <;> (try simp only [Bool.not_eq_true', Bool.not_eq_false'] at h) <;> replace hb0 := h) | (((with_reducible refine isCall (f := 13) ?_); refine callA_nil (by kernel_rfl) ?_; refine (Divide_ok hu hb 2 (fun M2 U P e m2 d1 hU => Stop.mk ?_)))) | (refine And.intro ?_ ?_; (try simp only [sxO] at *); omega) | fail) <;> (try simp (maxSteps := 1000000) only [hb0, hu.one, cE_ment, hasK_nil, ↓hold_pre, awayP, runOps, regK, step1, newK, genR, appR, obl, buildR, Value.cells, closeK, keepH, outV, retK, ret1, retC, RetV, Option.getD, runD, stepD, afterK, undef, simprocAttr, sxB, ↓sxD, sxE, sxTab]))
  have m2 : Mem.le M1 M2 := m2
  have d1 : divR t5 2 allY P e := d1
  have hU : LLF M1 M2 U (LsP P) := hU
  obtain ⟨rfl, rfl⟩ := divR_one d1 t5_div
  have hL := hU.ll
  rw [LsP_natI] at hL
  have hu2 := hu.le m2
  have ho := hL.sl.2.2
  refine Stop.go ?_
  (replace hb0 := true_and True); refine Go1.mk ?_; repeat' ((first | (with_reducible refine Go1.go ?_) | ((with_reducible first | refine brv_mk ?_ ?_ | refine gsplitD ?_ ?_ | refine gsplitG ?_ ?_) <;> intro h <;> (try simp only [Bool.not_eq_true', Bool.not_eq_false'] at h) <;> replace hb0 := h) | (((with_reducible refine isCall (f := 18) ?_); refine callA_nil (by kernel_rfl) ?_; refine (Ends_ok hu2 hb hL (by decide) (by decide) (fun V M3 m3 hV _ => Stop.mk ?_)))) | (refine And.intro ?_ ?_; (try simp only [sxO] at *); omega) | fail) <;> (try simp (maxSteps := 1000000) only [hb0, hu2.one, ho, cE_ment, hasK_nil, ↓hold_pre, awayP, runOps, regK, step1, newK, genR, appR, obl, buildR, Value.cells, closeK, keepH, outV, retK, ret1, retC, RetV, Option.getD, runD, stepD, afterK, undef, simprocAttr, sxB, ↓sxD, sxE, sxTab]))
  have m3 : Mem.le M2 M3 := m3
  rw [t5_end] at hV
  have hV : IsL M3 intV64 V [8, 10] := hV
  rw [t5_end]
  have hu3 := hu2.le m3
  have hb9 := t5_bnd
  have he2 := t5_err
  refine Stop.go ?_
  (replace hb0 := true_and True); refine Go1.mk ?_; repeat' ((first | (with_reducible refine Go1.go ?_) | ((with_reducible first | refine brv_mk ?_ ?_ | refine gsplitD ?_ ?_ | refine gsplitG ?_ ?_) <;> intro h <;> (try simp only [Bool.not_eq_true', Bool.not_eq_false'] at h) <;> replace hb0 := h) | (((with_reducible refine isCall (f := 24) ?_); refine callA_nil (by kernel_rfl) ?_; refine (Bound_ok hu3 hb 2 ?_))) | (((with_reducible refine isCall (f := 21) ?_); refine callA_nil (by kernel_rfl) ?_; refine (Best_ok hu3 hb 2 (fun M4 m4 => Stop.mk ?_)))) | (refine And.intro ?_ ?_; (try simp only [sxO] at *); omega) | fail) <;> (try simp (maxSteps := 1000000) only [hb0, hu3.one, hV.one, hb9, he2, cE_ment, hasK_nil, ↓hold_pre, awayP, runOps, regK, step1, newK, genR, appR, obl, buildR, Value.cells, closeK, keepH, outV, retK, ret1, retC, RetV, Option.getD, runD, stepD, afterK, undef, simprocAttr, sxB, ↓sxD, sxE, sxTab]))
  have m4 : Mem.le M3 M4 := m4
  have hV4 := hV.le m4
  rw [t5_best]
  have hk := hK M4 (m1.trans (m2.trans (m3.trans m4)))
  have hgr := t5_gr
  refine Stop.go ?_
  (replace hb0 := true_and True); refine Go1.mk ?_; repeat' ((first | (with_reducible refine Go1.go ?_) | ((with_reducible first | refine brv_mk ?_ ?_ | refine gsplitD ?_ ?_ | refine gsplitG ?_ ?_) <;> intro h <;> (try simp only [Bool.not_eq_true', Bool.not_eq_false'] at h) <;> replace hb0 := h) | (((with_reducible refine isCall (f := 25) ?_); refine callA_nil (by kernel_rfl) ?_; refine (greatest_ok hV4 (by decide) (Stop.mk ?_)))) | (refine And.intro ?_ ?_; (try simp only [sxO] at *); omega) | fail) <;> (try simp (maxSteps := 1000000) only [hb0, hV4.one, hgr, cE_ment, hasK_nil, ↓hold_pre, awayP, runOps, regK, step1, newK, genR, appR, obl, buildR, Value.cells, closeK, keepH, outV, retK, ret1, retC, RetV, Option.getD, runD, stepD, afterK, undef, simprocAttr, sxB, ↓sxD, sxE, sxTab]))
  exact Stop.go hk
end
end Go.Proofs.Ytgkfmlgfmcpebaa.Sx
namespace Go.Proofs.Ytgkfmlgfmcpebaa.Sx
open Go Go.RowKit
set_option linter.unusedVariables false
set_option linter.unusedSimpArgs false
set_option maxRecDepth 100000
set_option maxHeartbeats 8000000
attribute [local congr] fin_congr finG_congr stepG_congr step1_congr runOps_congr brv_congr obl_congr condK_congr LoopK_congr seqK_congr CutK_congr vc_congr DrawK_congr regK_congr CallK_congr AskK_congr newK_congr retC_congr ret1_congr retK_congr outV_congr closeK_congr genR_congr appR_congr finD_congr finGD_congr stepGD_congr stepD_congr CallK0_congr runD_congr okR_congr CallS_congr vcX_congr
attribute [local congr] Stop_congr
theorem tkC_set : ∀ {L : List TK} {i : Nat} (h : i < L.length) (e : Int), (tkC L).set (i * 4 + 2) (.ext (.int .i64 e)) = tkC (L.set i { L[i] with env := e })
  | x :: L, 0, _, e => by simp [tkC, TK.c]
  | x :: L, i + 1, h, e => by
    have ih := tkC_set (L := L) (i := i) (by simpa using h) e
    have e1 : tkC (x :: L) = [.ext (.string (bs x.pk)), .ext (.string (bs x.ts)), .ext (.int .i64 x.env), .ext (.int .i64 x.cost)] ++ tkC L := by simp [tkC, TK.c]
    have e2 : ∀ y, tkC (x :: L.set i y) = [.ext (.string (bs x.pk)), .ext (.string (bs x.ts)), .ext (.int .i64 x.env), .ext (.int .i64 x.cost)] ++ tkC (L.set i y) := fun y => by simp [tkC, TK.c]
    rw [e1, List.set_append_right _ _ (by simp; omega), List.set_cons_succ, e2]
    congr 1
    refine Eq.trans ?_ ih
    congr 1
    simp only [List.length_cons, List.length_nil]; omega
theorem FrzF.keepZ {K : AV → Hp → Mem → Prop} {H H2 : Hp} {M' : Mem} {k n z : Nat} {T : TypeId} (cs : List Value) (h1 : lkH H k = none) (h2 : cs.length = n * z) (h3 : hasK k (mentH H2) = false) (h4 : lkH H2 k = none) (h : ∀ u M'', Mem.le M' M'' → SlM M'' z u n cs → FreshS M' u → K (.ext u) H2 M'') : FrzF K H (.slo k 0 n z) ((k, T, cs.map .ext) :: H2) M' :=
  .inr ⟨none, [], [], k, n, z, T, cs, H2, rfl, rfl, h4, h1, h2, by simpa [mentL] using h3, h⟩
structure okT (x : TK) : Prop where
  pk : x.pk = [112]
  ts : x.ts = [116]
  e0 : 0 ≤ x.env
  e2 : x.env ≤ 2
  c1 : 1 ≤ x.cost
  c2 : x.cost ≤ 100
theorem mkT_ok {cs : List Int} (h : ∀ c ∈ cs, 1 ≤ c ∧ c ≤ 100) : ∀ x ∈ mkT cs, okT x := fun x hx => by
  unfold mkT mkP at hx
  obtain ⟨i, hi, rfl⟩ := List.mem_map.1 hx
  have hi := List.mem_range.1 hi
  have := h (cs.getD i 0) (by rw [List.getD_eq_getElem?_getD, List.getElem?_eq_getElem hi]; exact List.getElem_mem _)
  exact ⟨rfl, rfl, by simp only [mkX]; omega, by simp only [mkX]; omega, this.1, this.2⟩
section
variable {M : Mem} {K : AV → Hp → Mem → Prop}
theorem tasksO_ok {k n : Nat} {cs : List Int} {Ty : TypeId} (hk : k ≠ 221) (hn : n = cs.length) (hb : cs.length < 1000000) (hK : K (.slo 221 0 n 4) [(221, 49, tkC (mkT cs)), (k, Ty, cE intV64 cs)] M) : CallS Try.prog 23 [.slo k 0 n 1] [(k, Ty, cE intV64 cs)] M [] K := by
  subst hn
  refine CallS.bor ⟨⟨_, rfl⟩, trivial⟩ fun us M' hM hb' => ?_
  obtain ⟨x, _, rfl, h1, rfl⟩ := hb'
  refine tasks_ok (h1.isL (L := cs) (T := Ty) (by simp [lkH]) rfl) hb ⟨fun j hj => ?_, fun M3 _ _ h => by rw [h rfl]; exact hK⟩
  simp only [lkH] at hj ⊢
  split at hj
  · rename_i e
    rw [if_neg (by omega)]
  · cases hj
theorem pick3_ok (u : Value) (l : List Int) (p : Nat) (L : List Int) (hL : L.length = 3) (hu : IsL M intV64 u l) (hp : p < 1000000) (hK : ∀ x ∈ L, K (.ext (.int .i64 x)) [(31, 27, [.ext u, .ext (.int .i64 ((p + 1 : Nat) : Int))]), (311, 3, cE intV64 L)] M) :
    CallS Try.prog 26 [.own 31 0, .slo 311 0 3 1] [(311, 3, cE intV64 L), (31, 27, [.ext u, .ext (.int .i64 (p : Int))])] M [] K := by
  refine inlS (cs := []) Try.mixed Try.func26 rfl (by kernel_rfl) 400 rfl rfl ?_
  simp only [Try.f26]
  (replace hb0 := true_and True); refine Go1.mk ?_; repeat' ((first | (with_reducible refine Go1.go ?_) | ((with_reducible first | refine brv_mk ?_ ?_ | refine gsplitD ?_ ?_ | refine gsplitG ?_ ?_) <;> intro h <;> (try simp only [Bool.not_eq_true', Bool.not_eq_false'] at h) <;> replace hb0 := h) | ((with_reducible refine isCall (f := 17) ?_); refine callA ?_) | ((with_reducible refine isCallS (f := 17) ?_); refine (nextI_ok 31 u l p 3 hu (by omega) (by omega) (by omega) (fun x hx0 hx1 => Stop.mk ?_))) | (refine And.intro ?_ ?_; (try simp only [sxO] at *); omega) | fail) <;> (try simp (maxSteps := 1000000) only [hb0, cE_ment, cE_len, cE_kill, hasK_nil, Nat.mul_one, hu.one, ↓hold_pre, awayP, runOps, regK, step1, newK, genR, appR, obl, buildR, Value.cells, closeK, keepH, outV, retK, ret1, retC, RetV, Option.getD, runD, stepD, afterK, undef, simprocAttr, sxB, ↓sxD, sxE, sxTab]))
  obtain ⟨j, rfl⟩ := Int.eq_ofNat_of_zero_le hx0
  have hj : j < L.length := by omega
  have hat := cE_at intV64 hj
  have hm : L[j] ∈ L := List.getElem_mem hj
  have a1 : (0 : Int) ≤ (j : Int) := by omega
  have a2 : (j : Int) < 3 := by omega
  have a3 : (j : Int) < ((3 : Nat) : Int) := by omega
  generalize L[j] = y at *
  refine Stop.go ?_
  (replace hb0 := true_and True); refine Go1.mk ?_; repeat' ((first | (with_reducible refine Go1.go ?_) | ((with_reducible first | refine brv_mk ?_ ?_ | refine gsplitD ?_ ?_ | refine gsplitG ?_ ?_) <;> intro h <;> (try simp only [Bool.not_eq_true', Bool.not_eq_false'] at h) <;> replace hb0 := h) | (refine And.intro ?_ ?_; (try simp only [sxO] at *); omega) | fail) <;> (try simp (maxSteps := 1000000) only [hb0, cE_ment, cE_len, cE_kill, hasK_nil, Nat.mul_one, hu.one, hat, a1, a2, a3, intV64, ↓hold_pre, awayP, runOps, regK, step1, newK, genR, appR, obl, buildR, Value.cells, closeK, keepH, outV, retK, ret1, retC, RetV, Option.getD, runD, stepD, afterK, undef, simprocAttr, sxB, ↓sxD, sxE, sxTab]))
  exact hK _ hm
def drA (M : Mem) (u : Value) (p q : Nat) (top : Int) (cs : List Int) : St := { env := [(7, .ext (.int .i64 (q : Int))), (6, .ext (.int .i64 top)), (5, .slo 327 0 cs.length 1), (0, .own 31 0)], hp := [(327, 3, cE intV64 cs), (31, 27, [.ext u, .ext (.int .i64 (p : Int))])], M := M, kb := 300, fx := [31] }
def drB (M : Mem) (u : Value) (p n : Nat) (L : List TK) (i : Nat) : St := { env := [(9, .ext (.int .i64 (i : Int))), (8, .slo 221 0 n 4), (0, .own 31 0)], hp := [(221, 49, tkC L), (31, 27, [.ext u, .ext (.int .i64 (p : Int))])], M := M, kb := 300, fx := [31] }
theorem drawn_ok (u : Value) (l : List Int) (p : Nat) (most : Nat) (hu : IsL M intV64 u l) (hp : p < 10000) (hmo : most < 1000) (hK : ∀ U L p' M', Mem.le M M' → IsR M' 4 TK.c U L → L.length ≤ most → (∀ x ∈ L, okT x) → p' ≤ p + 3000 → K (.ext U) [(31, 27, [.ext u, .ext (.int .i64 ((p' : Nat) : Int))])] M') :
    CallS Try.prog 11 [.own 31 0, .ext (.int .i64 (most : Int))] [(31, 27, [.ext u, .ext (.int .i64 (p : Int))])] M [] K := by
  refine CallS.frzF ?_
  refine inlS (cs := []) Try.mixed Try.func11 rfl (by kernel_rfl) 300 rfl rfl ?_
  simp only [Try.f11]
  have hc3 : [AV.ext (.int .i64 4), .ext (.int .i64 10), .ext (.int .i64 100)] = cE intV64 [4, 10, 100] := rfl
  have w0 : IntKind.i64.wrap ((most : Int) + 1) = ((most + 1 : Nat) : Int) := succ_i (by omega)
  (replace hb0 := true_and True); refine Go1.mk ?_; repeat' ((first | (with_reducible refine Go1.go ?_) | ((with_reducible first | refine brv_mk ?_ ?_ | refine gsplitD ?_ ?_ | refine gsplitG ?_ ?_) <;> intro h <;> (try simp only [Bool.not_eq_true', Bool.not_eq_false'] at h) <;> replace hb0 := h) | ((with_reducible refine isCall (f := 26) ?_); refine callA ?_) | ((with_reducible refine isCallS (f := 26) ?_); refine (pick3_ok u l p [4, 10, 100] rfl hu (by omega) (fun top htop => Stop.mk ?_))) | (refine And.intro ?_ ?_; (try simp only [sxO] at *); omega) | fail) <;> (try simp (maxSteps := 1000000) only [hb0, hc3, w0, hu.one, cE_ment, cE_kill, hasK_nil, ↓hold_pre, awayP, runOps, regK, step1, newK, genR, appR, obl, buildR, Value.cells, closeK, keepH, outV, retK, ret1, retC, RetV, Option.getD, runD, stepD, afterK, undef, simprocAttr, sxB, ↓sxD, sxE, sxTab]))
  have ht : 4 ≤ top ∧ top ≤ 100 := by
    have htop : top ∈ ([4, 10, 100] : List Int) := htop
    simp only [List.mem_cons, List.not_mem_nil, or_false] at htop
    omega
  refine Stop.go ?_
  (replace hb0 := true_and True); refine Go1.mk ?_; repeat' ((first | (with_reducible refine Go1.go ?_) | ((with_reducible first | refine brv_mk ?_ ?_ | refine gsplitD ?_ ?_ | refine gsplitG ?_ ?_) <;> intro h <;> (try simp only [Bool.not_eq_true', Bool.not_eq_false'] at h) <;> replace hb0 := h) | ((with_reducible refine isCall (f := 17) ?_); refine callA ?_) | ((with_reducible refine isCallS (f := 17) ?_); refine (nextI_ok 31 u l (p + 1) ((most + 1 : Nat) : Int) hu (by omega) (by omega) (by omega) (fun x hx0 hx1 => Stop.mk ?_))) | (refine And.intro ?_ ?_; (try simp only [sxO] at *); omega) | fail) <;> (try simp (maxSteps := 1000000) only [hb0, w0, hu.one, cE_ment, cE_kill, hasK_nil, ↓hold_pre, awayP, runOps, regK, step1, newK, genR, appR, obl, buildR, Value.cells, closeK, keepH, outV, retK, ret1, retC, RetV, Option.getD, runD, stepD, afterK, undef, simprocAttr, sxB, ↓sxD, sxE, sxTab]))
  obtain ⟨q0, rfl⟩ := Int.eq_ofNat_of_zero_le hx0
  refine Stop.go ?_
  clear hc3
  (replace hb0 := true_and True); refine Go1.mk ?_; repeat' ((first | (with_reducible refine Go1.go ?_) | ((with_reducible first | refine brv_mk ?_ ?_ | refine gsplitD ?_ ?_ | refine gsplitG ?_ ?_) <;> intro h <;> (try simp only [Bool.not_eq_true', Bool.not_eq_false'] at h) <;> replace hb0 := h) | (refine And.intro ?_ ?_; (try simp only [sxO] at *); omega) | fail) <;> (try simp (maxSteps := 1000000) only [hb0, hu.one, cE_ment, cE_kill, hasK_nil, ↓hold_pre, awayP, runOps, regK, step1, newK, genR, appR, obl, buildR, Value.cells, closeK, keepH, outV, retK, ret1, retC, RetV, Option.getD, runD, stepD, afterK, undef, simprocAttr, sxB, ↓sxD, sxE, sxTab]))
  refine ⟨fun d z => ∃ q cs p', d = q ∧ cs.length + q ≤ most ∧ p' ≤ p + 2 + cs.length ∧ (∀ c ∈ cs, 1 ≤ c ∧ c ≤ 100) ∧ z = drA M u p' q top cs, ⟨q0, drA M u (p + 1 + 1) q0 top [], (le_nil 5 327 3 1 rfl (.inl (by simp [awayB, mentE, mentH, mentL, AV.ment, hasK, cE_ment]))).trans (le_sub ⟨rfl, rfl, rfl, rfl, trivial⟩ ⟨by simp [lkH, drA, cE], by simp [lkH, drA], trivial⟩ rfl rfl rfl (by simp [keepLt, drA, lkH])), ⟨q0, [], p + 1 + 1, rfl, by simp only [List.length_nil]; omega, by simp only [List.length_nil]; omega, fun c hc => (by cases hc), rfl⟩⟩, ?_⟩
  rintro d z ⟨q, cs, p', rfl, hcl, hp', hcs, rfl⟩
  cases d with
  | zero =>
    have d1 : decide ((0 : Int) < ((0 : Nat) : Int)) = false := by simp
    (replace hb0 := true_and True); refine Go1.mk ?_; repeat' ((first | (with_reducible refine Go1.go ?_) | ((with_reducible first | refine brv_mk ?_ ?_ | refine gsplitD ?_ ?_ | refine gsplitG ?_ ?_) <;> intro h <;> (try simp only [Bool.not_eq_true', Bool.not_eq_false'] at h) <;> replace hb0 := h) | ((with_reducible refine isCall (f := 23) ?_); refine callA ?_) | ((with_reducible refine isCallS (f := 23) ?_); refine (tasksO_ok (by decide) rfl (by omega) (Stop.mk ?_))) | (refine And.intro ?_ ?_; (try simp only [sxO] at *); omega) | fail) <;> (try simp (maxSteps := 1000000) only [hb0, drA, d1, hu.one, cE_ment, cE_kill, hasK_nil, ↓hold_pre, awayP, runOps, regK, step1, newK, genR, appR, obl, buildR, Value.cells, closeK, keepH, outV, retK, ret1, retC, RetV, Option.getD, runD, stepD, afterK, undef, simprocAttr, sxB, ↓sxD, sxE, sxTab]))
    have hlt0 : (mkT cs).length = cs.length := mkP_len cs cs.length
    refine Stop.go ?_
    (replace hb0 := true_and True); refine Go1.mk ?_; repeat' ((first | (with_reducible refine Go1.go ?_) | ((with_reducible first | refine brv_mk ?_ ?_ | refine gsplitD ?_ ?_ | refine gsplitG ?_ ?_) <;> intro h <;> (try simp only [Bool.not_eq_true', Bool.not_eq_false'] at h) <;> replace hb0 := h) | (refine And.intro ?_ ?_; (try simp only [sxO] at *); omega) | fail) <;> (try simp (maxSteps := 1000000) only [hb0, hu.one, cE_ment, cE_kill, tkC_ment, tkC_kill, hasK_nil, ↓hold_pre, awayP, runOps, regK, step1, newK, genR, appR, obl, buildR, Value.cells, closeK, keepH, outV, retK, ret1, retC, RetV, Option.getD, runD, stepD, afterK, undef, simprocAttr, sxB, ↓sxD, sxE, sxTab]))
    refine ⟨fun d z => ∃ i L p2, d = cs.length - i ∧ i ≤ cs.length ∧ L.length = cs.length ∧ p2 ≤ p + 2 + cs.length + i ∧ (∀ x ∈ L, okT x) ∧ z = drB M u p2 cs.length L i, ⟨cs.length, drB M u p' cs.length (mkT cs) 0, le_sub ⟨rfl, rfl, rfl, trivial⟩ ⟨by simp [lkH, drB], by simp [lkH, drB], trivial⟩ rfl rfl rfl (by simp [keepLt, drB, lkH]), ⟨0, mkT cs, p', by omega, by omega, hlt0, by omega, mkT_ok hcs, rfl⟩⟩, ?_⟩
    rintro d z ⟨i, L, p2, rfl, hi, hL, hp2, hok, rfl⟩
    by_cases hlt : i < cs.length
    case neg =>
      obtain rfl : i = cs.length := by omega
      have d2 : decide ((cs.length : Int) < (cs.length : Int)) = false := by simp
      (replace hb0 := true_and True); refine Go1.mk ?_; repeat' ((first | (with_reducible refine Go1.go ?_) | ((with_reducible first | refine brv_mk ?_ ?_ | refine gsplitD ?_ ?_ | refine gsplitG ?_ ?_) <;> intro h <;> (try simp only [Bool.not_eq_true', Bool.not_eq_false'] at h) <;> replace hb0 := h) | (refine And.intro ?_ ?_; (try simp only [sxO] at *); omega) | fail) <;> (try simp (maxSteps := 1000000) only [hb0, drB, d2, hu.one, tkC_ment, tkC_kill, hasK_nil, ↓hold_pre, awayP, runOps, regK, step1, newK, genR, appR, obl, buildR, Value.cells, closeK, keepH, outV, retK, ret1, retC, RetV, Option.getD, runD, stepD, afterK, undef, simprocAttr, sxB, ↓sxD, sxE, sxTab]))
      refine FrzF.keepZ (L.flatMap TK.c) rfl (by rw [flat_len (z := 4) (fun _ => rfl), hL]) (by simp [mentH, mentL, AV.ment, hasK]) rfl fun w M3 h1 h2 h3 => hK w L p2 M3 h1 ?_ (by omega) hok (by omega)
      unfold IsR
      rw [hL]; exact h2
    have d2 : decide ((i : Int) < (cs.length : Int)) = true := by rw [decide_eq_true_eq]; omega
    have b1 : (0 : Int) ≤ (i : Int) := by omega
    have b2 : (i : Int) < (cs.length : Int) := by omega
    have wi : IntKind.i64.wrap ((i : Int) + 1) = ((i + 1 : Nat) : Int) := succ_i (by omega)
    have hle := tkC_len L
    rw [hL] at hle
    (replace hb0 := true_and True); refine Go1.mk ?_; repeat' ((first | (with_reducible refine Go1.go ?_) | ((with_reducible first | refine brv_mk ?_ ?_ | refine gsplitD ?_ ?_ | refine gsplitG ?_ ?_) <;> intro h <;> (try simp only [Bool.not_eq_true', Bool.not_eq_false'] at h) <;> replace hb0 := h) | ((with_reducible refine isCall (f := 17) ?_); refine callA ?_) | ((with_reducible refine isCallS (f := 17) ?_); refine (nextI_ok 31 u l p2 3 hu (by omega) (by omega) (by omega) (fun e he0 he1 => Stop.mk ?_))) | (refine And.intro ?_ ?_; (try simp only [sxO] at *); omega) | fail) <;> (try simp (maxSteps := 1000000) only [hb0, drB, d2, b1, b2, hu.one, tkC_ment, tkC_kill, hasK_nil, ↓hold_pre, awayP, runOps, regK, step1, newK, genR, appR, obl, buildR, Value.cells, closeK, keepH, outV, retK, ret1, retC, RetV, Option.getD, runD, stepD, afterK, undef, simprocAttr, sxB, ↓sxD, sxE, sxTab]))
    have hse := tkC_set (L := L) (i := i) (by omega) e
    have hok2 : ∀ x ∈ L.set i { L[i] with env := e }, okT x := fun x hx => by
      rcases List.mem_or_eq_of_mem_set hx with h | rfl
      · exact hok x h
      · have := hok _ (List.getElem_mem (show i < L.length by omega))
        exact ⟨this.pk, this.ts, he0, by simp only; omega, this.c1, this.c2⟩
    have hin : i * 4 + 2 < cs.length * 4 := by omega
    refine Stop.go ?_
    (replace hb0 := true_and True); refine Go1.mk ?_; repeat' ((first | (with_reducible refine Go1.go ?_) | ((with_reducible first | refine brv_mk ?_ ?_ | refine gsplitD ?_ ?_ | refine gsplitG ?_ ?_) <;> intro h <;> (try simp only [Bool.not_eq_true', Bool.not_eq_false'] at h) <;> replace hb0 := h) | (refine And.intro ?_ ?_; (try simp only [sxO] at *); omega) | fail) <;> (try simp (maxSteps := 1000000) only [hb0, b1, b2, wi, hle, hse, hin, hu.one, tkC_ment, tkC_kill, hasK_nil, Nat.zero_add, ↓hold_pre, awayP, runOps, regK, step1, newK, genR, appR, obl, buildR, Value.cells, closeK, keepH, outV, retK, ret1, retC, RetV, Option.getD, runD, stepD, afterK, undef, simprocAttr, sxB, ↓sxD, sxE, sxTab]))
    exact ⟨cs.length - (i + 1), drB M u (p2 + 1) cs.length _ (i + 1), by omega, le_sub ⟨rfl, rfl, rfl, trivial⟩ ⟨by simp [lkH, drB], by simp [lkH, drB], trivial⟩ rfl rfl rfl (by simp [keepLt, drB, lkH]), i + 1, _, p2 + 1, rfl, by omega, by rw [List.length_set, hL], by omega, hok2, rfl⟩
  | succ q =>
    have d1 : decide ((0 : Int) < ((q + 1 : Nat) : Int)) = true := by rw [decide_eq_true_eq]; omega
    have w1 : IntKind.i64.wrap (((q + 1 : Nat) : Int) - 1) = ((q : Nat) : Int) := by rw [wrap_id (by omega) (by omega)]; omega
    (replace hb0 := true_and True); refine Go1.mk ?_; repeat' ((first | (with_reducible refine Go1.go ?_) | ((with_reducible first | refine brv_mk ?_ ?_ | refine gsplitD ?_ ?_ | refine gsplitG ?_ ?_) <;> intro h <;> (try simp only [Bool.not_eq_true', Bool.not_eq_false'] at h) <;> replace hb0 := h) | ((with_reducible refine isCall (f := 17) ?_); refine callA ?_) | ((with_reducible refine isCallS (f := 17) ?_); refine (nextI_ok 31 u l p' top hu (by omega) (by omega) (by omega) (fun x hx0 hx1 => Stop.mk ?_))) | (refine And.intro ?_ ?_; (try simp only [sxO] at *); omega) | fail) <;> (try simp (maxSteps := 1000000) only [hb0, drA, d1, hu.one, cE_ment, cE_kill, hasK_nil, ↓hold_pre, awayP, runOps, regK, step1, newK, genR, appR, obl, buildR, Value.cells, closeK, keepH, outV, retK, ret1, retC, RetV, Option.getD, runD, stepD, afterK, undef, simprocAttr, sxB, ↓sxD, sxE, sxTab]))
    have w2 : IntKind.i64.wrap (1 + x) = 1 + x := wrap_id (by omega) (by omega)
    have hsn : cE intV64 cs ++ [.ext (.int .i64 (1 + x))] = cE intV64 (cs ++ [1 + x]) := cE_snoc intV64 cs (1 + x)
    have hln : cs.length + 1 = (cs ++ [1 + x]).length := by simp
    refine Stop.go ?_
    (replace hb0 := true_and True); refine Go1.mk ?_; repeat' ((first | (with_reducible refine Go1.go ?_) | ((with_reducible first | refine brv_mk ?_ ?_ | refine gsplitD ?_ ?_ | refine gsplitG ?_ ?_) <;> intro h <;> (try simp only [Bool.not_eq_true', Bool.not_eq_false'] at h) <;> replace hb0 := h) | (refine And.intro ?_ ?_; (try simp only [sxO] at *); omega) | fail) <;> (try simp (maxSteps := 1000000) only [hb0, w1, w2, hsn, hu.one, cE_len, cE_ment, cE_kill, hasK_nil, ↓hold_pre, awayP, runOps, regK, step1, newK, genR, appR, obl, buildR, Value.cells, closeK, keepH, outV, retK, ret1, retC, RetV, Option.getD, runD, stepD, afterK, undef, simprocAttr, sxB, ↓sxD, sxE, sxTab]))
    exact ⟨q, drA M u (p' + 1) q top (cs ++ [1 + x]), by omega, le_sub ⟨rfl, rfl, by rw [← hln]; rfl, rfl, trivial⟩ ⟨by simp [lkH, drA], by simp [lkH, drA], trivial⟩ rfl rfl rfl (by simp [keepLt, drA, lkH]), q, _, p' + 1, rfl, by rw [← hln]; omega, by rw [← hln]; omega, fun c hc => by
      rcases List.mem_append.1 hc with h | h
      · exact hcs c h
      · rw [List.mem_singleton.1 h]; omega, rfl⟩
end
end Go.Proofs.Ytgkfmlgfmcpebaa.Sx
namespace Go.Proofs.Ytgkfmlgfmcpebaa.Sx
open Go Go.RowKit
set_option linter.unusedVariables false
set_option linter.unusedSimpArgs false
set_option maxRecDepth 100000
set_option maxHeartbeats 8000000
attribute [local congr] fin_congr finG_congr stepG_congr step1_congr runOps_congr brv_congr obl_congr condK_congr LoopK_congr seqK_congr CutK_congr vc_congr DrawK_congr regK_congr CallK_congr AskK_congr newK_congr retC_congr ret1_congr retK_congr outV_congr closeK_congr genR_congr appR_congr finD_congr finGD_congr stepGD_congr stepD_congr CallK0_congr runD_congr okR_congr CallS_congr vcX_congr
attribute [local congr] Stop_congr
section
variable {M : Mem} {K : AV → Hp → Mem → Prop}
end
end Go.Proofs.Ytgkfmlgfmcpebaa.Sx
namespace Go.Proofs.Ytgkfmlgfmcpebaa.Sx
open Go Go.RowKit
set_option linter.unusedVariables false
set_option linter.unusedSimpArgs false
set_option maxRecDepth 100000
set_option maxHeartbeats 8000000
attribute [local congr] fin_congr finG_congr stepG_congr step1_congr runOps_congr brv_congr obl_congr condK_congr LoopK_congr seqK_congr CutK_congr vc_congr DrawK_congr regK_congr CallK_congr AskK_congr newK_congr retC_congr ret1_congr retK_congr outV_congr closeK_congr genR_congr appR_congr finD_congr finGD_congr stepGD_congr stepD_congr CallK0_congr runD_congr okR_congr CallS_congr vcX_congr
attribute [local congr] Stop_congr
theorem SlM.pre {M : Mem} {n z : Nat} {u : Value} {cs : List Value} (h : SlM M z u n cs) {j : Nat} (hj : j ≤ n) : SlM M z (subS u z 0 j) j (cs.take (j * z)) := by
  rcases h.cases with ⟨rfl, rfl, c, rfl⟩ | ⟨b, off, c, rfl, hc, hr⟩
  · obtain rfl : j = 0 := by omega
    have : subS (.slice none 0 c) z 0 0 = .slice none 0 c := by simp [subS]
    rw [this, Nat.zero_mul, List.take_zero]; exact slM_nil M z c
  · have hs := h.size
    obtain ⟨h1, h2⟩ := rowM_get hr
    have hjz : j * z ≤ n * z := Nat.mul_le_mul_right z hj
    have hlen : (cs.take (j * z)).length = j * z := by rw [List.length_take]; omega
    have ea : subS (.slice (some ⟨b, off, none⟩) n c) z 0 j = .slice (some ⟨b, off, none⟩) j c := by
      by_cases e : c = 0
      · simp [subS, e]
      · simp [subS, Addr.add]
    rw [ea]
    refine ⟨rfl, rfl, by show j ≤ c; omega, hlen, ?_⟩
    simp only [rowS]
    refine rowM_of hlen fun q v hq => ?_
    have hql : q < j * z := by
      have := (List.getElem?_eq_some_iff.1 hq).1
      omega
    rw [List.getElem?_take_of_lt hql] at hq
    exact h2 q v hq
def t11 : List TK := mkT (List.replicate 11 1)
def t10 : List TK := t11.take 10
theorem t11_many : bestQ t11 2 = (0, 2) := by decide
theorem t10_best : bestQ t10 3 = (4, 0) := by decide
section
variable {M : Mem} {K : AV → Hp → Mem → Prop}
def lbSt (M : Mem) (U : Value) (ns : List Int) (i : Nat) : St := { env := [(27, .ext (.int .i64 (i : Int))), (26, .ext (.int .i64 2)), (25, .slo 37 0 2 1), (5, .ext U)], hp := [(37, 3, cE intV64 ns)], M := M, kb := 12, fx := [] }
theorem best30_ok (u : Value) (l : List Int) (n : Int) (hu : IsL M intV64 u l) (hK : ∀ M', Mem.le M M' → K (.ext (.bool true)) [] M') : CallS Try.prog 5 [.ext u, .ext (.int .i64 n)] [] M [] K := by
  refine inlS (cs := []) Try.mixed Try.func5 rfl (by kernel_rfl) 12 rfl rfl ?_
  simp only [Try.f5]
  (replace hb0 := true_and True); refine Go1.mk ?_; repeat' ((first | (with_reducible refine Go1.go ?_) | ((with_reducible first | refine brv_mk ?_ ?_ | refine gsplitD ?_ ?_ | refine gsplitG ?_ ?_) <;> intro h <;> (try simp only [Bool.not_eq_true', Bool.not_eq_false'] at h) <;> replace hb0 := h) | ((with_reducible refine isCall (f := 11) ?_); refine callA ?_) | ((with_reducible refine isCallS (f := 11) ?_); refine (drawn_ok u l 0 7 hu (by omega) (by omega) (fun U L p' M1 m1 hU hl hok hp => Stop.mk ?_))) | (refine And.intro ?_ ?_; (try simp only [sxO] at *); omega) | fail) <;> (try simp (maxSteps := 1000000) only [hb0, hu.one, hasK_nil, ↓hold_pre, awayP, runOps, regK, step1, newK, genR, appR, obl, buildR, Value.cells, closeK, keepH, outV, retK, ret1, retC, RetV, Option.getD, runD, stepD, afterK, undef, simprocAttr, sxB, ↓sxD, sxE, sxTab]))
  have m1 : Mem.le M M1 := m1
  have hU : IsR M1 4 TK.c U L := hU
  have hLb : L.length < 1000000 := by omega
  refine Stop.go ?_
  (replace hb0 := true_and True); refine Go1.mk ?_; repeat' ((first | (with_reducible refine Go1.go ?_) | ((with_reducible first | refine brv_mk ?_ ?_ | refine gsplitD ?_ ?_ | refine gsplitG ?_ ?_) <;> intro h <;> (try simp only [Bool.not_eq_true', Bool.not_eq_false'] at h) <;> replace hb0 := h) | (((with_reducible refine isCall (f := 12) ?_); refine callA_nil (by kernel_rfl) ?_; refine (fold_ok n 4 (Stop.mk ?_)))) | (refine And.intro ?_ ?_; (try simp only [sxO] at *); omega) | fail) <;> (try simp (maxSteps := 1000000) only [hb0, hU.one, hasK_nil, ↓hold_pre, awayP, runOps, regK, step1, newK, genR, appR, obl, buildR, Value.cells, closeK, keepH, outV, retK, ret1, retC, RetV, Option.getD, runD, stepD, afterK, undef, simprocAttr, sxB, ↓sxD, sxE, sxTab]))
  generalize IntKind.i64.wrap (1 + foldI n 4) = n2
  refine Stop.go ?_
  (replace hb0 := true_and True); refine Go1.mk ?_; repeat' ((first | (with_reducible refine Go1.go ?_) | ((with_reducible first | refine brv_mk ?_ ?_ | refine gsplitD ?_ ?_ | refine gsplitG ?_ ?_) <;> intro h <;> (try simp only [Bool.not_eq_true', Bool.not_eq_false'] at h) <;> replace hb0 := h) | (refine And.intro ?_ ?_; (try simp only [sxO] at *); omega) | fail) <;> (try simp (maxSteps := 1000000) only [hb0, hU.one, hasK_nil, ↓hold_pre, awayP, runOps, regK, step1, newK, genR, appR, obl, buildR, Value.cells, closeK, keepH, outV, retK, ret1, retC, RetV, Option.getD, runD, stepD, afterK, undef, simprocAttr, sxB, ↓sxD, sxE, sxTab]))
  refine ⟨fun d z => ∃ i M', d = 2 - i ∧ i ≤ 2 ∧ Mem.le M1 M' ∧ z = lbSt M' U [n, n2] i, ⟨2, lbSt M1 U [n, n2] 0, le_sub ⟨rfl, rfl, rfl, rfl, trivial⟩ ⟨rfl, trivial⟩ rfl rfl rfl (by simp [keepLt, lbSt, lkH]), ⟨0, M1, by omega, by omega, Mem.le.refl _, rfl⟩⟩, ?_⟩
  rintro d z ⟨i, M2, rfl, hi, hM, rfl⟩
  by_cases hlt : i < 2
  case neg =>
    obtain rfl : i = 2 := by omega
    have d1 : decide (((2 : Nat) : Int) < 2) = false := by simp
    have hc11 : [AV.ext (.int .i64 1), .ext (.int .i64 1), .ext (.int .i64 1), .ext (.int .i64 1), .ext (.int .i64 1), .ext (.int .i64 1), .ext (.int .i64 1), .ext (.int .i64 1), .ext (.int .i64 1), .ext (.int .i64 1), .ext (.int .i64 1)] = cE intV64 (List.replicate 11 1) := rfl
    (replace hb0 := true_and True); refine Go1.mk ?_; repeat' ((first | (with_reducible refine Go1.go ?_) | ((with_reducible first | refine brv_mk ?_ ?_ | refine gsplitD ?_ ?_ | refine gsplitG ?_ ?_) <;> intro h <;> (try simp only [Bool.not_eq_true', Bool.not_eq_false'] at h) <;> replace hb0 := h) | ((with_reducible refine isCall (f := 23) ?_); refine callA ?_) | ((with_reducible refine isCallS (f := 23) ?_); refine (tasksB_ok (cs := List.replicate 11 1) rfl (by decide) (fun w M3 m3 hw => Stop.mk ?_))) | (refine And.intro ?_ ?_; (try simp only [sxO] at *); omega) | fail) <;> (try simp (maxSteps := 1000000) only [hb0, lbSt, d1, hc11, cE_ment, hasK_nil, ↓hold_pre, awayP, runOps, regK, step1, newK, genR, appR, obl, buildR, Value.cells, closeK, keepH, outV, retK, ret1, retC, RetV, Option.getD, runD, stepD, afterK, undef, simprocAttr, sxB, ↓sxD, sxE, sxTab]))
    have m3 : Mem.le M2 M3 := m3
    have hw : IsR M3 4 TK.c w t11 := hw
    clear hc11
    have e1 := t11_many
    refine Stop.go ?_
    (replace hb0 := true_and True); refine Go1.mk ?_; repeat' ((first | (with_reducible refine Go1.go ?_) | ((with_reducible first | refine brv_mk ?_ ?_ | refine gsplitD ?_ ?_ | refine gsplitG ?_ ?_) <;> intro h <;> (try simp only [Bool.not_eq_true', Bool.not_eq_false'] at h) <;> replace hb0 := h) | (((with_reducible refine isCall (f := 21) ?_); refine callA_nil (by kernel_rfl) ?_; refine (Best_ok hw (by decide) 2 (fun M4 m4 => Stop.mk ?_)))) | (refine And.intro ?_ ?_; (try simp only [sxO] at *); omega) | fail) <;> (try simp (maxSteps := 1000000) only [hb0, hw.one, e1, cE_ment, hasK_nil, ↓hold_pre, awayP, runOps, regK, step1, newK, genR, appR, obl, buildR, Value.cells, closeK, keepH, outV, retK, ret1, retC, RetV, Option.getD, runD, stepD, afterK, undef, simprocAttr, sxB, ↓sxD, sxE, sxTab]))
    have m4 : Mem.le M3 M4 := m4
    have hw4 := hw.le m4
    have hcap := hw4.cap
    have hw5 : IsR M4 4 TK.c (subS w 4 0 10) t10 := by
      have := SlM.pre hw4 (show 10 ≤ 11 by omega)
      exact this
    have e2 := t10_best
    have hc1 : (10 : Int) ≤ (scap w : Int) := by
      have : 11 ≤ scap w := hcap
      omega
    refine Stop.go ?_
    (replace hb0 := true_and True); refine Go1.mk ?_; repeat' ((first | (with_reducible refine Go1.go ?_) | ((with_reducible first | refine brv_mk ?_ ?_ | refine gsplitD ?_ ?_ | refine gsplitG ?_ ?_) <;> intro h <;> (try simp only [Bool.not_eq_true', Bool.not_eq_false'] at h) <;> replace hb0 := h) | (((with_reducible refine isCall (f := 21) ?_); refine callA_nil (by kernel_rfl) ?_; refine (Best_ok hw5 (by decide) 3 (fun M5 m5 => Stop.mk ?_)))) | (refine And.intro ?_ ?_; (try simp only [sxO] at *); omega) | fail) <;> (try simp (maxSteps := 1000000) only [hb0, hw4.one, hw4.sl, hw4.len, hc1, hw5.one, e1, e2, cE_ment, hasK_nil, ↓hold_pre, awayP, runOps, regK, step1, newK, genR, appR, obl, buildR, Value.cells, closeK, keepH, outV, retK, ret1, retC, RetV, Option.getD, runD, stepD, afterK, undef, simprocAttr, sxB, ↓sxD, sxE, sxTab]))
    have m5 : Mem.le M4 M5 := m5
    refine Stop.go ?_
    (replace hb0 := true_and True); refine Go1.mk ?_; repeat' ((first | (with_reducible refine Go1.go ?_) | ((with_reducible first | refine brv_mk ?_ ?_ | refine gsplitD ?_ ?_ | refine gsplitG ?_ ?_) <;> intro h <;> (try simp only [Bool.not_eq_true', Bool.not_eq_false'] at h) <;> replace hb0 := h) | (((with_reducible refine isCall (f := 16) ?_); refine callA_nil (by kernel_rfl) ?_; refine (known_ok (fun M6 m6 => Stop.mk ?_)))) | (refine And.intro ?_ ?_; (try simp only [sxO] at *); omega) | fail) <;> (try simp (maxSteps := 1000000) only [hb0, e1, e2, cE_ment, hasK_nil, ↓hold_pre, awayP, runOps, regK, step1, newK, genR, appR, obl, buildR, Value.cells, closeK, keepH, outV, retK, ret1, retC, RetV, Option.getD, runD, stepD, afterK, undef, simprocAttr, sxB, ↓sxD, sxE, sxTab]))
    have hk := hK M6 (m1.trans (hM.trans (m3.trans (m4.trans (m5.trans m6)))))
    refine Stop.go ?_
    (replace hb0 := true_and True); refine Go1.mk ?_; repeat' ((first | (with_reducible refine Go1.go ?_) | ((with_reducible first | refine brv_mk ?_ ?_ | refine gsplitD ?_ ?_ | refine gsplitG ?_ ?_) <;> intro h <;> (try simp only [Bool.not_eq_true', Bool.not_eq_false'] at h) <;> replace hb0 := h) | (refine And.intro ?_ ?_; (try simp only [sxO] at *); omega) | fail) <;> (try simp (maxSteps := 1000000) only [hb0, hasK_nil, ↓hold_pre, awayP, runOps, regK, step1, newK, genR, appR, obl, buildR, Value.cells, closeK, keepH, outV, retK, ret1, retC, RetV, Option.getD, runD, stepD, afterK, undef, simprocAttr, sxB, ↓sxD, sxE, sxTab]))
    exact hk
  have d1 : decide ((i : Int) < 2) = true := by rw [decide_eq_true_eq]; omega
  have b1 : (0 : Int) ≤ (i : Int) := by omega
  have b2 : (i : Int) < 2 := by omega
  have wi : IntKind.i64.wrap ((i : Int) + 1) = ((i + 1 : Nat) : Int) := succ_i (by omega)
  have hl2 : (cE intV64 [n, n2]).length = 2 := rfl
  have hat := cE_at intV64 (l := [n, n2]) (i := i) hlt
  generalize [n, n2][i] = k at *
  have hU2 := hU.le hM
  (replace hb0 := true_and True); refine Go1.mk ?_; repeat' ((first | (with_reducible refine Go1.go ?_) | ((with_reducible first | refine brv_mk ?_ ?_ | refine gsplitD ?_ ?_ | refine gsplitG ?_ ?_) <;> intro h <;> (try simp only [Bool.not_eq_true', Bool.not_eq_false'] at h) <;> replace hb0 := h) | (((with_reducible refine isCall (f := 21) ?_); refine callA_nil (by kernel_rfl) ?_; refine (Best_ok hU2 hLb k (fun M3 m3 => Stop.mk ?_)))) | (refine And.intro ?_ ?_; (try simp only [sxO] at *); omega) | fail) <;> (try simp (maxSteps := 1000000) only [hb0, lbSt, d1, b1, b2, hl2, hat, intV64, hU2.one, cE_ment, hasK_nil, Nat.mul_one, Nat.zero_add, ↓hold_pre, awayP, runOps, regK, step1, newK, genR, appR, obl, buildR, Value.cells, closeK, keepH, outV, retK, ret1, retC, RetV, Option.getD, runD, stepD, afterK, undef, simprocAttr, sxB, ↓sxD, sxE, sxTab]))
  have m3 : Mem.le M2 M3 := m3
  have hU3 := hU2.le m3
  have de : decide ((bestQ L k).1 = (bestQ L k).1) = true := by simp
  have de2 : decide ((bestQ L k).2 = (bestQ L k).2) = true := by simp
  refine Stop.go ?_
  (replace hb0 := true_and True); refine Go1.mk ?_; repeat' ((first | (with_reducible refine Go1.go ?_) | ((with_reducible first | refine brv_mk ?_ ?_ | refine gsplitD ?_ ?_ | refine gsplitG ?_ ?_) <;> intro h <;> (try simp only [Bool.not_eq_true', Bool.not_eq_false'] at h) <;> replace hb0 := h) | (((with_reducible refine isCall (f := 22) ?_); refine callA_nil (by kernel_rfl) ?_; refine (rBest_ok hU3 hLb k ?_))) | (refine And.intro ?_ ?_; (try simp only [sxO] at *); omega) | fail) <;> (try simp (maxSteps := 1000000) only [hb0, hU3.one, de, de2, wi, cE_ment, hasK_nil, ↓hold_pre, awayP, runOps, regK, step1, newK, genR, appR, obl, buildR, Value.cells, closeK, keepH, outV, retK, ret1, retC, RetV, Option.getD, runD, stepD, afterK, undef, simprocAttr, sxB, ↓sxD, sxE, sxTab]))
  exact ⟨2 - (i + 1), lbSt M3 U [n, n2] (i + 1), by omega, le_sub ⟨rfl, rfl, rfl, rfl, trivial⟩ ⟨rfl, trivial⟩ rfl rfl rfl (by simp [keepLt, lbSt, lkH]), i + 1, M3, rfl, by omega, hM.trans m3, rfl⟩
end
end Go.Proofs.Ytgkfmlgfmcpebaa.Sx
