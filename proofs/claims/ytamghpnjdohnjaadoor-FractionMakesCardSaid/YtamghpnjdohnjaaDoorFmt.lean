import Derived.Test.YtamghpnjdohnjaaDoorDec
import Derived.Test.YtamghpnjdohnjaaDoorBld
/- Numbers: their decimal digits, as the program writes them. -/
namespace Go.Proofs.YtamghpnjdohnjaaDoor.Sx
open Go Go.RowKit
set_option linter.unusedVariables false
set_option linter.unusedSimpArgs false
set_option maxRecDepth 100000
set_option maxHeartbeats 8000000
attribute [local congr] fin_congr finG_congr stepG_congr step1_congr runOps_congr brv_congr obl_congr condK_congr LoopK_congr seqK_congr CutK_congr vc_congr DrawK_congr regK_congr CallK_congr AskK_congr newK_congr retC_congr ret1_congr retK_congr outV_congr closeK_congr genR_congr appR_congr finD_congr finGD_congr stepGD_congr stepD_congr CallK0_congr runD_congr okR_congr CallS_congr vcX_congr
attribute [local congr] Stop_congr
section
variable {M : Mem} {K : AV → Hp → Mem → Prop}
def tlbSt (M : Mem) (c : UInt8) (r : List UInt8) : St := { env := [(0, .ext (.string (bs r))), (1, .ext (.int .u8 (c.toNat : Int)))], hp := [], M := M, kb := 0, fx := [] }
theorem trimLB_ok (c : UInt8) (l : List UInt8) (hb : l.length < 1000000000) (hK : K (.ext (.string (bs (l.dropWhile (· == c))))) [] M) : CallS Tryd.prog 118 [.ext (.string (bs l)), .ext (.int .u8 (c.toNat : Int))] [] M [] K := by
  refine inlS (cs := []) Tryd.mixed Tryd.func118 rfl (by kernel_rfl) 0 rfl rfl ?_
  simp only [Tryd.f118]
  (replace hb0 := true_and True); refine Go1.mk ?_; repeat' ((first | (with_reducible refine Go1.go ?_) | ((with_reducible first | refine brv_mk ?_ ?_ | refine gsplitD ?_ ?_ | refine gsplitG ?_ ?_) <;> intro h <;> (try simp only [Bool.not_eq_true', Bool.not_eq_false'] at h) <;> replace hb0 := h) | (refine And.intro ?ob ?_; case ob => ((try simp only [sxO, ne_eq, maxLen] at *); omega)) | fail) <;> (try simp (config := { maxSteps := 1000000 }) only [hb0, bs_mk, bs_app, bs_ext, bs_size, bs_toList, bs_at, bs_cells, List.take_length, imp_ga, guard_pk, guard_pk2, ↓hold_pre, awayP, runOps, regK, step1, newK, genR, appR, obl, buildR, Value.cells, closeK, keepH, outV, retK, ret1, retC, RetV, Option.getD, runD, stepD, afterK, undef, simprocAttr, sxB, ↓sxD, sxE, sxTab]))
  refine ⟨fun d z => ∃ r, r.length = d ∧ r.length ≤ l.length ∧ r.dropWhile (· == c) = l.dropWhile (· == c) ∧ z = tlbSt M c r, ⟨l.length, tlbSt M c l, le_sub ⟨rfl, rfl, trivial⟩ trivial rfl rfl rfl (keepLt0 _), ⟨l, rfl, Nat.le_refl _, rfl, rfl⟩⟩, ?_⟩
  rintro d z ⟨r, rfl, hr, hd, rfl⟩
  cases r with
  | nil =>
    have d1 : decide ((0 : Int) < ((0 : Nat) : Int)) = false := by decide
    rw [← hd] at hK
    (replace hb0 := true_and True); refine Go1.mk ?_; repeat' ((first | (with_reducible refine Go1.go ?_) | ((with_reducible first | refine brv_mk ?_ ?_ | refine gsplitD ?_ ?_ | refine gsplitG ?_ ?_) <;> intro h <;> (try simp only [Bool.not_eq_true', Bool.not_eq_false'] at h) <;> replace hb0 := h) | (refine And.intro ?ob ?_; case ob => ((try simp only [sxO, ne_eq, maxLen] at *); omega)) | fail) <;> (try simp (config := { maxSteps := 1000000 }) only [hb0, tlbSt, d1, bs_mk, bs_app, bs_ext, bs_size, bs_toList, bs_at, bs_cells, List.take_length, imp_ga, guard_pk, guard_pk2, ↓hold_pre, awayP, runOps, regK, step1, newK, genR, appR, obl, buildR, Value.cells, closeK, keepH, outV, retK, ret1, retC, RetV, Option.getD, runD, stepD, afterK, undef, simprocAttr, sxB, ↓sxD, sxE, sxTab]))
    exact hK
  | cons b t =>
    have hlt : (b :: t).length = t.length + 1 := rfl
    have d1 : decide ((0 : Int) < ((t.length + 1 : Nat) : Int)) = true := by rw [decide_eq_true_eq]; omega
    have d0 : (0 : Int) < ((t.length + 1 : Nat) : Int) := by omega
    have g0 : (b :: t).getD 0 0 = b := rfl
    have i1 : (1 : Int).toNat = 1 := rfl
    by_cases hbc : b = c
    · subst hbc
      have d2 : decide ((b.toNat : Int) = (b.toNat : Int)) = true := by simp
      have d3 : (1 : Int) ≤ ((t.length + 1 : Nat) : Int) := by omega
      (replace hb0 := true_and True); refine Go1.mk ?_; repeat' ((first | (with_reducible refine Go1.go ?_) | ((with_reducible first | refine brv_mk ?_ ?_ | refine gsplitD ?_ ?_ | refine gsplitG ?_ ?_) <;> intro h <;> (try simp only [Bool.not_eq_true', Bool.not_eq_false'] at h) <;> replace hb0 := h) | (refine And.intro ?ob ?_; case ob => ((try simp only [sxO, ne_eq, maxLen] at *); omega)) | fail) <;> (try simp (config := { maxSteps := 1000000 }) only [hb0, tlbSt, hlt, d0, d1, d2, d3, g0, i1, bs_mk, bs_app, bs_ext, bs_size, bs_toList, bs_at, bs_cells, List.take_length, imp_ga, guard_pk, guard_pk2, ↓hold_pre, awayP, runOps, regK, step1, newK, genR, appR, obl, buildR, Value.cells, closeK, keepH, outV, retK, ret1, retC, RetV, Option.getD, runD, stepD, afterK, undef, simprocAttr, sxB, ↓sxD, sxE, sxTab]))
      exact ⟨t.length, tlbSt M b t, by omega, le_sub ⟨rfl, rfl, trivial⟩ trivial rfl rfl rfl (keepLt0 _), t, rfl, by rw [hlt] at hr; omega, by rw [← hd]; simp, rfl⟩
    · have hne : b.toNat ≠ c.toNat := fun e => hbc (UInt8.toNat_inj.1 e)
      have d2 : decide ((b.toNat : Int) = (c.toNat : Int)) = false := by rw [decide_eq_false_iff_not]; omega
      rw [← hd, show List.dropWhile (· == c) (b :: t) = b :: t by simp [hbc]] at hK
      (replace hb0 := true_and True); refine Go1.mk ?_; repeat' ((first | (with_reducible refine Go1.go ?_) | ((with_reducible first | refine brv_mk ?_ ?_ | refine gsplitD ?_ ?_ | refine gsplitG ?_ ?_) <;> intro h <;> (try simp only [Bool.not_eq_true', Bool.not_eq_false'] at h) <;> replace hb0 := h) | (refine And.intro ?ob ?_; case ob => ((try simp only [sxO, ne_eq, maxLen] at *); omega)) | fail) <;> (try simp (config := { maxSteps := 1000000 }) only [hb0, tlbSt, hlt, d0, d1, d2, g0, i1, bs_mk, bs_app, bs_ext, bs_size, bs_toList, bs_at, bs_cells, List.take_length, imp_ga, guard_pk, guard_pk2, ↓hold_pre, awayP, runOps, regK, step1, newK, genR, appR, obl, buildR, Value.cells, closeK, keepH, outV, retK, ret1, retC, RetV, Option.getD, runD, stepD, afterK, undef, simprocAttr, sxB, ↓sxD, sxE, sxTab]))
      exact hK
theorem trimL0_ok (l : List UInt8) (hb : l.length < 1000000000) (hK : K (.ext (.string (bs (l.dropWhile (· == 48))))) [] M) : CallS Tryd.prog 107 [.ext (.string (bs l)), .ext (.string (bs [48]))] [] M [] K := by
  refine inlS (cs := []) Tryd.mixed Tryd.func107 rfl (by kernel_rfl) 0 rfl rfl ?_
  simp only [Tryd.f107]
  have c1 : ([(48 : UInt8)] == []) = false := rfl
  have g0 : [(48 : UInt8)].getD 0 0 = 48 := rfl
  have g1 : decide (((48 : UInt8).toNat : Int) < 128) = true := by decide
  have i1 : ((1 : Nat) : Int) = 1 := rfl
  cases l with
  | nil =>
    have c2 : (([] : List UInt8) == []) = true := rfl
    (replace hb0 := true_and True); refine Go1.mk ?_; repeat' ((first | (with_reducible refine Go1.go ?_) | ((with_reducible first | refine brv_mk ?_ ?_ | refine gsplitD ?_ ?_ | refine gsplitG ?_ ?_) <;> intro h <;> (try simp only [Bool.not_eq_true', Bool.not_eq_false'] at h) <;> replace hb0 := h) | (refine And.intro ?ob ?_; case ob => ((try simp only [sxO, ne_eq, maxLen] at *); omega)) | fail) <;> (try simp (config := { maxSteps := 1000000 }) only [hb0, c2, bs_mk, bs_app, bs_ext, bs_size, bs_toList, bs_at, bs_cells, List.take_length, imp_ga, guard_pk, guard_pk2, ↓hold_pre, awayP, runOps, regK, step1, newK, genR, appR, obl, buildR, Value.cells, closeK, keepH, outV, retK, ret1, retC, RetV, Option.getD, runD, stepD, afterK, undef, simprocAttr, sxB, ↓sxD, sxE, sxTab]))
    exact hK
  | cons b t =>
    have c2 : ((b :: t) == []) = false := rfl
    (replace hb0 := true_and True); refine Go1.mk ?_; repeat' ((first | (with_reducible refine Go1.go ?_) | ((with_reducible first | refine brv_mk ?_ ?_ | refine gsplitD ?_ ?_ | refine gsplitG ?_ ?_) <;> intro h <;> (try simp only [Bool.not_eq_true', Bool.not_eq_false'] at h) <;> replace hb0 := h) | ((first | (with_reducible refine isCall (f := 118) ?_; refine callA_nil (by kernel_rfl) ?_) | (with_reducible refine isCall0 (f := 118) ?_; refine callA0_nil (by kernel_rfl) ?_)); refine (trimLB_ok 48 (b :: t) hb ?_)) | (refine And.intro ?ob ?_; case ob => ((try simp only [sxO, ne_eq, maxLen] at *); omega)) | fail) <;> (try simp (config := { maxSteps := 1000000 }) only [hb0, c1, c2, g0, g1, i1, bs_mk, bs_app, bs_ext, bs_size, bs_toList, bs_at, bs_cells, List.take_length, imp_ga, guard_pk, guard_pk2, ↓hold_pre, awayP, runOps, regK, step1, newK, genR, appR, obl, buildR, Value.cells, closeK, keepH, outV, retK, ret1, retC, RetV, Option.getD, runD, stepD, afterK, undef, simprocAttr, sxB, ↓sxD, sxE, sxTab]))
    exact hK
def atN (k : Nat) : Nat := if k = 0 then 0 else 10 ^ (k - 1)
def joSt (M : Mem) (p : AV) (u : Value) (j : Nat) (o : List UInt8) : St := { env := [(4, .ext (.int .i64 ((j : Int) - 1))), (3, .own 3 0), (0, .ext u)], hp := bldH 3 90 p o, M := M, kb := 0, fx := [] }
def jiSt (M : Mem) (p : AV) (u : Value) (i k : Nat) (o : List UInt8) : St := { env := [(5, .ext (.int .u32 (atN k : Int))), (4, .ext (.int .i64 (i : Int))), (3, .own 3 0), (0, .ext u)], hp := bldH 3 90 p o, M := M, kb := 0, fx := [] }
def jnSt (M : Mem) (u : Value) : St := { env := [(4, .ext (.int .i64 (((0 : Nat) : Int) - 1))), (3, .own 3 0), (0, .ext u)], hp := [(3, 91, [.ext (.pointer none), .ext (.slice none 0 0)])], M := M, kb := 0, fx := [] }
theorem join_ok (u : Value) (L : List Nat) (hu : IsL M u32V u L) (ho : okN L) (hb : L.length < 10000) (hK : K (.ext (.string (bs (joinG L)))) [] M) : CallS Tryd.prog 108 [.ext u] [] M [] K := by
  refine inlS (cs := []) Tryd.mixed Tryd.func108 rfl (by kernel_rfl) 0 rfl rfl ?_
  simp only [Tryd.f108]
  by_cases hL : L = []
  · subst hL
    have w1 : IntKind.i64.wrap (((([] : List Nat).length : Nat) : Int) - 1) = ((0 : Nat) : Int) - 1 := by decide
    (replace hb0 := true_and True); refine Go1.mk ?_; repeat' ((first | (with_reducible refine Go1.go ?_) | ((with_reducible first | refine brv_mk ?_ ?_ | refine gsplitD ?_ ?_ | refine gsplitG ?_ ?_) <;> intro h <;> (try simp only [Bool.not_eq_true', Bool.not_eq_false'] at h) <;> replace hb0 := h) | (refine And.intro ?ob ?_; case ob => ((try simp only [sxO, ne_eq, maxLen] at *); omega)) | fail) <;> (try simp (config := { maxSteps := 1000000 }) only [hb0, hu.one, hu.len, hu.sl, w1, bs_mk, bs_app, bs_ext, bs_size, bs_toList, bs_at, bs_cells, List.take_length, imp_ga, guard_pk, guard_pk2, ↓hold_pre, awayP, runOps, regK, step1, newK, genR, appR, obl, buildR, Value.cells, closeK, keepH, outV, retK, ret1, retC, RetV, Option.getD, runD, stepD, afterK, undef, simprocAttr, sxB, ↓sxD, sxE, sxTab]))
    refine ⟨fun _ z => z = jnSt M u, ⟨0, jnSt M u, le_sub ⟨rfl, rfl, rfl, trivial⟩ ⟨rfl, trivial⟩ rfl rfl rfl (keepLt0 _), rfl⟩, ?_⟩
    rintro _ z rfl
    have d1 : decide ((0 : Int) ≤ ((0 : Nat) : Int) - 1) = false := by decide
    (replace hb0 := true_and True); refine Go1.mk ?_; repeat' ((first | (with_reducible refine Go1.go ?_) | ((with_reducible first | refine brv_mk ?_ ?_ | refine gsplitD ?_ ?_ | refine gsplitG ?_ ?_) <;> intro h <;> (try simp only [Bool.not_eq_true', Bool.not_eq_false'] at h) <;> replace hb0 := h) | ((with_reducible refine isCall (f := 83) ?_); refine callA ?_) | ((with_reducible refine isCall0 (f := 83) ?_); refine callA0 ?_) | ((with_reducible refine isCallS (f := 83) ?_); refine (string_nil 3 _ (by simp) ?_)) | (refine And.intro ?ob ?_; case ob => ((try simp only [sxO, ne_eq, maxLen] at *); omega)) | fail) <;> (try simp (config := { maxSteps := 1000000 }) only [hb0, jnSt, d1, bs_mk, bs_app, bs_ext, bs_size, bs_toList, bs_at, bs_cells, List.take_length, imp_ga, guard_pk, guard_pk2, ↓hold_pre, awayP, runOps, regK, step1, newK, genR, appR, obl, buildR, Value.cells, closeK, keepH, outV, retK, ret1, retC, RetV, Option.getD, runD, stepD, afterK, undef, simprocAttr, sxB, ↓sxD, sxE, sxTab]))
    exact hK
  have hl0 : 0 < L.length := List.length_pos_iff.2 hL
  have w1 : IntKind.i64.wrap ((L.length : Int) - 1) = (L.length : Int) - 1 := wrap_id (by omega) (by omega)
  (replace hb0 := true_and True); refine Go1.mk ?_; repeat' ((first | (with_reducible refine Go1.go ?_) | ((with_reducible first | refine brv_mk ?_ ?_ | refine gsplitD ?_ ?_ | refine gsplitG ?_ ?_) <;> intro h <;> (try simp only [Bool.not_eq_true', Bool.not_eq_false'] at h) <;> replace hb0 := h) | (refine And.intro ?ob ?_; case ob => ((try simp only [sxO, ne_eq, maxLen] at *); omega)) | fail) <;> (try simp (config := { maxSteps := 1000000 }) only [hb0, hu.one, hu.len, hu.sl, w1, bs_mk, bs_app, bs_ext, bs_size, bs_toList, bs_at, bs_cells, List.take_length, imp_ga, guard_pk, guard_pk2, ↓hold_pre, awayP, runOps, regK, step1, newK, genR, appR, obl, buildR, Value.cells, closeK, keepH, outV, retK, ret1, retC, RetV, Option.getD, runD, stepD, afterK, undef, simprocAttr, sxB, ↓sxD, sxE, sxTab]))
  refine ⟨fun d z => ∃ j p, (p = .ext (.pointer none) ∨ p = .own 3 0) ∧ j = d ∧ j ≤ L.length ∧ z = joSt M p u j (joinG (L.drop j)), ⟨L.length, joSt M (.ext (.pointer none)) u L.length [], (le_nilH 3 1 90 5 91 [.ext (.pointer none), .ext (.slice none 0 0)] 1 rfl rfl (.inl rfl)).trans (le_sub ⟨rfl, rfl, rfl, trivial⟩ ⟨rfl, rfl, trivial⟩ rfl rfl rfl (keepLt0 _)), ⟨L.length, _, .inl rfl, rfl, Nat.le_refl _, by rw [List.drop_of_length_le (Nat.le_refl _)]; rfl⟩⟩, ?_⟩
  rintro d z ⟨j, p, hp, rfl, hj, rfl⟩
  by_cases hlt : 0 < j
  case neg =>
    obtain rfl : j = 0 := by omega
    have d1 : decide ((0 : Int) ≤ ((0 : Nat) : Int) - 1) = false := by decide
    have hne : joinG (L.drop 0) ≠ [] := fun e => by
      have := joinG_len L
      rw [show L.drop 0 = L from rfl] at e
      rw [e] at this
      simp at this; omega
    have hlen : (joinG (L.drop 0)).length < 1000000000 := by rw [joinG_len, List.length_drop]; omega
    rw [show joinG L = joinG (L.drop 0) from rfl] at hK
    rcases hp with rfl | rfl
    all_goals (
      (replace hb0 := true_and True); refine Go1.mk ?_; repeat' ((first | (with_reducible refine Go1.go ?_) | ((with_reducible first | refine brv_mk ?_ ?_ | refine gsplitD ?_ ?_ | refine gsplitG ?_ ?_) <;> intro h <;> (try simp only [Bool.not_eq_true', Bool.not_eq_false'] at h) <;> replace hb0 := h) | ((with_reducible refine isCall (f := 83) ?_); refine callKm [90] rfl (by rfl) (by simp [hasK]) ?_) | ((with_reducible refine isCallS (f := 83) ?_); refine (string_ok 3 90 _ (joinG (L.drop 0)) (by decide) (by simp) hne hlen ?_)) | (refine And.intro ?ob ?_; case ob => ((try simp only [sxO, ne_eq, maxLen] at *); omega)) | fail) <;> (try simp (config := { maxSteps := 1000000 }) only [hb0, joSt, bldH, d1, cE_ment, cE_kill, hasK_nil, bs_mk, bs_app, bs_ext, bs_size, bs_toList, bs_at, bs_cells, List.take_length, imp_ga, guard_pk, guard_pk2, ↓hold_pre, awayP, runOps, regK, step1, newK, genR, appR, obl, buildR, Value.cells, closeK, keepH, outV, retK, ret1, retC, RetV, Option.getD, runD, stepD, afterK, undef, simprocAttr, sxB, ↓sxD, sxE, sxTab]))
      exact hK)
  obtain ⟨i, rfl⟩ : ∃ i, j = i + 1 := ⟨j - 1, by omega⟩
  have ej : (((i + 1 : Nat) : Int) - 1) = (i : Int) := by omega
  have d1 : decide ((0 : Int) ≤ (i : Int)) = true := by simp
  have hil : i < L.length := by omega
  have hxi := hu.idx (P := Tryd.prog) (T := 70) tk70 tz70 (by omega) hil
  have hx := okN_at ho hil
  have hjd := joinG_drop hil
  have hjl : (joinG (L.drop i)).length < 100000 := by rw [joinG_len, List.length_drop]; omega
  generalize L[i] = x at *
  have a9 : ((atN 9 : Nat) : Int) = 100000000 := by decide
  have inner : ∀ p, (p = .ext (.pointer none) ∨ p = .own 3 0) → ∀ (s : St), lk s.env 5 = .ext (.int .u32 100000000) → lk s.env 4 = .ext (.int .i64 (i : Int)) → lk s.env 3 = .own 3 0 → lk s.env 0 = .ext u → subHp (bldH 3 90 p (joinG (L.drop (i + 1)))) s.hp → s.M = M → s.kb = 0 → s.fx = [] → ∃ m z, Le s z ∧ ∃ k p o, (p = .ext (.pointer none) ∨ p = .own 3 0) ∧ k = m ∧ k ≤ 9 ∧ o ++ pad k x = joinG (L.drop i) ∧ z = jiSt M p u i k o := fun p hp s e5 e4 e3 e0 eh eM ek ef =>
    ⟨9, jiSt M p u i 9 (joinG (L.drop (i + 1))), le_sub ⟨by rw [e5, a9], e4, e3, e0, trivial⟩ eh eM.symm ek.symm ef.symm (by rw [ek]; exact keepLt0 _), 9, p, _, hp, rfl, Nat.le_refl _, hjd.symm, rfl⟩
  have w10 : IntKind.i64.wrap ((i : Int) - 1) = (i : Int) - 1 := wrap_id (by omega) (by omega)
  have step : ∀ (J : St → Prop) (p : AV), True := fun _ _ => trivial
  rcases hp with rfl | rfl
  all_goals (
    (replace hb0 := true_and True); refine Go1.mk ?_; repeat' ((first | (with_reducible refine Go1.go ?_) | ((with_reducible first | refine brv_mk ?_ ?_ | refine gsplitD ?_ ?_ | refine gsplitG ?_ ?_) <;> intro h <;> (try simp only [Bool.not_eq_true', Bool.not_eq_false'] at h) <;> replace hb0 := h) | (refine And.intro ?ob ?_; case ob => ((try simp only [sxO, ne_eq, maxLen] at *); omega)) | fail) <;> (try simp (config := { maxSteps := 1000000 }) only [hb0, joSt, bldH, ej, d1, cE_ment, cE_kill, hasK_nil, bs_mk, bs_app, bs_ext, bs_size, bs_toList, bs_at, bs_cells, List.take_length, imp_ga, guard_pk, guard_pk2, ↓hold_pre, awayP, runOps, regK, step1, newK, genR, appR, obl, buildR, Value.cells, closeK, keepH, outV, retK, ret1, retC, RetV, Option.getD, runD, stepD, afterK, undef, simprocAttr, sxB, ↓sxD, sxE, sxTab]))
    refine ⟨fun m z => ∃ k p o, (p = .ext (.pointer none) ∨ p = .own 3 0) ∧ k = m ∧ k ≤ 9 ∧ o ++ pad k x = joinG (L.drop i) ∧ z = jiSt M p u i k o, inner _ (by simp) _ rfl rfl rfl rfl ⟨rfl, rfl, trivial⟩ rfl rfl rfl, ?_⟩
    rintro m z ⟨k, p, o, hp, rfl, hk, hrel, rfl⟩
    have hol : o.length < 100000 := by
      have := congrArg List.length hrel
      rw [List.length_append] at this
      omega
    cases k with
    | zero =>
      have d2 : decide ((0 : Int) < ((atN 0 : Nat) : Int)) = false := by decide
      rw [pad, List.append_nil] at hrel
      subst hrel
      (replace hb0 := true_and True); refine Go1.mk ?_; repeat' ((first | (with_reducible refine Go1.go ?_) | ((with_reducible first | refine brv_mk ?_ ?_ | refine gsplitD ?_ ?_ | refine gsplitG ?_ ?_) <;> intro h <;> (try simp only [Bool.not_eq_true', Bool.not_eq_false'] at h) <;> replace hb0 := h) | (refine And.intro ?ob ?_; case ob => ((try simp only [sxO, ne_eq, maxLen] at *); omega)) | fail) <;> (try simp (config := { maxSteps := 1000000 }) only [hb0, jiSt, bldH, d2, w10, cE_ment, cE_kill, hasK_nil, bs_mk, bs_app, bs_ext, bs_size, bs_toList, bs_at, bs_cells, List.take_length, imp_ga, guard_pk, guard_pk2, ↓hold_pre, awayP, runOps, regK, step1, newK, genR, appR, obl, buildR, Value.cells, closeK, keepH, outV, retK, ret1, retC, RetV, Option.getD, runD, stepD, afterK, undef, simprocAttr, sxB, ↓sxD, sxE, sxTab]))
      exact ⟨i, joSt M p u i _, by omega, le_sub ⟨rfl, rfl, rfl, trivial⟩ ⟨rfl, rfl, trivial⟩ rfl rfl rfl (keepLt0 _), i, p, hp, rfl, by omega, rfl⟩
    | succ k =>
      have ha : atN (k + 1) = 10 ^ k := rfl
      have hp10 : 0 < 10 ^ k := Nat.pow_pos (by decide)
      have hp9 : 10 ^ k ≤ 10 ^ 8 := Nat.pow_le_pow_right (by decide) (by omega)
      have hnext : 10 ^ k / 10 = atN k := by
        unfold atN
        cases k with
        | zero => rfl
        | succ k => rw [if_neg (by omega), Nat.pow_succ, Nat.mul_div_cancel _ (by decide), Nat.add_sub_cancel]
      have hx1 : x / 10 ^ k ≤ x := Nat.div_le_self _ _
      have d2 : decide ((0 : Int) < ((10 ^ k : Nat) : Int)) = true := by rw [decide_eq_true_eq]; omega
      have w2 : IntKind.u32.wrap ((x : Int).tdiv ((10 ^ k : Nat) : Int)) = ((x / 10 ^ k : Nat) : Int) := by rw [← Int.ofNat_tdiv, wrap32_id (by omega)]
      have w3 : ((x / 10 ^ k : Nat) : Int).tmod 10 = ((x / 10 ^ k % 10 : Nat) : Int) := by rw [show (10 : Int) = ((10 : Nat) : Int) from rfl, ← Int.ofNat_tmod]
      have w4 : IntKind.u8.wrap ((x / 10 ^ k % 10 : Nat) : Int) = ((x / 10 ^ k % 10 : Nat) : Int) := by rw [wrap8, Nat.mod_eq_of_lt (a := x / 10 ^ k % 10) (by omega)]
      have w5 : IntKind.u8.wrap (48 + ((x / 10 ^ k % 10 : Nat) : Int)) = ((48 + x / 10 ^ k % 10 : Nat) : Int) := by
        rw [show (48 : Int) + ((x / 10 ^ k % 10 : Nat) : Int) = ((48 + x / 10 ^ k % 10 : Nat) : Int) by omega, wrap8, Nat.mod_eq_of_lt (by omega)]
      have w6 : IntKind.u32.wrap (((10 ^ k : Nat) : Int).tdiv 10) = ((atN k : Nat) : Int) := by
        rw [show (10 : Int) = ((10 : Nat) : Int) from rfl, ← Int.ofNat_tdiv, hnext, wrap32_id (by rw [← hnext]; omega)]
      have n1 : (((10 ^ k : Nat) : Int) = 0) = False := eq_false (fun h => by omega)
      rw [pad] at hrel
      have hrel2 : (o ++ [dgB (x / 10 ^ k % 10)]) ++ pad k x = joinG (L.drop i) := by rw [← hrel]; simp
      have hc := dgB_nat (show x / 10 ^ k % 10 < 10 by omega)
      generalize x / 10 ^ k % 10 = dg at *
      rcases hp with rfl | rfl
      all_goals (
        (replace hb0 := true_and True); refine Go1.mk ?_; repeat' ((first | (with_reducible refine Go1.go ?_) | ((with_reducible first | refine brv_mk ?_ ?_ | refine gsplitD ?_ ?_ | refine gsplitG ?_ ?_) <;> intro h <;> (try simp only [Bool.not_eq_true', Bool.not_eq_false'] at h) <;> replace hb0 := h) | ((with_reducible refine isCall (f := 81) ?_); refine callKm [90] rfl (by rfl) (by simp [hasK]) ?_) | ((with_reducible refine isCallS (f := 81) ?_); refine (wbyte_ok 3 90 _ o (dgB dg) _ (by rw [hc]) (by decide) (by omega) (by simp) ?_)) | (refine And.intro ?ob ?_; case ob => ((try simp only [sxO, ne_eq, maxLen] at *); omega)) | fail) <;> (try simp (config := { maxSteps := 1000000 }) only [hb0, jiSt, bldH, u32V, ha, d2, hxi, hu.one, hu.len, hu.sl, w2, w3, w4, w5, w6, n1, cE_ment, cE_kill, hasK_nil, bs_mk, bs_app, bs_ext, bs_size, bs_toList, bs_at, bs_cells, List.take_length, imp_ga, guard_pk, guard_pk2, ↓hold_pre, awayP, runOps, regK, step1, newK, genR, appR, obl, buildR, Value.cells, closeK, keepH, outV, retK, ret1, retC, RetV, Option.getD, runD, stepD, afterK, undef, simprocAttr, sxB, ↓sxD, sxE, sxTab]))
        exact ⟨k, jiSt M (.own 3 0) u i k (o ++ [dgB dg]), by omega, le_sub ⟨rfl, rfl, rfl, rfl, trivial⟩ ⟨rfl, rfl, trivial⟩ rfl rfl rfl (keepLt0 _), k, _, _, .inr rfl, rfl, by omega, hrel2, rfl⟩))
end
end Go.Proofs.YtamghpnjdohnjaaDoor.Sx
