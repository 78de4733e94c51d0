import Derived.Test.YtamghpnjdohnjaaDoorFmt
/- Numbers: what the laws of this layer share, and the law of what is read. -/
namespace Go.Proofs.YtamghpnjdohnjaaDoor.Sx
open Go Go.RowKit
set_option linter.unusedVariables false
set_option linter.unusedSimpArgs false
set_option maxRecDepth 100000
set_option maxHeartbeats 8000000
attribute [local congr] fin_congr finG_congr stepG_congr step1_congr runOps_congr brv_congr obl_congr condK_congr LoopK_congr seqK_congr CutK_congr vc_congr DrawK_congr regK_congr CallK_congr AskK_congr newK_congr retC_congr ret1_congr retK_congr outV_congr closeK_congr genR_congr appR_congr finD_congr finGD_congr stepGD_congr stepD_congr CallK0_congr runD_congr okR_congr CallS_congr vcX_congr
attribute [local congr] Stop_congr
/-- digits, or an error -/
def fmtR (l : List Nat) : Int × List UInt8 := if chkN l then (0, decB (valN l)) else (1, [])
section
variable {M : Mem} {K : AV → Hp → Mem → Prop}
theorem join_bor (k n : Nat) (T : TypeId) (L : List Nat) (hn : n = L.length) (ho : okN L) (hb : L.length < 10000) (hK : K (.ext (.string (bs (joinG L)))) [(k, T, cE u32V L)] M) :
    CallS Tryd.prog 108 [.slo k 0 n 1] [(k, T, cE u32V L)] M [] K := by
  refine CallS.bor ⟨⟨_, rfl⟩, trivial⟩ fun us M' hM hb' => ?_
  obtain ⟨v1, _, rfl, h1, rfl⟩ := hb'
  have g1 := h1.isL (g := u32V) (L := L) (T := T) (by simp [lkH]) hn
  exact join_ok v1 L g1 ho hb (BorK.same hK)
def fmSt (M : Mem) (w : Value) (n : Nat) (L : List Nat) : St := { env := [(5, .ext w), (4, .slo 90 0 n 1)], hp := [(90, 70, cE u32V L)], M := M, kb := 0, fx := [] }
theorem fmt_ok (u : Value) (l : List Nat) (hu : IsL M u32V u l) (ho : okN l) (hb : l.length < 1000000) (hK : ∀ M', Mem.le M M' → K (.ext (.tuple #[.string (bs (fmtR l).2), .int .i64 (fmtR l).1])) [] M') : CallS Tryd.prog 79 [.ext u] [] M [] K := by
  refine inlS (cs := []) Tryd.mixed Tryd.func79 rfl (by kernel_rfl) 0 rfl rfl ?_
  simp only [Tryd.f79]
  unfold fmtR at hK
  cases hc : chkN l with
  | false =>
    rw [hc] at hK
    (replace hb0 := true_and True); refine Go1.mk ?_; repeat' ((first | (with_reducible refine Go1.go ?_) | ((with_reducible first | refine brv_mk ?_ ?_ | refine gsplitD ?_ ?_ | refine gsplitG ?_ ?_) <;> intro h <;> (try simp only [Bool.not_eq_true', Bool.not_eq_false'] at h) <;> replace hb0 := h) | ((first | (with_reducible refine isCall (f := 50) ?_; refine callA_nil (by kernel_rfl) ?_) | (with_reducible refine isCall0 (f := 50) ?_; refine callA0_nil (by kernel_rfl) ?_)); refine (check_ok u l hu (by omega) ?_)) | (refine And.intro ?ob ?_; case ob => ((try simp only [sxO, ne_eq, maxLen] at *); omega)) | fail) <;> (try simp (config := { maxSteps := 1000000 }) only [hb0, hu.one, hc, bs_mk, bs_app, bs_ext, bs_size, bs_toList, bs_at, bs_cells, List.take_length, imp_ga, guard_pk, guard_pk2, ↓hold_pre, awayP, runOps, regK, step1, newK, genR, appR, obl, buildR, Value.cells, closeK, keepH, outV, retK, ret1, retC, RetV, Option.getD, runD, stepD, afterK, undef, simprocAttr, sxB, ↓sxD, sxE, sxTab]))
    exact hK _ (Mem.le.refl _)
  | true =>
    rw [hc, if_pos rfl] at hK
    obtain ⟨e1, b1⟩ := chkN_ok ho hc
    have hu' := hu
    rw [e1] at hu'
    obtain ⟨E, hE, hbd⟩ : ∃ E, E = 4096 ∧ valN l < 2 ^ E := by
      obtain ⟨i, hi⟩ : ∃ i, i = 128 := ⟨_, rfl⟩
      rw [← hi] at b1
      exact ⟨32 * i, by omega, by rw [← wN_two]; exact Nat.lt_of_lt_of_le (valN_lt ho) (wN_mono b1)⟩
    generalize valN l = N at *
    (replace hb0 := true_and True); refine Go1.mk ?_; repeat' ((first | (with_reducible refine Go1.go ?_) | ((with_reducible first | refine brv_mk ?_ ?_ | refine gsplitD ?_ ?_ | refine gsplitG ?_ ?_) <;> intro h <;> (try simp only [Bool.not_eq_true', Bool.not_eq_false'] at h) <;> replace hb0 := h) | ((first | (with_reducible refine isCall (f := 50) ?_; refine callA_nil (by kernel_rfl) ?_) | (with_reducible refine isCall0 (f := 50) ?_; refine callA0_nil (by kernel_rfl) ?_)); refine (check_ok u l hu (by omega) ?_)) | (refine And.intro ?ob ?_; case ob => ((try simp only [sxO, ne_eq, maxLen] at *); omega)) | fail) <;> (try simp (config := { maxSteps := 1000000 }) only [hb0, hu.one, hc, bs_mk, bs_app, bs_ext, bs_size, bs_toList, bs_at, bs_cells, List.take_length, imp_ga, guard_pk, guard_pk2, ↓hold_pre, awayP, runOps, regK, step1, newK, genR, appR, obl, buildR, Value.cells, closeK, keepH, outV, retK, ret1, retC, RetV, Option.getD, runD, stepD, afterK, undef, simprocAttr, sxB, ↓sxD, sxE, sxTab]))
    have hlen : (ofN N).length ≤ 128 := by rw [← e1]; exact b1
    refine ⟨fun d z => ∃ M' w n L, n = d ∧ Mem.le M M' ∧ IsL M' u32V w (ofN n) ∧ (ofN n).length ≤ 128 ∧ valG L + 1000000000 ^ L.length * n = N ∧ (∀ x ∈ L, x < 1000000000) ∧ 2 ^ L.length * n ≤ N ∧ L.length ≤ 5000 ∧ z = fmSt M' w L.length L,
      ⟨N, fmSt M u 0 [], (le_nil 4 90 70 1 rfl (.inl rfl)).trans (le_sub ⟨rfl, rfl, trivial⟩ ⟨rfl, trivial⟩ rfl rfl rfl (keepLt0 _)), ⟨M, u, N, [], rfl, Mem.le.refl _, hu', hlen, by simp [valG], by simp, by simp, by simp, rfl⟩⟩, ?_⟩
    clear hu hu' e1 hlen
    rintro d z ⟨M1, w, n, L, rfl, hM1, hw, hwl, hval, hL, h2, hLl, rfl⟩
    by_cases hn : n = 0
    · subst hn
      have d1 : decide ((0 : Int) < (((ofN 0).length : Nat) : Int)) = false := by rw [ofN_zero]; rfl
      have hoL : okN L := fun x hx => by have := hL x hx; omega
      rw [Nat.mul_zero, Nat.add_zero] at hval
      have hJ := joinG_val L hL
      rw [hval] at hJ
      have hD := drop_dec (joinG_is L)
      rw [hJ] at hD
      have hjl : (joinG L).length < 1000000000 := by rw [joinG_len]; omega
      (replace hb0 := true_and True); refine Go1.mk ?_; repeat' ((first | (with_reducible refine Go1.go ?_) | ((with_reducible first | refine brv_mk ?_ ?_ | refine gsplitD ?_ ?_ | refine gsplitG ?_ ?_) <;> intro h <;> (try simp only [Bool.not_eq_true', Bool.not_eq_false'] at h) <;> replace hb0 := h) | ((with_reducible refine isCall (f := 108) ?_); refine callA ?_) | ((with_reducible refine isCall0 (f := 108) ?_); refine callA0 ?_) | ((with_reducible refine isCallS (f := 108) ?_); refine (join_bor 90 L.length _ L rfl hoL (by omega) (Stop.mk ?_))) | (refine And.intro ?ob ?_; case ob => ((try simp only [sxO, ne_eq, maxLen] at *); omega)) | fail) <;> (try simp (config := { maxSteps := 1000000 }) only [hb0, cE_ment, hasK_nil, cE_kill, cE_len, u32_one, u32_app1, u32_set, Nat.mul_one, fmSt, d1, hw.one, hw.len, hw.sl, bs_mk, bs_app, bs_ext, bs_size, bs_toList, bs_at, bs_cells, List.take_length, imp_ga, guard_pk, guard_pk2, ↓hold_pre, awayP, runOps, regK, step1, newK, genR, appR, obl, buildR, Value.cells, closeK, keepH, outV, retK, ret1, retC, RetV, Option.getD, runD, stepD, afterK, undef, simprocAttr, sxB, ↓sxD, sxE, sxTab]))
      refine Stop.go ?_
      (replace hb0 := true_and True); refine Go1.mk ?_; repeat' ((first | (with_reducible refine Go1.go ?_) | ((with_reducible first | refine brv_mk ?_ ?_ | refine gsplitD ?_ ?_ | refine gsplitG ?_ ?_) <;> intro h <;> (try simp only [Bool.not_eq_true', Bool.not_eq_false'] at h) <;> replace hb0 := h) | ((first | (with_reducible refine isCall (f := 107) ?_; refine callA_nil (by kernel_rfl) ?_) | (with_reducible refine isCall0 (f := 107) ?_; refine callA0_nil (by kernel_rfl) ?_)); refine (trimL0_ok (joinG L) hjl (Stop.mk ?_))) | (refine And.intro ?ob ?_; case ob => ((try simp only [sxO, ne_eq, maxLen] at *); omega)) | fail) <;> (try simp (config := { maxSteps := 1000000 }) only [hb0, cE_ment, hasK_nil, cE_kill, cE_len, u32_one, u32_app1, u32_set, Nat.mul_one, bs_mk, bs_app, bs_ext, bs_size, bs_toList, bs_at, bs_cells, List.take_length, imp_ga, guard_pk, guard_pk2, ↓hold_pre, awayP, runOps, regK, step1, newK, genR, appR, obl, buildR, Value.cells, closeK, keepH, outV, retK, ret1, retC, RetV, Option.getD, runD, stepD, afterK, undef, simprocAttr, sxB, ↓sxD, sxE, sxTab]))
      rw [hD]
      refine Stop.go ?_
      unfold decB at hK
      by_cases h0 : N = 0
      · rw [if_pos h0] at hK
        have d2 : (dec N == []) = true := by rw [h0, dec_zero]; rfl
        (replace hb0 := true_and True); refine Go1.mk ?_; repeat' ((first | (with_reducible refine Go1.go ?_) | ((with_reducible first | refine brv_mk ?_ ?_ | refine gsplitD ?_ ?_ | refine gsplitG ?_ ?_) <;> intro h <;> (try simp only [Bool.not_eq_true', Bool.not_eq_false'] at h) <;> replace hb0 := h) | (refine And.intro ?ob ?_; case ob => ((try simp only [sxO, ne_eq, maxLen] at *); omega)) | fail) <;> (try simp (config := { maxSteps := 1000000 }) only [hb0, d2, bs_mk, bs_app, bs_ext, bs_size, bs_toList, bs_at, bs_cells, List.take_length, imp_ga, guard_pk, guard_pk2, ↓hold_pre, awayP, runOps, regK, step1, newK, genR, appR, obl, buildR, Value.cells, closeK, keepH, outV, retK, ret1, retC, RetV, Option.getD, runD, stepD, afterK, undef, simprocAttr, sxB, ↓sxD, sxE, sxTab]))
        exact hK _ hM1
      · rw [if_neg h0] at hK
        have d2 : (dec N == []) = false := by
          have hne : dec N ≠ [] := fun e => by
            have := numB_dec N
            rw [e] at this
            exact h0 this.symm
          simpa using hne
        (replace hb0 := true_and True); refine Go1.mk ?_; repeat' ((first | (with_reducible refine Go1.go ?_) | ((with_reducible first | refine brv_mk ?_ ?_ | refine gsplitD ?_ ?_ | refine gsplitG ?_ ?_) <;> intro h <;> (try simp only [Bool.not_eq_true', Bool.not_eq_false'] at h) <;> replace hb0 := h) | (refine And.intro ?ob ?_; case ob => ((try simp only [sxO, ne_eq, maxLen] at *); omega)) | fail) <;> (try simp (config := { maxSteps := 1000000 }) only [hb0, d2, bs_mk, bs_app, bs_ext, bs_size, bs_toList, bs_at, bs_cells, List.take_length, imp_ga, guard_pk, guard_pk2, ↓hold_pre, awayP, runOps, regK, step1, newK, genR, appR, obl, buildR, Value.cells, closeK, keepH, outV, retK, ret1, retC, RetV, Option.getD, runD, stepD, afterK, undef, simprocAttr, sxB, ↓sxD, sxE, sxTab]))
        exact hK _ hM1
    have hl0 : 0 < (ofN n).length := by
      rcases Nat.eq_zero_or_pos (ofN n).length with h | h
      · exact absurd (ofN_nil.1 (List.length_eq_zero_iff.1 h)) hn
      · exact h
    have d1 : decide ((0 : Int) < (((ofN n).length : Nat) : Int)) = true := by rw [decide_eq_true_eq]; omega
    have hLb : L.length < 4096 := by
      have h3 : 2 ^ L.length ≤ 2 ^ L.length * n := Nat.le_mul_of_pos_right _ (by omega)
      rcases Nat.lt_or_ge L.length E with h | h
      · omega
      · have := Nat.pow_le_pow_right (n := 2) (by decide) h
        omega
    have hq := Nat.div_add_mod n 1000000000
    have hr : n % 1000000000 < 1000000000 := Nat.mod_lt _ (by decide)
    have hql := len_mono (Nat.div_le_self n 1000000000)
    have i9 : ((1000000000 : Nat) : Int) = 1000000000 := rfl
    (replace hb0 := true_and True); refine Go1.mk ?_; repeat' ((first | (with_reducible refine Go1.go ?_) | ((with_reducible first | refine brv_mk ?_ ?_ | refine gsplitD ?_ ?_ | refine gsplitG ?_ ?_) <;> intro h <;> (try simp only [Bool.not_eq_true', Bool.not_eq_false'] at h) <;> replace hb0 := h) | (refine And.intro ?ob ?_; case ob => ((try simp only [sxO, ne_eq, maxLen] at *); omega)) | fail) <;> (try simp (config := { maxSteps := 1000000 }) only [hb0, cE_ment, hasK_nil, cE_kill, cE_len, u32_one, u32_app1, u32_set, Nat.mul_one, fmSt, d1, hw.one, hw.len, hw.sl, bs_mk, bs_app, bs_ext, bs_size, bs_toList, bs_at, bs_cells, List.take_length, imp_ga, guard_pk, guard_pk2, ↓hold_pre, awayP, runOps, regK, step1, newK, genR, appR, obl, buildR, Value.cells, closeK, keepH, outV, retK, ret1, retC, RetV, Option.getD, runD, stepD, afterK, undef, simprocAttr, sxB, ↓sxD, sxE, sxTab]))
    refine callA_nil (f := 98) (by kernel_rfl) (small_ok w n 1000000000 hw (by omega) (by decide) (by decide) (fun w2 M2 g1 g2 g3 => ?_))
    have g1 : Mem.le M1 M2 := g1
    (replace hb0 := true_and True); refine Go1.mk ?_; repeat' ((first | (with_reducible refine Go1.go ?_) | ((with_reducible first | refine brv_mk ?_ ?_ | refine gsplitD ?_ ?_ | refine gsplitG ?_ ?_) <;> intro h <;> (try simp only [Bool.not_eq_true', Bool.not_eq_false'] at h) <;> replace hb0 := h) | (refine And.intro ?ob ?_; case ob => ((try simp only [sxO, ne_eq, maxLen] at *); omega)) | fail) <;> (try simp (config := { maxSteps := 1000000 }) only [hb0, cE_ment, hasK_nil, cE_kill, cE_len, u32_one, u32_app1, u32_set, Nat.mul_one, fmSt, g2.one, bs_mk, bs_app, bs_ext, bs_size, bs_toList, bs_at, bs_cells, List.take_length, imp_ga, guard_pk, guard_pk2, ↓hold_pre, awayP, runOps, regK, step1, newK, genR, appR, obl, buildR, Value.cells, closeK, keepH, outV, retK, ret1, retC, RetV, Option.getD, runD, stepD, afterK, undef, simprocAttr, sxB, ↓sxD, sxE, sxTab]))
    exact ⟨n / 1000000000, fmSt M2 w2 (L.length + 1) (L ++ [n % 1000000000]), by omega, le_sub ⟨rfl, rfl, trivial⟩ ⟨rfl, trivial⟩ rfl rfl rfl (keepLt0 _), M2, w2, _, L ++ [n % 1000000000], rfl, hM1.trans g1, g2, by omega, by
      rw [valG_app, List.length_append, List.length_singleton, Nat.pow_succ, ← hval]
      simp only [valG, Nat.mul_zero, Nat.add_zero]
      conv => rhs; rw [← hq]
      generalize n / 1000000000 = a
      generalize n % 1000000000 = b
      grind, fun x hx => by
      rcases List.mem_append.1 hx with h | h
      · exact hL x h
      · rw [List.mem_singleton.1 h]; exact hr, by
      rw [List.length_append, List.length_singleton, Nat.pow_succ, Nat.mul_assoc]
      exact Nat.le_trans (Nat.mul_le_mul_left _ (by omega)) h2, by simp; omega, by simp [fmSt]⟩
def snSt (M : Mem) (u1 u2 : Value) (i : Nat) : St := { env := [(5, .ext (.int .i64 (i : Int))), (1, .ext u2), (0, .ext u1)], hp := [], M := M, kb := 0, fx := [] }
theorem sameNat_ok (u1 u2 : Value) (l : List Nat) (h1 : IsL M u32V u1 l) (h2 : IsL M u32V u2 l) (hb : l.length < 1000000000) (hK : K (.ext (.bool true)) [] M) : CallS Tryd.prog 42 [.ext u1, .ext u2] [] M [] K := by
  refine inlS (cs := []) Tryd.mixed Tryd.func42 rfl (by kernel_rfl) 0 rfl rfl ?_
  simp only [Tryd.f42]
  have hl2 : decide ((l.length : Int) = (l.length : Int)) = true := by simp
  (replace hb0 := true_and True); refine Go1.mk ?_; repeat' ((first | (with_reducible refine Go1.go ?_) | ((with_reducible first | refine brv_mk ?_ ?_ | refine gsplitD ?_ ?_ | refine gsplitG ?_ ?_) <;> intro h <;> (try simp only [Bool.not_eq_true', Bool.not_eq_false'] at h) <;> replace hb0 := h) | ((with_reducible refine isDraw [some 17, some 18, some 19, some 20, some 21, some 22, some 23, some 24, some 25] (by decide) ?_); refine draw_rule [(0, []), (1, []), (2, []), (3, []), (4, [3]), (5, [3]), (6, [3]), (7, [3]), (8, [])] [[], [], [0, 1], [0, 1, 2], [], [], [4, 5], [4, 5, 6], [0, 1, 2, 3, 4, 5, 6, 7]] [17, 18, 19, 20, 21, 22, 23, 24] [] (by kernel_rfl) (by kernel_rfl) (by kernel_rfl) (by kernel_rfl) (by exact trivial) ?_) | (refine And.intro ?ob ?_; case ob => ((try simp only [sxO, ne_eq, maxLen] at *); omega)) | fail) <;> (try simp (config := { maxSteps := 1000000 }) only [hb0, h1.len, h1.sl, h2.len, h2.sl, hl2, ↓hold_pre, awayP, runOps, regK, step1, newK, genR, appR, obl, buildR, Value.cells, closeK, keepH, outV, retK, ret1, retC, RetV, Option.getD, runD, stepD, afterK, undef, simprocAttr, sxB, ↓sxD, sxE, sxTab]))
  refine ⟨fun m z => ∃ i, i ≤ l.length ∧ m = l.length - i ∧ z = snSt M u1 u2 i, ⟨l.length, snSt M u1 u2 0, le_sub ⟨rfl, rfl, rfl, trivial⟩ trivial rfl rfl rfl (keepLt0 _), ⟨0, by omega, rfl, rfl⟩⟩, ?_⟩
  rintro m z ⟨i, hi, rfl, rfl⟩
  by_cases hlt : i < l.length
  · have f1 := h1.idx (P := Tryd.prog) (T := 70) tk70 tz70 (by omega) hlt
    have f2 := h2.idx (P := Tryd.prog) (T := 70) tk70 tz70 (by omega) hlt
    have d1 : decide ((l[i] : Int) = (l[i] : Int)) = true := by simp
    (replace hb0 := true_and True); refine Go1.mk ?_; repeat' ((first | (with_reducible refine Go1.go ?_) | ((with_reducible first | refine brv_mk ?_ ?_ | refine gsplitD ?_ ?_ | refine gsplitG ?_ ?_) <;> intro h <;> (try simp only [Bool.not_eq_true', Bool.not_eq_false'] at h) <;> replace hb0 := h) | ((with_reducible refine isDraw [some 17, some 18, some 19, some 20, some 21, some 22, some 23, some 24, some 25] (by decide) ?_); refine draw_rule [(0, []), (1, []), (2, []), (3, []), (4, [3]), (5, [3]), (6, [3]), (7, [3]), (8, [])] [[], [], [0, 1], [0, 1, 2], [], [], [4, 5], [4, 5, 6], [0, 1, 2, 3, 4, 5, 6, 7]] [17, 18, 19, 20, 21, 22, 23, 24] [] (by kernel_rfl) (by kernel_rfl) (by kernel_rfl) (by kernel_rfl) (by exact trivial) ?_) | (refine And.intro ?ob ?_; case ob => ((try simp only [sxO, ne_eq, maxLen] at *); omega)) | fail) <;> (try simp (config := { maxSteps := 1000000 }) only [hb0, f1, f2, d1, u32V, snSt, ↓hold_pre, awayP, runOps, regK, step1, newK, genR, appR, obl, buildR, Value.cells, closeK, keepH, outV, retK, ret1, retC, RetV, Option.getD, runD, stepD, afterK, undef, simprocAttr, sxB, ↓sxD, sxE, sxTab]))
    exact ⟨l.length - (i + 1), snSt M u1 u2 (i + 1), by omega, le_sub ⟨rfl, rfl, rfl, trivial⟩ trivial rfl rfl rfl (keepLt0 _), i + 1, by omega, rfl, rfl⟩
  · have f1 := h1.fin hlt
    obtain rfl : i = l.length := by omega
    (replace hb0 := true_and True); refine Go1.mk ?_; repeat' ((first | (with_reducible refine Go1.go ?_) | ((with_reducible first | refine brv_mk ?_ ?_ | refine gsplitD ?_ ?_ | refine gsplitG ?_ ?_) <;> intro h <;> (try simp only [Bool.not_eq_true', Bool.not_eq_false'] at h) <;> replace hb0 := h) | ((with_reducible refine isDraw [some 17, some 18, some 19, some 20, some 21, some 22, some 23, some 24, some 25] (by decide) ?_); refine draw_rule [(0, []), (1, []), (2, []), (3, []), (4, [3]), (5, [3]), (6, [3]), (7, [3]), (8, [])] [[], [], [0, 1], [0, 1, 2], [], [], [4, 5], [4, 5, 6], [0, 1, 2, 3, 4, 5, 6, 7]] [17, 18, 19, 20, 21, 22, 23, 24] [] (by kernel_rfl) (by kernel_rfl) (by kernel_rfl) (by kernel_rfl) (by exact trivial) ?_) | (refine And.intro ?ob ?_; case ob => ((try simp only [sxO, ne_eq, maxLen] at *); omega)) | fail) <;> (try simp (config := { maxSteps := 1000000 }) only [hb0, f1, snSt, ↓hold_pre, awayP, runOps, regK, step1, newK, genR, appR, obl, buildR, Value.cells, closeK, keepH, outV, retK, ret1, retC, RetV, Option.getD, runD, stepD, afterK, undef, simprocAttr, sxB, ↓sxD, sxE, sxTab]))
    exact hK
end
end Go.Proofs.YtamghpnjdohnjaaDoor.Sx
