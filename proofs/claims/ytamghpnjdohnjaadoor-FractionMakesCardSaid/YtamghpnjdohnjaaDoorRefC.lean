import Derived.Test.YtamghpnjdohnjaaDoorNumN
/- Numbers: the reference's sums, differences, products and short quotients. -/
namespace Go.Proofs.YtamghpnjdohnjaaDoor.Sx
open Go Go.RowKit
set_option linter.unusedVariables false
set_option linter.unusedSimpArgs false
set_option maxRecDepth 100000
set_option maxHeartbeats 8000000
attribute [local congr] fin_congr finG_congr stepG_congr step1_congr runOps_congr brv_congr obl_congr condK_congr LoopK_congr seqK_congr CutK_congr vc_congr DrawK_congr regK_congr CallK_congr AskK_congr newK_congr retC_congr ret1_congr retK_congr outV_congr closeK_congr genR_congr appR_congr finD_congr finGD_congr stepGD_congr stepD_congr CallK0_congr runD_congr okR_congr CallS_congr vcX_congr
attribute [local congr] Stop_congr
section
variable {M : Mem} {K : AV → Hp → Mem → Prop}
def plSt (M : Mem) (u v : Value) (i c : Nat) (out : List Nat) : St := { env := [(7, .ext (.int .i64 (i : Int))), (6, .ext (.int .u64 (c : Int))), (5, .slo 90 0 i 1), (0, .ext u), (1, .ext v)], hp := [(90, 70, cE u32V out)], M := M, kb := 0, fx := [] }
def plI (M : Mem) (u v : Value) (x y m : Nat) (d : Nat) (z : St) : Prop := ∃ i c out, d = m + 1 - i ∧ i ≤ m + 1 ∧ (m < i → c = 0) ∧ out.length = i ∧ okN out ∧ c ≤ 1 ∧ valN out + wN out.length * c = valN ((ofN x).take i) + valN ((ofN y).take i) ∧ z = plSt M u v i c out
theorem plus_ok (u v : Value) (x y : Nat) (hu : IsL M u32V u (ofN x)) (hv : IsL M u32V v (ofN y)) (hx : (ofN x).length < 100000000) (hy : (ofN y).length < 100000000) (hK : NatK M K (x + y)) : CallS Tryd.prog 96 [.ext u, .ext v] [] M [] K := by
  refine inlS (cs := []) Tryd.mixed Tryd.func96 rfl (by kernel_rfl) 0 rfl rfl ?_
  simp only [Tryd.f96]
  (replace hb0 := true_and True); refine Go1.mk ?_; repeat' ((first | (with_reducible refine Go1.go ?_) | ((with_reducible first | refine brv_mk ?_ ?_ | refine gsplitD ?_ ?_ | refine gsplitG ?_ ?_) <;> intro h <;> (try simp only [Bool.not_eq_true', Bool.not_eq_false'] at h) <;> replace hb0 := h) | (refine And.intro ?ob ?_; case ob => ((try simp only [sxO, ne_eq, maxLen] at *); omega)) | fail) <;> (try simp (config := { maxSteps := 1000000 }) only [hb0, cE_ment, hasK_nil, cE_kill, cE_len, u32_one, u32_app1, u32_set, Nat.mul_one, hu.one, hv.one, ↓hold_pre, awayP, runOps, regK, step1, newK, genR, appR, obl, buildR, Value.cells, closeK, keepH, outV, retK, ret1, retC, RetV, Option.getD, runD, stepD, afterK, undef, Int.reduceAdd, Int.reduceEq, Int.reduceGE, Int.reduceGT, Int.reduceLE, Int.reduceLT, Int.reduceMul, Int.reduceNe, Int.reduceNeg, Int.reduceSub, Int.reduceToNat, Nat.reduceAdd, Nat.reduceBEq, Nat.reduceBeqDiff, Nat.reduceEqDiff, Nat.reduceLT, Nat.reduceLeDiff, Nat.reduceMul, Nat.reduceSub, reduceCtorEq, ↓reduceIte, sxB, ↓sxD, sxE, sxTab]))
  obtain ⟨m, hm⟩ : ∃ m, max (ofN x).length (ofN y).length = m := ⟨_, rfl⟩
  refine ⟨plI M u v x y m, ⟨m + 1, plSt M u v 0 0 [], (le_nil 5 90 70 1 rfl (.inl rfl)).trans (le_sub ⟨rfl, rfl, rfl, rfl, rfl, trivial⟩ ⟨rfl, trivial⟩ rfl rfl rfl (keepLt0 _)), ⟨0, 0, [], rfl, by omega, fun _ => rfl, rfl, by simp [okN], by omega, by simp [valN], rfl⟩⟩, ?_⟩
  rintro d z ⟨i, c, out, rfl, hi, hcz, hlo, ho, hc, hval, rfl⟩
  have fin : ∀ (a b : Nat) (s : St), i ≤ m → ((ofN x).getD i 0 = a) → ((ofN y).getD i 0 = b) → (m = i → a = 0 ∧ b = 0) → a < 4294967296 → b < 4294967296 →
      lk s.env 7 = .ext (.int .i64 ((i + 1 : Nat) : Int)) → lk s.env 6 = .ext (.int .u64 (((a + c + b) / 4294967296 : Nat) : Int)) → lk s.env 5 = .slo 90 0 (i + 1) 1 → lk s.env 0 = .ext u → lk s.env 1 = .ext v → lkH s.hp 90 = some (70, cE u32V (out ++ [(a + c + b) % 4294967296])) → s.M = M → s.kb = 0 → s.fx = [] →
      ∃ m' z, m' < m + 1 - i ∧ Le s z ∧ plI M u v x y m m' z := fun a b s him ha hb h0 ha2 hb2 e7 e6 e5 e0 e1 eh eM ek ef =>
    ⟨m + 1 - (i + 1), plSt M u v (i + 1) ((a + c + b) / 4294967296) (out ++ [(a + c + b) % 4294967296]), by omega, le_sub ⟨e7, e6, e5, e0, e1, trivial⟩ ⟨eh, trivial⟩ eM.symm ek.symm ef.symm (by rw [ek]; exact keepLt0 _), i + 1, _, _, rfl, by omega, fun hmi => by
      obtain ⟨r1, r2⟩ := h0 (by omega)
      omega, by simp [hlo], okN_mod _ _ ho, by omega, by
      have st := add_step (x := a) (y := b) hval
      rw [hlo] at st
      rw [take_val, take_val, ha, hb, List.length_append, List.length_singleton, hlo]
      exact st, rfl⟩
  have wi : IntKind.i64.wrap ((i : Int) + 1) = ((i + 1 : Nat) : Int) := succ_i (by omega)
  by_cases ha : i < (ofN x).length
  · have hxi := hu.idx (P := Tryd.prog) (T := 70) tk70 tz70 (by omega) ha
    have hx0 := ofN_ok_at ha
    have hgx : (ofN x).getD i 0 = (ofN x)[i] := by simp [List.getD, ha]
    generalize (ofN x)[i] = a at *
    have w1 : IntKind.u64.wrap (a : Int) = (a : Int) := wrap64_id (by omega)
    have w2 : IntKind.u64.wrap ((c : Int) + (a : Int)) = ((a + c : Nat) : Int) := by rw [← Int.natCast_add, Nat.add_comm, wrap64_id (by omega)]
    by_cases hb : i < (ofN y).length
    · have hyi := hv.idx (P := Tryd.prog) (T := 70) tk70 tz70 (by omega) hb
      have hy0 := ofN_ok_at hb
      have hgy : (ofN y).getD i 0 = (ofN y)[i] := by simp [List.getD, hb]
      generalize (ofN y)[i] = b at *
      have w3 : IntKind.u64.wrap (b : Int) = (b : Int) := wrap64_id (by omega)
      have w4 : IntKind.u64.wrap (((a + c : Nat) : Int) + (b : Int)) = ((a + c + b : Nat) : Int) := by rw [← Int.natCast_add, wrap64_id (by omega)]
      have w5 := wrap32 (a + c + b)
      have w6 := shr32 (a + c + b)
      (replace hb0 := true_and True); refine Go1.mk ?_; repeat' ((first | (with_reducible refine Go1.go ?_) | ((with_reducible first | refine brv_mk ?_ ?_ | refine gsplitD ?_ ?_ | refine gsplitG ?_ ?_) <;> intro h <;> (try simp only [Bool.not_eq_true', Bool.not_eq_false'] at h) <;> replace hb0 := h) | (refine And.intro ?ob ?_; case ob => ((try simp only [sxO, ne_eq, maxLen] at *); omega)) | fail) <;> (try simp (config := { maxSteps := 1000000 }) only [hb0, cE_ment, hasK_nil, cE_kill, cE_len, u32_one, u32_app1, u32_set, Nat.mul_one, plSt, u32V, hu.one, hv.one, hu.len, hu.sl, hv.len, hv.sl, hxi, hyi, w1, w2, w3, w4, w5, w6, hlo, ↓hold_pre, awayP, runOps, regK, step1, newK, genR, appR, obl, buildR, Value.cells, closeK, keepH, outV, retK, ret1, retC, RetV, Option.getD, runD, stepD, afterK, undef, Int.reduceAdd, Int.reduceEq, Int.reduceGE, Int.reduceGT, Int.reduceLE, Int.reduceLT, Int.reduceMul, Int.reduceNe, Int.reduceNeg, Int.reduceSub, Int.reduceToNat, Nat.reduceAdd, Nat.reduceBEq, Nat.reduceBeqDiff, Nat.reduceEqDiff, Nat.reduceLT, Nat.reduceLeDiff, Nat.reduceMul, Nat.reduceSub, reduceCtorEq, ↓reduceIte, sxB, ↓sxD, sxE, sxTab]))
      exact fin a b _ (by omega) hgx hgy (fun h => by omega) hx0 hy0 rfl rfl rfl rfl rfl rfl rfl rfl rfl
    · have hyl := hv.fin (i := i) hb
      have hgy : (ofN y).getD i 0 = 0 := by simp [List.getD, List.getElem?_eq_none (show (ofN y).length ≤ i by omega)]
      have w5 := wrap32 (a + c)
      have w6 := shr32 (a + c)
      (replace hb0 := true_and True); refine Go1.mk ?_; repeat' ((first | (with_reducible refine Go1.go ?_) | ((with_reducible first | refine brv_mk ?_ ?_ | refine gsplitD ?_ ?_ | refine gsplitG ?_ ?_) <;> intro h <;> (try simp only [Bool.not_eq_true', Bool.not_eq_false'] at h) <;> replace hb0 := h) | (refine And.intro ?ob ?_; case ob => ((try simp only [sxO, ne_eq, maxLen] at *); omega)) | fail) <;> (try simp (config := { maxSteps := 1000000 }) only [hb0, cE_ment, hasK_nil, cE_kill, cE_len, u32_one, u32_app1, u32_set, Nat.mul_one, plSt, u32V, hu.one, hv.one, hu.len, hu.sl, hv.len, hv.sl, hxi, hyl, w1, w2, w5, w6, hlo, ↓hold_pre, awayP, runOps, regK, step1, newK, genR, appR, obl, buildR, Value.cells, closeK, keepH, outV, retK, ret1, retC, RetV, Option.getD, runD, stepD, afterK, undef, Int.reduceAdd, Int.reduceEq, Int.reduceGE, Int.reduceGT, Int.reduceLE, Int.reduceLT, Int.reduceMul, Int.reduceNe, Int.reduceNeg, Int.reduceSub, Int.reduceToNat, Nat.reduceAdd, Nat.reduceBEq, Nat.reduceBeqDiff, Nat.reduceEqDiff, Nat.reduceLT, Nat.reduceLeDiff, Nat.reduceMul, Nat.reduceSub, reduceCtorEq, ↓reduceIte, sxB, ↓sxD, sxE, sxTab]))
      exact fin a 0 _ (by omega) hgx hgy (fun h => by omega) hx0 (by decide) rfl rfl rfl rfl rfl rfl rfl rfl rfl
  · have hxl := hu.fin (i := i) ha
    have hgx : (ofN x).getD i 0 = 0 := by simp [List.getD, List.getElem?_eq_none (show (ofN x).length ≤ i by omega)]
    by_cases hb : i < (ofN y).length
    · have hyi := hv.idx (P := Tryd.prog) (T := 70) tk70 tz70 (by omega) hb
      have hy0 := ofN_ok_at hb
      have hgy : (ofN y).getD i 0 = (ofN y)[i] := by simp [List.getD, hb]
      generalize (ofN y)[i] = b at *
      have w3 : IntKind.u64.wrap (b : Int) = (b : Int) := wrap64_id (by omega)
      have w4 : IntKind.u64.wrap ((c : Int) + (b : Int)) = ((c + b : Nat) : Int) := by rw [← Int.natCast_add, wrap64_id (by omega)]
      have w5 := wrap32 (c + b)
      have w6 := shr32 (c + b)
      (replace hb0 := true_and True); refine Go1.mk ?_; repeat' ((first | (with_reducible refine Go1.go ?_) | ((with_reducible first | refine brv_mk ?_ ?_ | refine gsplitD ?_ ?_ | refine gsplitG ?_ ?_) <;> intro h <;> (try simp only [Bool.not_eq_true', Bool.not_eq_false'] at h) <;> replace hb0 := h) | (refine And.intro ?ob ?_; case ob => ((try simp only [sxO, ne_eq, maxLen] at *); omega)) | fail) <;> (try simp (config := { maxSteps := 1000000 }) only [hb0, cE_ment, hasK_nil, cE_kill, cE_len, u32_one, u32_app1, u32_set, Nat.mul_one, plSt, u32V, hu.one, hv.one, hu.len, hu.sl, hv.len, hv.sl, hxl, hyi, wi, w3, w4, w5, w6, hlo, ↓hold_pre, awayP, runOps, regK, step1, newK, genR, appR, obl, buildR, Value.cells, closeK, keepH, outV, retK, ret1, retC, RetV, Option.getD, runD, stepD, afterK, undef, Int.reduceAdd, Int.reduceEq, Int.reduceGE, Int.reduceGT, Int.reduceLE, Int.reduceLT, Int.reduceMul, Int.reduceNe, Int.reduceNeg, Int.reduceSub, Int.reduceToNat, Nat.reduceAdd, Nat.reduceBEq, Nat.reduceBeqDiff, Nat.reduceEqDiff, Nat.reduceLT, Nat.reduceLeDiff, Nat.reduceMul, Nat.reduceSub, reduceCtorEq, ↓reduceIte, sxB, ↓sxD, sxE, sxTab]))
      exact fin 0 b _ (by omega) hgx hgy (fun h => by omega) (by decide) hy0 rfl (by rw [Nat.zero_add]; rfl) rfl rfl rfl (by rw [Nat.zero_add]; rfl) rfl rfl rfl
    · have hyl := hv.fin (i := i) hb
      have hgy : (ofN y).getD i 0 = 0 := by simp [List.getD, List.getElem?_eq_none (show (ofN y).length ≤ i by omega)]
      by_cases h0 : c = 0
      · subst h0
        have d1 : decide ((0 : Int) < ((0 : Nat) : Int)) = false := by decide
        have hv2 : valN out = x + y := by
          rw [Nat.mul_zero, Nat.add_zero, take_all (l := ofN x) (by omega), take_all (l := ofN y) (by omega), valN_ofN, valN_ofN] at hval
          exact hval
        (replace hb0 := true_and True); refine Go1.mk ?_; repeat' ((first | (with_reducible refine Go1.go ?_) | ((with_reducible first | refine brv_mk ?_ ?_ | refine gsplitD ?_ ?_ | refine gsplitG ?_ ?_) <;> intro h <;> (try simp only [Bool.not_eq_true', Bool.not_eq_false'] at h) <;> replace hb0 := h) | ((with_reducible refine isCall (f := 89) ?_); refine callA ?_) | ((with_reducible refine isCall0 (f := 89) ?_); refine callA0 ?_) | ((with_reducible refine isCallS (f := 89) ?_); refine (rtrim_bor 90 i _ out hlo.symm ho (by omega) (fun w M' g1 g2 g3 => Stop.mk ?_))) | (refine And.intro ?ob ?_; case ob => ((try simp only [sxO, ne_eq, maxLen] at *); omega)) | fail) <;> (try simp (config := { maxSteps := 1000000 }) only [hb0, cE_ment, hasK_nil, cE_kill, cE_len, u32_one, u32_app1, u32_set, Nat.mul_one, plSt, u32V, hu.one, hv.one, hu.len, hu.sl, hv.len, hv.sl, hxl, hyl, d1, hlo, ↓hold_pre, awayP, runOps, regK, step1, newK, genR, appR, obl, buildR, Value.cells, closeK, keepH, outV, retK, ret1, retC, RetV, Option.getD, runD, stepD, afterK, undef, Int.reduceAdd, Int.reduceEq, Int.reduceGE, Int.reduceGT, Int.reduceLE, Int.reduceLT, Int.reduceMul, Int.reduceNe, Int.reduceNeg, Int.reduceSub, Int.reduceToNat, Nat.reduceAdd, Nat.reduceBEq, Nat.reduceBeqDiff, Nat.reduceEqDiff, Nat.reduceLT, Nat.reduceLeDiff, Nat.reduceMul, Nat.reduceSub, reduceCtorEq, ↓reduceIte, sxB, ↓sxD, sxE, sxTab]))
        rw [hv2] at g2
        refine Stop.go ?_
        (replace hb0 := true_and True); refine Go1.mk ?_; repeat' ((first | (with_reducible refine Go1.go ?_) | ((with_reducible first | refine brv_mk ?_ ?_ | refine gsplitD ?_ ?_ | refine gsplitG ?_ ?_) <;> intro h <;> (try simp only [Bool.not_eq_true', Bool.not_eq_false'] at h) <;> replace hb0 := h) | (refine And.intro ?ob ?_; case ob => ((try simp only [sxO, ne_eq, maxLen] at *); omega)) | fail) <;> (try simp (config := { maxSteps := 1000000 }) only [hb0, cE_ment, hasK_nil, cE_kill, cE_len, u32_one, u32_app1, u32_set, Nat.mul_one, g2.one, ↓hold_pre, awayP, runOps, regK, step1, newK, genR, appR, obl, buildR, Value.cells, closeK, keepH, outV, retK, ret1, retC, RetV, Option.getD, runD, stepD, afterK, undef, Int.reduceAdd, Int.reduceEq, Int.reduceGE, Int.reduceGT, Int.reduceLE, Int.reduceLT, Int.reduceMul, Int.reduceNe, Int.reduceNeg, Int.reduceSub, Int.reduceToNat, Nat.reduceAdd, Nat.reduceBEq, Nat.reduceBeqDiff, Nat.reduceEqDiff, Nat.reduceLT, Nat.reduceLeDiff, Nat.reduceMul, Nat.reduceSub, reduceCtorEq, ↓reduceIte, sxB, ↓sxD, sxE, sxTab]))
        exact hK _ _ g1 g2 g3
      · obtain rfl : c = 1 := by omega
        have d1 : decide ((0 : Int) < ((1 : Nat) : Int)) = true := by decide
        have him : i ≤ m := by
          rcases Nat.lt_or_ge m i with h | h
          · exact absurd (hcz h) h0
          · exact h
        have w5 : IntKind.u32.wrap ((1 : Nat) : Int) = (((0 + 1 + 0) % 4294967296 : Nat) : Int) := rfl
        have w6 : ((1 : Nat) : Int).fdiv (2 ^ (min 32 IntKind.u64.bits)) = (((0 + 1 + 0) / 4294967296 : Nat) : Int) := shr32 1
        (replace hb0 := true_and True); refine Go1.mk ?_; repeat' ((first | (with_reducible refine Go1.go ?_) | ((with_reducible first | refine brv_mk ?_ ?_ | refine gsplitD ?_ ?_ | refine gsplitG ?_ ?_) <;> intro h <;> (try simp only [Bool.not_eq_true', Bool.not_eq_false'] at h) <;> replace hb0 := h) | (refine And.intro ?ob ?_; case ob => ((try simp only [sxO, ne_eq, maxLen] at *); omega)) | fail) <;> (try simp (config := { maxSteps := 1000000 }) only [hb0, cE_ment, hasK_nil, cE_kill, cE_len, u32_one, u32_app1, u32_set, Nat.mul_one, plSt, u32V, hu.one, hv.one, hu.len, hu.sl, hv.len, hv.sl, hxl, hyl, wi, d1, w5, w6, hlo, ↓hold_pre, awayP, runOps, regK, step1, newK, genR, appR, obl, buildR, Value.cells, closeK, keepH, outV, retK, ret1, retC, RetV, Option.getD, runD, stepD, afterK, undef, Int.reduceAdd, Int.reduceEq, Int.reduceGE, Int.reduceGT, Int.reduceLE, Int.reduceLT, Int.reduceMul, Int.reduceNe, Int.reduceNeg, Int.reduceSub, Int.reduceToNat, Nat.reduceAdd, Nat.reduceBEq, Nat.reduceBeqDiff, Nat.reduceEqDiff, Nat.reduceLT, Nat.reduceLeDiff, Nat.reduceMul, Nat.reduceSub, reduceCtorEq, ↓reduceIte, sxB, ↓sxD, sxE, sxTab]))
        exact fin 0 0 _ him hgx hgy (fun _ => ⟨rfl, rfl⟩) (by decide) (by decide) rfl rfl rfl rfl rfl rfl rfl rfl rfl
def mnSt (M : Mem) (u v : Value) (i b : Nat) (out : List Nat) : St := { env := [(7, .ext (.int .i64 (i : Int))), (6, .ext (.int .u64 (b : Int))), (5, .slo 90 0 i 1), (0, .ext u), (1, .ext v)], hp := [(90, 70, cE u32V out)], M := M, kb := 0, fx := [] }
def mnI (M : Mem) (u v : Value) (x y m : Nat) (d : Nat) (z : St) : Prop := ∃ i b out, d = m - i ∧ i ≤ m ∧ out.length = i ∧ okN out ∧ b ≤ 1 ∧ valN out + valN ((ofN y).take i) = valN ((ofN x).take i) + wN out.length * b ∧ z = mnSt M u v i b out
theorem minus_ok (u v : Value) (x y : Nat) (hu : IsL M u32V u (ofN x)) (hv : IsL M u32V v (ofN y)) (hx : (ofN x).length < 100000000) (hyx : y ≤ x) (hK : NatK M K (x - y)) : CallS Tryd.prog 68 [.ext u, .ext v] [] M [] K := by
  have hlen : (ofN y).length ≤ (ofN x).length := len_mono hyx
  refine inlS (cs := []) Tryd.mixed Tryd.func68 rfl (by kernel_rfl) 0 rfl rfl ?_
  simp only [Tryd.f68]
  (replace hb0 := true_and True); refine Go1.mk ?_; repeat' ((first | (with_reducible refine Go1.go ?_) | ((with_reducible first | refine brv_mk ?_ ?_ | refine gsplitD ?_ ?_ | refine gsplitG ?_ ?_) <;> intro h <;> (try simp only [Bool.not_eq_true', Bool.not_eq_false'] at h) <;> replace hb0 := h) | (refine And.intro ?ob ?_; case ob => ((try simp only [sxO, ne_eq, maxLen] at *); omega)) | fail) <;> (try simp (config := { maxSteps := 1000000 }) only [hb0, cE_ment, hasK_nil, cE_kill, cE_len, u32_one, u32_app1, u32_set, Nat.mul_one, hu.one, hv.one, ↓hold_pre, awayP, runOps, regK, step1, newK, genR, appR, obl, buildR, Value.cells, closeK, keepH, outV, retK, ret1, retC, RetV, Option.getD, runD, stepD, afterK, undef, Int.reduceAdd, Int.reduceEq, Int.reduceGE, Int.reduceGT, Int.reduceLE, Int.reduceLT, Int.reduceMul, Int.reduceNe, Int.reduceNeg, Int.reduceSub, Int.reduceToNat, Nat.reduceAdd, Nat.reduceBEq, Nat.reduceBeqDiff, Nat.reduceEqDiff, Nat.reduceLT, Nat.reduceLeDiff, Nat.reduceMul, Nat.reduceSub, reduceCtorEq, ↓reduceIte, sxB, ↓sxD, sxE, sxTab]))
  refine ⟨mnI M u v x y (ofN x).length, ⟨(ofN x).length, mnSt M u v 0 0 [], (le_nil 5 90 70 1 rfl (.inl rfl)).trans (le_sub ⟨rfl, rfl, rfl, rfl, rfl, trivial⟩ ⟨rfl, trivial⟩ rfl rfl rfl (keepLt0 _)), ⟨0, 0, [], rfl, by omega, rfl, by simp [okN], by omega, by simp [valN], rfl⟩⟩, ?_⟩
  rintro d z ⟨i, b, out, rfl, hi, hlo, ho, hb, hval, rfl⟩
  by_cases ha : i < (ofN x).length
  case neg =>
    have hxl := hu.fin (i := i) ha
    obtain rfl : i = (ofN x).length := by omega
    rw [take_all (l := ofN y) hlen, take_all (l := ofN x) (by omega), valN_ofN, valN_ofN] at hval
    have hv2 := sub_end ho hval hyx
    (replace hb0 := true_and True); refine Go1.mk ?_; repeat' ((first | (with_reducible refine Go1.go ?_) | ((with_reducible first | refine brv_mk ?_ ?_ | refine gsplitD ?_ ?_ | refine gsplitG ?_ ?_) <;> intro h <;> (try simp only [Bool.not_eq_true', Bool.not_eq_false'] at h) <;> replace hb0 := h) | ((with_reducible refine isCall (f := 89) ?_); refine callA ?_) | ((with_reducible refine isCall0 (f := 89) ?_); refine callA0 ?_) | ((with_reducible refine isCallS (f := 89) ?_); refine (rtrim_bor 90 (ofN x).length _ out hlo.symm ho (by omega) (fun w M' g1 g2 g3 => Stop.mk ?_))) | (refine And.intro ?ob ?_; case ob => ((try simp only [sxO, ne_eq, maxLen] at *); omega)) | fail) <;> (try simp (config := { maxSteps := 1000000 }) only [hb0, cE_ment, hasK_nil, cE_kill, cE_len, u32_one, u32_app1, u32_set, Nat.mul_one, mnSt, u32V, hu.one, hv.one, hxl, hlo, ↓hold_pre, awayP, runOps, regK, step1, newK, genR, appR, obl, buildR, Value.cells, closeK, keepH, outV, retK, ret1, retC, RetV, Option.getD, runD, stepD, afterK, undef, Int.reduceAdd, Int.reduceEq, Int.reduceGE, Int.reduceGT, Int.reduceLE, Int.reduceLT, Int.reduceMul, Int.reduceNe, Int.reduceNeg, Int.reduceSub, Int.reduceToNat, Nat.reduceAdd, Nat.reduceBEq, Nat.reduceBeqDiff, Nat.reduceEqDiff, Nat.reduceLT, Nat.reduceLeDiff, Nat.reduceMul, Nat.reduceSub, reduceCtorEq, ↓reduceIte, sxB, ↓sxD, sxE, sxTab]))
    rw [hv2] at g2
    refine Stop.go ?_
    (replace hb0 := true_and True); refine Go1.mk ?_; repeat' ((first | (with_reducible refine Go1.go ?_) | ((with_reducible first | refine brv_mk ?_ ?_ | refine gsplitD ?_ ?_ | refine gsplitG ?_ ?_) <;> intro h <;> (try simp only [Bool.not_eq_true', Bool.not_eq_false'] at h) <;> replace hb0 := h) | (refine And.intro ?ob ?_; case ob => ((try simp only [sxO, ne_eq, maxLen] at *); omega)) | fail) <;> (try simp (config := { maxSteps := 1000000 }) only [hb0, cE_ment, hasK_nil, cE_kill, cE_len, u32_one, u32_app1, u32_set, Nat.mul_one, g2.one, ↓hold_pre, awayP, runOps, regK, step1, newK, genR, appR, obl, buildR, Value.cells, closeK, keepH, outV, retK, ret1, retC, RetV, Option.getD, runD, stepD, afterK, undef, Int.reduceAdd, Int.reduceEq, Int.reduceGE, Int.reduceGT, Int.reduceLE, Int.reduceLT, Int.reduceMul, Int.reduceNe, Int.reduceNeg, Int.reduceSub, Int.reduceToNat, Nat.reduceAdd, Nat.reduceBEq, Nat.reduceBeqDiff, Nat.reduceEqDiff, Nat.reduceLT, Nat.reduceLeDiff, Nat.reduceMul, Nat.reduceSub, reduceCtorEq, ↓reduceIte, sxB, ↓sxD, sxE, sxTab]))
    exact hK _ _ g1 g2 g3
  have hxi := hu.idx (P := Tryd.prog) (T := 70) tk70 tz70 (by omega) ha
  have hx0 := ofN_ok_at ha
  have hgx : (ofN x).getD i 0 = (ofN x)[i] := by simp [List.getD, ha]
  generalize (ofN x)[i] = a at *
  have w1 : IntKind.u64.wrap (a : Int) = (a : Int) := wrap64_id (by omega)
  have fin : ∀ (yy r b' : Nat) (s : St), (ofN y).getD i 0 = yy → r < 4294967296 → b' ≤ 1 → r + yy + b = a + 4294967296 * b' →
      lk s.env 7 = .ext (.int .i64 ((i + 1 : Nat) : Int)) → lk s.env 6 = .ext (.int .u64 (b' : Int)) → lk s.env 5 = .slo 90 0 (i + 1) 1 → lk s.env 0 = .ext u → lk s.env 1 = .ext v → lkH s.hp 90 = some (70, cE u32V (out ++ [r])) → s.M = M → s.kb = 0 → s.fx = [] →
      ∃ m' z, m' < (ofN x).length - i ∧ Le s z ∧ mnI M u v x y (ofN x).length m' z := fun yy r b' s hy hr hb' heq e7 e6 e5 e0 e1 eh eM ek ef =>
    ⟨(ofN x).length - (i + 1), mnSt M u v (i + 1) b' (out ++ [r]), by omega, le_sub ⟨e7, e6, e5, e0, e1, trivial⟩ ⟨eh, trivial⟩ eM.symm ek.symm ef.symm (by rw [ek]; exact keepLt0 _), i + 1, _, _, rfl, by omega, by simp [hlo], okN_app.2 ⟨ho, okN_one hr⟩, hb', by
      have st := sub_step hval heq
      rw [hlo] at st
      rw [take_val, take_val, hgx, hy, List.length_append, List.length_singleton, hlo]; exact st, rfl⟩
  have z0 : IntKind.u64.wrap (0 * 2 ^ (min 32 IntKind.u64.bits)) = 0 := rfl
  have z1 : IntKind.u64.wrap (1 * 2 ^ (min 32 IntKind.u64.bits)) = 4294967296 := rfl
  have a0 : IntKind.u64.wrap ((a : Int) + 0) = (a : Int) := by rw [Int.add_zero]; exact w1
  have a1 : IntKind.u64.wrap ((a : Int) + 4294967296) = ((a + 4294967296 : Nat) : Int) := by
    rw [show (a : Int) + 4294967296 = ((a + 4294967296 : Nat) : Int) by omega, wrap64_id (by omega)]
  by_cases hbl : i < (ofN y).length
  · have hyi := hv.idx (P := Tryd.prog) (T := 70) tk70 tz70 (by omega) hbl
    have hy0 := ofN_ok_at hbl
    have hgy : (ofN y).getD i 0 = (ofN y)[i] := by simp [List.getD, hbl]
    generalize (ofN y)[i] = yy at *
    have w3 : IntKind.u64.wrap (yy : Int) = (yy : Int) := wrap64_id (by omega)
    have w4 : IntKind.u64.wrap ((b : Int) + (yy : Int)) = ((b + yy : Nat) : Int) := by rw [← Int.natCast_add, wrap64_id (by omega)]
    by_cases hlt : a < b + yy
    · have d1 : decide ((a : Int) < ((b + yy : Nat) : Int)) = true := by rw [decide_eq_true_eq]; omega
      have w5 : IntKind.u64.wrap (((a + 4294967296 : Nat) : Int) - ((b + yy : Nat) : Int)) = ((a + 4294967296 - (b + yy) : Nat) : Int) := by rw [wrap64_i (by omega) (by omega)]; omega
      have w6 : IntKind.u32.wrap ((a + 4294967296 - (b + yy) : Nat) : Int) = ((a + 4294967296 - (b + yy) : Nat) : Int) := wrap32_id (by omega)
      (replace hb0 := true_and True); refine Go1.mk ?_; repeat' ((first | (with_reducible refine Go1.go ?_) | ((with_reducible first | refine brv_mk ?_ ?_ | refine gsplitD ?_ ?_ | refine gsplitG ?_ ?_) <;> intro h <;> (try simp only [Bool.not_eq_true', Bool.not_eq_false'] at h) <;> replace hb0 := h) | (refine And.intro ?ob ?_; case ob => ((try simp only [sxO, ne_eq, maxLen] at *); omega)) | fail) <;> (try simp (config := { maxSteps := 1000000 }) only [hb0, cE_ment, hasK_nil, cE_kill, cE_len, u32_one, u32_app1, u32_set, Nat.mul_one, mnSt, u32V, hu.one, hv.one, hxi, hyi, w1, w3, w4, w5, w6, d1, z1, a1, hlo, ↓hold_pre, awayP, runOps, regK, step1, newK, genR, appR, obl, buildR, Value.cells, closeK, keepH, outV, retK, ret1, retC, RetV, Option.getD, runD, stepD, afterK, undef, Int.reduceAdd, Int.reduceEq, Int.reduceGE, Int.reduceGT, Int.reduceLE, Int.reduceLT, Int.reduceMul, Int.reduceNe, Int.reduceNeg, Int.reduceSub, Int.reduceToNat, Nat.reduceAdd, Nat.reduceBEq, Nat.reduceBeqDiff, Nat.reduceEqDiff, Nat.reduceLT, Nat.reduceLeDiff, Nat.reduceMul, Nat.reduceSub, reduceCtorEq, ↓reduceIte, sxB, ↓sxD, sxE, sxTab]))
      exact fin yy _ 1 _ hgy (by omega) (by omega) (by omega) rfl rfl rfl rfl rfl rfl rfl rfl rfl
    · have d1 : decide ((a : Int) < ((b + yy : Nat) : Int)) = false := by rw [decide_eq_false_iff_not]; omega
      have w5 : IntKind.u64.wrap ((a : Int) - ((b + yy : Nat) : Int)) = ((a - (b + yy) : Nat) : Int) := by rw [wrap64_i (by omega) (by omega)]; omega
      have w6 : IntKind.u32.wrap ((a - (b + yy) : Nat) : Int) = ((a - (b + yy) : Nat) : Int) := wrap32_id (by omega)
      (replace hb0 := true_and True); refine Go1.mk ?_; repeat' ((first | (with_reducible refine Go1.go ?_) | ((with_reducible first | refine brv_mk ?_ ?_ | refine gsplitD ?_ ?_ | refine gsplitG ?_ ?_) <;> intro h <;> (try simp only [Bool.not_eq_true', Bool.not_eq_false'] at h) <;> replace hb0 := h) | (refine And.intro ?ob ?_; case ob => ((try simp only [sxO, ne_eq, maxLen] at *); omega)) | fail) <;> (try simp (config := { maxSteps := 1000000 }) only [hb0, cE_ment, hasK_nil, cE_kill, cE_len, u32_one, u32_app1, u32_set, Nat.mul_one, mnSt, u32V, hu.one, hv.one, hxi, hyi, w1, w3, w4, w5, w6, d1, z0, a0, hlo, ↓hold_pre, awayP, runOps, regK, step1, newK, genR, appR, obl, buildR, Value.cells, closeK, keepH, outV, retK, ret1, retC, RetV, Option.getD, runD, stepD, afterK, undef, Int.reduceAdd, Int.reduceEq, Int.reduceGE, Int.reduceGT, Int.reduceLE, Int.reduceLT, Int.reduceMul, Int.reduceNe, Int.reduceNeg, Int.reduceSub, Int.reduceToNat, Nat.reduceAdd, Nat.reduceBEq, Nat.reduceBeqDiff, Nat.reduceEqDiff, Nat.reduceLT, Nat.reduceLeDiff, Nat.reduceMul, Nat.reduceSub, reduceCtorEq, ↓reduceIte, sxB, ↓sxD, sxE, sxTab]))
      exact fin yy _ 0 _ hgy (by omega) (by omega) (by omega) rfl rfl rfl rfl rfl rfl rfl rfl rfl
  · have hyl := hv.fin (i := i) hbl
    have hgy : (ofN y).getD i 0 = 0 := by simp [List.getD, List.getElem?_eq_none (show (ofN y).length ≤ i by omega)]
    by_cases hlt : a < b
    · have d1 : decide ((a : Int) < (b : Int)) = true := by rw [decide_eq_true_eq]; omega
      have w5 : IntKind.u64.wrap (((a + 4294967296 : Nat) : Int) - (b : Int)) = ((a + 4294967296 - b : Nat) : Int) := by rw [wrap64_i (by omega) (by omega)]; omega
      have w6 : IntKind.u32.wrap ((a + 4294967296 - b : Nat) : Int) = ((a + 4294967296 - b : Nat) : Int) := wrap32_id (by omega)
      (replace hb0 := true_and True); refine Go1.mk ?_; repeat' ((first | (with_reducible refine Go1.go ?_) | ((with_reducible first | refine brv_mk ?_ ?_ | refine gsplitD ?_ ?_ | refine gsplitG ?_ ?_) <;> intro h <;> (try simp only [Bool.not_eq_true', Bool.not_eq_false'] at h) <;> replace hb0 := h) | (refine And.intro ?ob ?_; case ob => ((try simp only [sxO, ne_eq, maxLen] at *); omega)) | fail) <;> (try simp (config := { maxSteps := 1000000 }) only [hb0, cE_ment, hasK_nil, cE_kill, cE_len, u32_one, u32_app1, u32_set, Nat.mul_one, mnSt, u32V, hu.one, hv.one, hxi, hyl, w1, w5, w6, d1, z1, a1, hlo, ↓hold_pre, awayP, runOps, regK, step1, newK, genR, appR, obl, buildR, Value.cells, closeK, keepH, outV, retK, ret1, retC, RetV, Option.getD, runD, stepD, afterK, undef, Int.reduceAdd, Int.reduceEq, Int.reduceGE, Int.reduceGT, Int.reduceLE, Int.reduceLT, Int.reduceMul, Int.reduceNe, Int.reduceNeg, Int.reduceSub, Int.reduceToNat, Nat.reduceAdd, Nat.reduceBEq, Nat.reduceBeqDiff, Nat.reduceEqDiff, Nat.reduceLT, Nat.reduceLeDiff, Nat.reduceMul, Nat.reduceSub, reduceCtorEq, ↓reduceIte, sxB, ↓sxD, sxE, sxTab]))
      exact fin 0 _ 1 _ hgy (by omega) (by omega) (by omega) rfl rfl rfl rfl rfl rfl rfl rfl rfl
    · have d1 : decide ((a : Int) < (b : Int)) = false := by rw [decide_eq_false_iff_not]; omega
      have w5 : IntKind.u64.wrap ((a : Int) - (b : Int)) = ((a - b : Nat) : Int) := by rw [wrap64_i (by omega) (by omega)]; omega
      have w6 : IntKind.u32.wrap ((a - b : Nat) : Int) = ((a - b : Nat) : Int) := wrap32_id (by omega)
      (replace hb0 := true_and True); refine Go1.mk ?_; repeat' ((first | (with_reducible refine Go1.go ?_) | ((with_reducible first | refine brv_mk ?_ ?_ | refine gsplitD ?_ ?_ | refine gsplitG ?_ ?_) <;> intro h <;> (try simp only [Bool.not_eq_true', Bool.not_eq_false'] at h) <;> replace hb0 := h) | (refine And.intro ?ob ?_; case ob => ((try simp only [sxO, ne_eq, maxLen] at *); omega)) | fail) <;> (try simp (config := { maxSteps := 1000000 }) only [hb0, cE_ment, hasK_nil, cE_kill, cE_len, u32_one, u32_app1, u32_set, Nat.mul_one, mnSt, u32V, hu.one, hv.one, hxi, hyl, w1, w5, w6, d1, z0, a0, hlo, ↓hold_pre, awayP, runOps, regK, step1, newK, genR, appR, obl, buildR, Value.cells, closeK, keepH, outV, retK, ret1, retC, RetV, Option.getD, runD, stepD, afterK, undef, Int.reduceAdd, Int.reduceEq, Int.reduceGE, Int.reduceGT, Int.reduceLE, Int.reduceLT, Int.reduceMul, Int.reduceNe, Int.reduceNeg, Int.reduceSub, Int.reduceToNat, Nat.reduceAdd, Nat.reduceBEq, Nat.reduceBeqDiff, Nat.reduceEqDiff, Nat.reduceLT, Nat.reduceLeDiff, Nat.reduceMul, Nat.reduceSub, reduceCtorEq, ↓reduceIte, sxB, ↓sxD, sxE, sxTab]))
      exact fin 0 _ 0 _ hgy (by omega) (by omega) (by omega) rfl rfl rfl rfl rfl rfl rfl rfl rfl
def tmSt (M : Mem) (u v : Value) (n i : Nat) (out : List Nat) : St := { env := [(6, .ext (.int .i64 (i : Int))), (5, .slo 14 0 n 1), (0, .ext u), (1, .ext v)], hp := [(14, 70, cE u32V out)], M := M, kb := 0, fx := [] }
def tiSt (M : Mem) (u v : Value) (n i k c : Nat) (out : List Nat) : St := { env := [(8, .ext (.int .i64 (k : Int))), (7, .ext (.int .u64 (c : Int))), (6, .ext (.int .i64 (i : Int))), (5, .slo 14 0 n 1), (0, .ext u), (1, .ext v)], hp := [(14, 70, cE u32V out)], M := M, kb := 0, fx := [] }
def tmI (M : Mem) (u v : Value) (x y la lb : Nat) (d : Nat) (z : St) : Prop := ∃ i out, d = la - i ∧ i ≤ la ∧ out.length = la + lb ∧ okN out ∧ valN out = valN ((ofN x).take i) * y ∧ (∀ j (h : j < out.length), i + lb ≤ j → out[j] = 0) ∧ z = tmSt M u v (la + lb) i out
def tiI (M : Mem) (u v : Value) (b : List Nat) (n i x lb : Nat) (out : List Nat) (d : Nat) (z : St) : Prop := ∃ k c o, d = lb + 1 - k ∧ k ≤ lb + 1 ∧ (lb < k → c = 0) ∧ o.length = n ∧ okN o ∧ c < 4294967296 ∧ valN o + wN (i + k) * c = valN out + wN i * (x * valN (b.take k)) ∧ (∀ j (h : j < o.length) (h2 : j < out.length), i + k ≤ j → o[j] = out[j]) ∧ z = tiSt M u v n i k c o
theorem times_ok (u v : Value) (x y : Nat) (hu : IsL M u32V u (ofN x)) (hv : IsL M u32V v (ofN y)) (hx : (ofN x).length < 100000000) (hy : (ofN y).length < 100000000) (hK : NatK M K (x * y)) : CallS Tryd.prog 69 [.ext u, .ext v] [] M [] K := by
  refine inlS (cs := []) Tryd.mixed Tryd.func69 rfl (by kernel_rfl) 0 rfl rfl ?_
  simp only [Tryd.f69]
  generalize hl : (ofN x).length = la at *
  generalize hm : (ofN y).length = lb at *
  have w1 : IntKind.i64.wrap ((la : Int) + (lb : Int)) = ((la + lb : Nat) : Int) := by rw [wrap_id (by omega) (by omega)]; omega
  (replace hb0 := true_and True); refine Go1.mk ?_; repeat' ((first | (with_reducible refine Go1.go ?_) | ((with_reducible first | refine brv_mk ?_ ?_ | refine gsplitD ?_ ?_ | refine gsplitG ?_ ?_) <;> intro h <;> (try simp only [Bool.not_eq_true', Bool.not_eq_false'] at h) <;> replace hb0 := h) | ((with_reducible refine isDraw [some 44, some 45, some 46, some 47, some 48, some 49, some 50, some 51, some 52, some 53, some 54, some 55, some 56, some 7] (by decide) ?_); refine draw_rule [(0, []), (1, []), (2, []), (3, []), (4, []), (5, []), (6, [4]), (7, [4]), (8, [4]), (9, [4]), (10, [4]), (11, []), (12, []), (13, [])] [[], [], [], [1, 2], [1, 2, 3], [1, 2, 3, 4], [], [], [6, 7], [6, 7, 8], [6, 7, 8, 9], [1, 2, 3, 4, 5, 6, 7, 8, 9, 10], [0, 1, 2, 3, 4, 5, 6, 7, 8, 9, 10, 11], [0, 1, 2, 3, 4, 5, 6, 7, 8, 9, 10, 11, 12]] [44, 45, 46, 47, 48, 49, 50, 51, 52, 53, 54, 55] [] (by kernel_rfl) (by kernel_rfl) (by kernel_rfl) (by kernel_rfl) (by exact trivial) ?_) | (refine And.intro ?ob ?_; case ob => ((try simp only [sxO, ne_eq, maxLen] at *); omega)) | fail) <;> (try simp (config := { maxSteps := 1000000 }) only [hb0, cE_ment, hasK_nil, cE_kill, cE_len, u32_one, u32_app1, u32_set, Nat.mul_one, hu.one, hv.one, hu.len, hu.sl, hl, hv.len, hv.sl, hm, w1, ↓hold_pre, awayP, runOps, regK, step1, newK, genR, appR, obl, buildR, Value.cells, closeK, keepH, outV, retK, ret1, retC, RetV, Option.getD, runD, stepD, afterK, undef, Int.reduceAdd, Int.reduceEq, Int.reduceGE, Int.reduceGT, Int.reduceLE, Int.reduceLT, Int.reduceMul, Int.reduceNe, Int.reduceNeg, Int.reduceSub, Int.reduceToNat, Nat.reduceAdd, Nat.reduceBEq, Nat.reduceBeqDiff, Nat.reduceEqDiff, Nat.reduceLT, Nat.reduceLeDiff, Nat.reduceMul, Nat.reduceSub, reduceCtorEq, ↓reduceIte, sxB, ↓sxD, sxE, sxTab]))
  have hz0 : List.map AV.ext (repN [Value.int .u32 0] (la + lb)) = cE u32V (List.replicate (la + lb) 0) := cE_rep u32V (la + lb) 0
  refine ⟨tmI M u v x y la lb, ⟨la, tmSt M u v (la + lb) 0 (List.replicate (la + lb) 0), le_sub ⟨rfl, rfl, rfl, rfl, trivial⟩ (by simp [subHp, tmSt, lkH, hz0]) rfl rfl rfl (keepLt0 _), ⟨0, _, rfl, by omega, by simp, okN_rep _, by rw [valN_rep]; simp [valN], fun j h _ => by simp, rfl⟩⟩, ?_⟩
  rintro d z ⟨i, out, rfl, hi, hlo, ho, hval, hzz, rfl⟩
  by_cases hlt : i < la
  case neg =>
    obtain rfl : i = la := by omega
    have d1 : decide ((i : Int) < (i : Int)) = false := by simp
    rw [take_all (by omega), valN_ofN] at hval
    (replace hb0 := true_and True); refine Go1.mk ?_; repeat' ((first | (with_reducible refine Go1.go ?_) | ((with_reducible first | refine brv_mk ?_ ?_ | refine gsplitD ?_ ?_ | refine gsplitG ?_ ?_) <;> intro h <;> (try simp only [Bool.not_eq_true', Bool.not_eq_false'] at h) <;> replace hb0 := h) | ((with_reducible refine isCall (f := 89) ?_); refine callA ?_) | ((with_reducible refine isCall0 (f := 89) ?_); refine callA0 ?_) | ((with_reducible refine isCallS (f := 89) ?_); refine (rtrim_bor 14 (i + lb) _ out hlo.symm ho (by omega) (fun w M' g1 g2 g3 => Stop.mk ?_))) | ((with_reducible refine isDraw [some 44, some 45, some 46, some 47, some 48, some 49, some 50, some 51, some 52, some 53, some 54, some 55, some 56, some 7] (by decide) ?_); refine draw_rule [(0, []), (1, []), (2, []), (3, []), (4, []), (5, []), (6, [4]), (7, [4]), (8, [4]), (9, [4]), (10, [4]), (11, []), (12, []), (13, [])] [[], [], [], [1, 2], [1, 2, 3], [1, 2, 3, 4], [], [], [6, 7], [6, 7, 8], [6, 7, 8, 9], [1, 2, 3, 4, 5, 6, 7, 8, 9, 10], [0, 1, 2, 3, 4, 5, 6, 7, 8, 9, 10, 11], [0, 1, 2, 3, 4, 5, 6, 7, 8, 9, 10, 11, 12]] [44, 45, 46, 47, 48, 49, 50, 51, 52, 53, 54, 55] [] (by kernel_rfl) (by kernel_rfl) (by kernel_rfl) (by kernel_rfl) (by exact trivial) ?_) | (refine And.intro ?ob ?_; case ob => ((try simp only [sxO, ne_eq, maxLen] at *); omega)) | fail) <;> (try simp (config := { maxSteps := 1000000 }) only [hb0, cE_ment, hasK_nil, cE_kill, cE_len, u32_one, u32_app1, u32_set, Nat.mul_one, tmSt, hu.one, hv.one, hu.len, hu.sl, hl, d1, hlo, ↓hold_pre, awayP, runOps, regK, step1, newK, genR, appR, obl, buildR, Value.cells, closeK, keepH, outV, retK, ret1, retC, RetV, Option.getD, runD, stepD, afterK, undef, Int.reduceAdd, Int.reduceEq, Int.reduceGE, Int.reduceGT, Int.reduceLE, Int.reduceLT, Int.reduceMul, Int.reduceNe, Int.reduceNeg, Int.reduceSub, Int.reduceToNat, Nat.reduceAdd, Nat.reduceBEq, Nat.reduceBeqDiff, Nat.reduceEqDiff, Nat.reduceLT, Nat.reduceLeDiff, Nat.reduceMul, Nat.reduceSub, reduceCtorEq, ↓reduceIte, sxB, ↓sxD, sxE, sxTab]))
    rw [hval] at g2
    refine Stop.go ?_
    (replace hb0 := true_and True); refine Go1.mk ?_; repeat' ((first | (with_reducible refine Go1.go ?_) | ((with_reducible first | refine brv_mk ?_ ?_ | refine gsplitD ?_ ?_ | refine gsplitG ?_ ?_) <;> intro h <;> (try simp only [Bool.not_eq_true', Bool.not_eq_false'] at h) <;> replace hb0 := h) | ((with_reducible refine isDraw [some 44, some 45, some 46, some 47, some 48, some 49, some 50, some 51, some 52, some 53, some 54, some 55, some 56, some 7] (by decide) ?_); refine draw_rule [(0, []), (1, []), (2, []), (3, []), (4, []), (5, []), (6, [4]), (7, [4]), (8, [4]), (9, [4]), (10, [4]), (11, []), (12, []), (13, [])] [[], [], [], [1, 2], [1, 2, 3], [1, 2, 3, 4], [], [], [6, 7], [6, 7, 8], [6, 7, 8, 9], [1, 2, 3, 4, 5, 6, 7, 8, 9, 10], [0, 1, 2, 3, 4, 5, 6, 7, 8, 9, 10, 11], [0, 1, 2, 3, 4, 5, 6, 7, 8, 9, 10, 11, 12]] [44, 45, 46, 47, 48, 49, 50, 51, 52, 53, 54, 55] [] (by kernel_rfl) (by kernel_rfl) (by kernel_rfl) (by kernel_rfl) (by exact trivial) ?_) | (refine And.intro ?ob ?_; case ob => ((try simp only [sxO, ne_eq, maxLen] at *); omega)) | fail) <;> (try simp (config := { maxSteps := 1000000 }) only [hb0, cE_ment, hasK_nil, cE_kill, cE_len, u32_one, u32_app1, u32_set, Nat.mul_one, g2.one, ↓hold_pre, awayP, runOps, regK, step1, newK, genR, appR, obl, buildR, Value.cells, closeK, keepH, outV, retK, ret1, retC, RetV, Option.getD, runD, stepD, afterK, undef, Int.reduceAdd, Int.reduceEq, Int.reduceGE, Int.reduceGT, Int.reduceLE, Int.reduceLT, Int.reduceMul, Int.reduceNe, Int.reduceNeg, Int.reduceSub, Int.reduceToNat, Nat.reduceAdd, Nat.reduceBEq, Nat.reduceBeqDiff, Nat.reduceEqDiff, Nat.reduceLT, Nat.reduceLeDiff, Nat.reduceMul, Nat.reduceSub, reduceCtorEq, ↓reduceIte, sxB, ↓sxD, sxE, sxTab]))
    exact hK _ _ g1 g2 g3
  have hil : i < (ofN x).length := by omega
  have hxi := hu.idx (P := Tryd.prog) (T := 70) tk70 tz70 (by omega) hil
  rw [hl] at hxi
  have hx0 : (ofN x)[i] < 4294967296 := ofN_ok_at hil
  have hgx : (ofN x).getD i 0 = (ofN x)[i] := by simp [List.getD, hil]
  have htk := take_val (l := ofN x) (i := i)
  rw [hgx] at htk
  generalize (ofN x)[i] = a at *
  (replace hb0 := true_and True); refine Go1.mk ?_; repeat' ((first | (with_reducible refine Go1.go ?_) | ((with_reducible first | refine brv_mk ?_ ?_ | refine gsplitD ?_ ?_ | refine gsplitG ?_ ?_) <;> intro h <;> (try simp only [Bool.not_eq_true', Bool.not_eq_false'] at h) <;> replace hb0 := h) | ((with_reducible refine isDraw [some 44, some 45, some 46, some 47, some 48, some 49, some 50, some 51, some 52, some 53, some 54, some 55, some 56, some 7] (by decide) ?_); refine draw_rule [(0, []), (1, []), (2, []), (3, []), (4, []), (5, []), (6, [4]), (7, [4]), (8, [4]), (9, [4]), (10, [4]), (11, []), (12, []), (13, [])] [[], [], [], [1, 2], [1, 2, 3], [1, 2, 3, 4], [], [], [6, 7], [6, 7, 8], [6, 7, 8, 9], [1, 2, 3, 4, 5, 6, 7, 8, 9, 10], [0, 1, 2, 3, 4, 5, 6, 7, 8, 9, 10, 11], [0, 1, 2, 3, 4, 5, 6, 7, 8, 9, 10, 11, 12]] [44, 45, 46, 47, 48, 49, 50, 51, 52, 53, 54, 55] [] (by kernel_rfl) (by kernel_rfl) (by kernel_rfl) (by kernel_rfl) (by exact trivial) ?_) | (refine And.intro ?ob ?_; case ob => ((try simp only [sxO, ne_eq, maxLen] at *); omega)) | fail) <;> (try simp (config := { maxSteps := 1000000 }) only [hb0, cE_ment, hasK_nil, cE_kill, cE_len, u32_one, u32_app1, u32_set, Nat.mul_one, tmSt, hu.one, hv.one, hu.len, hu.sl, hl, hxi, hlo, ↓hold_pre, awayP, runOps, regK, step1, newK, genR, appR, obl, buildR, Value.cells, closeK, keepH, outV, retK, ret1, retC, RetV, Option.getD, runD, stepD, afterK, undef, Int.reduceAdd, Int.reduceEq, Int.reduceGE, Int.reduceGT, Int.reduceLE, Int.reduceLT, Int.reduceMul, Int.reduceNe, Int.reduceNeg, Int.reduceSub, Int.reduceToNat, Nat.reduceAdd, Nat.reduceBEq, Nat.reduceBeqDiff, Nat.reduceEqDiff, Nat.reduceLT, Nat.reduceLeDiff, Nat.reduceMul, Nat.reduceSub, reduceCtorEq, ↓reduceIte, sxB, ↓sxD, sxE, sxTab]))
  refine ⟨tiI M u v (ofN y) (la + lb) i a lb out, ⟨lb + 1, tiSt M u v (la + lb) i 0 0 out, le_sub ⟨rfl, rfl, rfl, rfl, rfl, rfl, trivial⟩ ⟨rfl, trivial⟩ rfl rfl rfl (keepLt0 _), ⟨0, 0, out, rfl, by omega, fun _ => rfl, hlo, ho, by omega, by simp [valN], fun j h h2 _ => rfl, rfl⟩⟩, ?_⟩
  rintro d z ⟨k, c, o, rfl, hk, hcz, hlo2, hoo, hc, hv2, hrest, rfl⟩
  have w2 : IntKind.i64.wrap ((i : Int) + (k : Int)) = ((i + k : Nat) : Int) := by rw [wrap_id (by omega) (by omega)]; omega
  have w3 : IntKind.i64.wrap ((k : Int) + 1) = ((k + 1 : Nat) : Int) := succ_i (by omega)
  have w4 : IntKind.i64.wrap ((i : Int) + 1) = ((i + 1 : Nat) : Int) := succ_i (by omega)
  by_cases hkl : k < lb
  · have hky : k < (ofN y).length := by omega
    have hyi := hv.idx (P := Tryd.prog) (T := 70) tk70 tz70 (by omega) hky
    rw [hm] at hyi
    have hy0 := ofN_ok_at hky
    have hgy : (ofN y).getD k 0 = (ofN y)[k] := by simp [List.getD, hky]
    have hik : i + k < o.length := by omega
    have ho0 := okN_at hoo hik
    have hat := u32_at hik
    have hst := mul_step (x := a) (y := (ofN y)[k]) hik hv2
    have hlt2 := mul_lt hx0 hy0 ho0 hc
    generalize (ofN y)[k] = yy at *
    generalize hz0 : o[i + k] = z0 at *
    have hxy := mul_le hx0 hy0
    have e5 : a * yy + z0 + c = c + z0 + a * yy := by omega
    rw [e5] at hst hlt2
    have d2 : (0 : Int) ≤ ((i + k : Nat) : Int) := by omega
    have d3 : ((i + k : Nat) : Int) < ((la + lb : Nat) : Int) := by omega
    have d4 : (i + k < la + lb) = True := by simp; omega
    have v1 : IntKind.u64.wrap (z0 : Int) = (z0 : Int) := wrap64_id (by omega)
    have v2 : IntKind.u64.wrap ((c : Int) + (z0 : Int)) = ((c + z0 : Nat) : Int) := by rw [← Int.natCast_add, wrap64_id (by omega)]
    have v3 : IntKind.u64.wrap (a : Int) = (a : Int) := wrap64_id (by omega)
    have v4 : IntKind.u64.wrap (yy : Int) = (yy : Int) := wrap64_id (by omega)
    have v5 : IntKind.u64.wrap ((a : Int) * (yy : Int)) = ((a * yy : Nat) : Int) := by rw [← Int.natCast_mul, wrap64_id (by omega)]
    have v6 : IntKind.u64.wrap (((c + z0 : Nat) : Int) + ((a * yy : Nat) : Int)) = ((c + z0 + a * yy : Nat) : Int) := by rw [← Int.natCast_add, wrap64_id (by omega)]
    have v7 := wrap32 (c + z0 + a * yy)
    have v8 := shr32 (c + z0 + a * yy)
    (replace hb0 := true_and True); refine Go1.mk ?_; repeat' ((first | (with_reducible refine Go1.go ?_) | ((with_reducible first | refine brv_mk ?_ ?_ | refine gsplitD ?_ ?_ | refine gsplitG ?_ ?_) <;> intro h <;> (try simp only [Bool.not_eq_true', Bool.not_eq_false'] at h) <;> replace hb0 := h) | ((with_reducible refine isDraw [some 44, some 45, some 46, some 47, some 48, some 49, some 50, some 51, some 52, some 53, some 54, some 55, some 56, some 7] (by decide) ?_); refine draw_rule [(0, []), (1, []), (2, []), (3, []), (4, []), (5, []), (6, [4]), (7, [4]), (8, [4]), (9, [4]), (10, [4]), (11, []), (12, []), (13, [])] [[], [], [], [1, 2], [1, 2, 3], [1, 2, 3, 4], [], [], [6, 7], [6, 7, 8], [6, 7, 8, 9], [1, 2, 3, 4, 5, 6, 7, 8, 9, 10], [0, 1, 2, 3, 4, 5, 6, 7, 8, 9, 10, 11], [0, 1, 2, 3, 4, 5, 6, 7, 8, 9, 10, 11, 12]] [44, 45, 46, 47, 48, 49, 50, 51, 52, 53, 54, 55] [] (by kernel_rfl) (by kernel_rfl) (by kernel_rfl) (by kernel_rfl) (by exact trivial) ?_) | (refine And.intro ?ob ?_; case ob => ((try simp only [sxO, ne_eq, maxLen] at *); omega)) | fail) <;> (try simp (config := { maxSteps := 1000000 }) only [hb0, cE_ment, hasK_nil, cE_kill, cE_len, u32_one, u32_app1, u32_set, Nat.mul_one, tiSt, u32V, hu.one, hv.one, hu.len, hu.sl, hl, hm, hxi, hyi, hat, d2, d3, d4, w2, v1, v2, v3, v4, v5, v6, v7, v8, hlo2, ↓hold_pre, awayP, runOps, regK, step1, newK, genR, appR, obl, buildR, Value.cells, closeK, keepH, outV, retK, ret1, retC, RetV, Option.getD, runD, stepD, afterK, undef, Int.reduceAdd, Int.reduceEq, Int.reduceGE, Int.reduceGT, Int.reduceLE, Int.reduceLT, Int.reduceMul, Int.reduceNe, Int.reduceNeg, Int.reduceSub, Int.reduceToNat, Nat.reduceAdd, Nat.reduceBEq, Nat.reduceBeqDiff, Nat.reduceEqDiff, Nat.reduceLT, Nat.reduceLeDiff, Nat.reduceMul, Nat.reduceSub, reduceCtorEq, ↓reduceIte, sxB, ↓sxD, sxE, sxTab]))
    exact ⟨lb + 1 - (k + 1), tiSt M u v (la + lb) i (k + 1) _ _, by omega, le_sub ⟨rfl, rfl, rfl, rfl, rfl, rfl, trivial⟩ ⟨rfl, trivial⟩ rfl rfl rfl (keepLt0 _), k + 1, _, _, rfl, by omega, fun h => by omega, by rw [List.length_set]; exact hlo2, okN_set hoo (Nat.mod_lt _ (by decide)), by omega, by
      rw [take_val, hgy]; exact hst, fun j h h2 hj => by
        rw [List.getElem_set_ne (by omega)]
        exact hrest j (by simpa using h) h2 (by omega), rfl⟩
  · have hyl := hv.fin (i := k) (by omega)
    rw [hm] at hyl
    have htky : valN ((ofN y).take k) = y := by rw [take_all (by omega), valN_ofN]
    rw [htky] at hv2
    by_cases h0 : c = 0
    · subst h0
      have d1 : decide ((0 : Int) < ((0 : Nat) : Int)) = false := by decide
      rw [Nat.mul_zero, Nat.add_zero] at hv2
      (replace hb0 := true_and True); refine Go1.mk ?_; repeat' ((first | (with_reducible refine Go1.go ?_) | ((with_reducible first | refine brv_mk ?_ ?_ | refine gsplitD ?_ ?_ | refine gsplitG ?_ ?_) <;> intro h <;> (try simp only [Bool.not_eq_true', Bool.not_eq_false'] at h) <;> replace hb0 := h) | ((with_reducible refine isDraw [some 44, some 45, some 46, some 47, some 48, some 49, some 50, some 51, some 52, some 53, some 54, some 55, some 56, some 7] (by decide) ?_); refine draw_rule [(0, []), (1, []), (2, []), (3, []), (4, []), (5, []), (6, [4]), (7, [4]), (8, [4]), (9, [4]), (10, [4]), (11, []), (12, []), (13, [])] [[], [], [], [1, 2], [1, 2, 3], [1, 2, 3, 4], [], [], [6, 7], [6, 7, 8], [6, 7, 8, 9], [1, 2, 3, 4, 5, 6, 7, 8, 9, 10], [0, 1, 2, 3, 4, 5, 6, 7, 8, 9, 10, 11], [0, 1, 2, 3, 4, 5, 6, 7, 8, 9, 10, 11, 12]] [44, 45, 46, 47, 48, 49, 50, 51, 52, 53, 54, 55] [] (by kernel_rfl) (by kernel_rfl) (by kernel_rfl) (by kernel_rfl) (by exact trivial) ?_) | (refine And.intro ?ob ?_; case ob => ((try simp only [sxO, ne_eq, maxLen] at *); omega)) | fail) <;> (try simp (config := { maxSteps := 1000000 }) only [hb0, cE_ment, hasK_nil, cE_kill, cE_len, u32_one, u32_app1, u32_set, Nat.mul_one, tiSt, u32V, hu.one, hv.one, hyl, d1, w4, hlo2, ↓hold_pre, awayP, runOps, regK, step1, newK, genR, appR, obl, buildR, Value.cells, closeK, keepH, outV, retK, ret1, retC, RetV, Option.getD, runD, stepD, afterK, undef, Int.reduceAdd, Int.reduceEq, Int.reduceGE, Int.reduceGT, Int.reduceLE, Int.reduceLT, Int.reduceMul, Int.reduceNe, Int.reduceNeg, Int.reduceSub, Int.reduceToNat, Nat.reduceAdd, Nat.reduceBEq, Nat.reduceBeqDiff, Nat.reduceEqDiff, Nat.reduceLT, Nat.reduceLeDiff, Nat.reduceMul, Nat.reduceSub, reduceCtorEq, ↓reduceIte, sxB, ↓sxD, sxE, sxTab]))
      exact ⟨la - (i + 1), tmSt M u v (la + lb) (i + 1) o, by omega, le_sub ⟨rfl, rfl, rfl, rfl, trivial⟩ ⟨rfl, trivial⟩ rfl rfl rfl (keepLt0 _), i + 1, o, rfl, by omega, hlo2, hoo, by
        rw [hv2, hval, htk, Nat.add_mul, Nat.mul_assoc], fun j h hj => by
        rcases Nat.lt_or_ge j (i + k) with hj2 | hj2
        · omega
        · rw [hrest j h (by omega) hj2]; exact hzz j (by omega) (by omega), rfl⟩
    · have hk2 : k = lb := by
        rcases Nat.lt_or_ge lb k with h | h
        · exact absurd (hcz h) h0
        · omega
      subst hk2
      have hik : i + k < o.length := by omega
      have hat := u32_at hik
      have hz1 : o[i + k] = 0 := by rw [hrest _ hik (by omega) (Nat.le_refl _)]; exact hzz _ (by omega) (Nat.le_refl _)
      have hst := valN_set (v := c) hik
      rw [hz1, Nat.mul_zero, Nat.add_zero, hv2] at hst
      rw [hz1] at hat
      have d1 : decide ((0 : Int) < (c : Int)) = true := by rw [decide_eq_true_eq]; omega
      have d2 : (0 : Int) ≤ ((i + k : Nat) : Int) := by omega
      have d3 : ((i + k : Nat) : Int) < ((la + k : Nat) : Int) := by omega
      have d4 : (i + k < la + k) = True := by simp; omega
      have v1 : IntKind.u64.wrap ((0 : Nat) : Int) = ((0 : Nat) : Int) := rfl
      have v2 : IntKind.u64.wrap ((c : Int) + ((0 : Nat) : Int)) = (c : Int) := by rw [← Int.natCast_add, Nat.add_zero, wrap64_id (by omega)]
      have v7 : IntKind.u32.wrap (c : Int) = (c : Int) := wrap32_id hc
      have v8 : (c : Int).fdiv (2 ^ (min 32 IntKind.u64.bits)) = ((0 : Nat) : Int) := by rw [shr32, Nat.div_eq_of_lt hc]
      (replace hb0 := true_and True); refine Go1.mk ?_; repeat' ((first | (with_reducible refine Go1.go ?_) | ((with_reducible first | refine brv_mk ?_ ?_ | refine gsplitD ?_ ?_ | refine gsplitG ?_ ?_) <;> intro h <;> (try simp only [Bool.not_eq_true', Bool.not_eq_false'] at h) <;> replace hb0 := h) | ((with_reducible refine isDraw [some 44, some 45, some 46, some 47, some 48, some 49, some 50, some 51, some 52, some 53, some 54, some 55, some 56, some 7] (by decide) ?_); refine draw_rule [(0, []), (1, []), (2, []), (3, []), (4, []), (5, []), (6, [4]), (7, [4]), (8, [4]), (9, [4]), (10, [4]), (11, []), (12, []), (13, [])] [[], [], [], [1, 2], [1, 2, 3], [1, 2, 3, 4], [], [], [6, 7], [6, 7, 8], [6, 7, 8, 9], [1, 2, 3, 4, 5, 6, 7, 8, 9, 10], [0, 1, 2, 3, 4, 5, 6, 7, 8, 9, 10, 11], [0, 1, 2, 3, 4, 5, 6, 7, 8, 9, 10, 11, 12]] [44, 45, 46, 47, 48, 49, 50, 51, 52, 53, 54, 55] [] (by kernel_rfl) (by kernel_rfl) (by kernel_rfl) (by kernel_rfl) (by exact trivial) ?_) | (refine And.intro ?ob ?_; case ob => ((try simp only [sxO, ne_eq, maxLen] at *); omega)) | fail) <;> (try simp (config := { maxSteps := 1000000 }) only [hb0, cE_ment, hasK_nil, cE_kill, cE_len, u32_one, u32_app1, u32_set, Nat.mul_one, tiSt, u32V, hu.one, hv.one, hu.len, hu.sl, hl, hyl, hat, d1, d2, d3, d4, w2, w3, v1, v2, v7, v8, hlo2, ↓hold_pre, awayP, runOps, regK, step1, newK, genR, appR, obl, buildR, Value.cells, closeK, keepH, outV, retK, ret1, retC, RetV, Option.getD, runD, stepD, afterK, undef, Int.reduceAdd, Int.reduceEq, Int.reduceGE, Int.reduceGT, Int.reduceLE, Int.reduceLT, Int.reduceMul, Int.reduceNe, Int.reduceNeg, Int.reduceSub, Int.reduceToNat, Nat.reduceAdd, Nat.reduceBEq, Nat.reduceBeqDiff, Nat.reduceEqDiff, Nat.reduceLT, Nat.reduceLeDiff, Nat.reduceMul, Nat.reduceSub, reduceCtorEq, ↓reduceIte, sxB, ↓sxD, sxE, sxTab]))
      exact ⟨k + 1 - (k + 1), tiSt M u v (la + k) i (k + 1) 0 _, by omega, le_sub ⟨rfl, rfl, rfl, rfl, rfl, rfl, trivial⟩ ⟨rfl, trivial⟩ rfl rfl rfl (keepLt0 _), k + 1, _, _, rfl, by omega, fun _ => rfl, by rw [List.length_set]; exact hlo2, okN_set hoo hc, by omega, by
        rw [take_all (by omega), valN_ofN, Nat.mul_zero, Nat.add_zero]; exact hst, fun j h h2 hj => by
          rw [List.getElem_set_ne (by omega)]
          exact hrest j (by simpa using h) h2 (by omega), rfl⟩
end
end Go.Proofs.YtamghpnjdohnjaaDoor.Sx
