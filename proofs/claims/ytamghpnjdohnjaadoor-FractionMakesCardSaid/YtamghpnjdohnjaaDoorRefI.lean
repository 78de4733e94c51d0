import Derived.Test.YtamghpnjdohnjaaDoorRefH
/- Numbers: differences in place. -/
namespace Go.Proofs.YtamghpnjdohnjaaDoor.Sx
open Go Go.RowKit
set_option linter.unusedVariables false
set_option linter.unusedSimpArgs false
set_option maxRecDepth 100000
set_option maxHeartbeats 8000000
attribute [local congr] fin_congr finG_congr stepG_congr step1_congr runOps_congr brv_congr obl_congr condK_congr LoopK_congr seqK_congr CutK_congr vc_congr DrawK_congr regK_congr CallK_congr AskK_congr newK_congr retC_congr ret1_congr retK_congr outV_congr closeK_congr genR_congr appR_congr finD_congr finGD_congr stepGD_congr stepD_congr CallK0_congr runD_congr okR_congr CallS_congr vcX_congr
attribute [local congr] Stop_congr
section
variable {M : Mem} {K : AV → Hp → Mem → Prop}
def tkSt (M : Mem) (k1 k2 o1 m1 o2 m2 i b : Nat) (L1 L2 : List Nat) : St := { env := [(6, .ext (.int .i64 (i : Int))), (5, .ext (.int .u64 (b : Int))), (0, .slo k1 o1 m1 1), (1, .slo k2 o2 m2 1)], hp := [(k1, 70, cE u32V L1), (k2, 70, cE u32V L2)], M := M, kb := 3000, fx := [k1, k2] }
theorem takeA_ok (o1 m1 o2 m2 : Nat) (L1 L2 : List Nat) (x y : Nat) (hA : OwnN L1 o1 m1 x) (hB : OwnN L2 o2 m2 y) (hb1 : L1.length < 100000000) (hb2 : L2.length < 100000000) (hyx : y ≤ x) (hK : ∀ L' m', L'.length = L1.length → OwnN L' o1 m' (x - y) → K (.slo 11 o1 m' 1) [(11, 70, cE u32V L'), (13, 70, cE u32V L2)] M) :
    CallS Tryd.prog 93 [.slo 11 o1 m1 1, .slo 13 o2 m2 1] [(11, 70, cE u32V L1), (13, 70, cE u32V L2)] M [] K := by
  refine inlS (cs := []) (f := 93) Tryd.mixed Tryd.func93 rfl (by kernel_rfl) 3000 rfl rfl ?_
  simp only [Tryd.f93]
  (replace hb0 := true_and True); refine Go1.mk ?_; repeat' ((first | (with_reducible refine Go1.go ?_) | ((with_reducible first | refine brv_mk ?_ ?_ | refine gsplitD ?_ ?_ | refine gsplitG ?_ ?_) <;> intro h <;> (try simp only [Bool.not_eq_true', Bool.not_eq_false'] at h) <;> replace hb0 := h) | (refine And.intro ?ob ?_; case ob => ((try simp only [sxO, ne_eq, maxLen] at *); omega)) | fail) <;> (try simp (config := { maxSteps := 1000000 }) only [hb0, cE_ment, hasK_nil, cE_kill, cE_len, u32_one, u32_app1, u32_set, Nat.mul_one, ↓hold_pre, awayP, runOps, regK, step1, newK, genR, appR, obl, buildR, Value.cells, closeK, keepH, outV, retK, ret1, retC, RetV, Option.getD, runD, stepD, afterK, undef, simprocAttr, sxB, ↓sxD, sxE, sxTab]))
  have hAle := hA.le
  have hBle := hB.le
  have hAlen := hA.len
  have hBlen := hB.len
  have hml : m2 ≤ m1 := by rw [hAlen, hBlen]; exact len_mono hyx
  have hL : L1 = L1.take o1 ++ ((L1.drop o1).take m1 ++ L1.drop (o1 + m1)) := by
    rw [← List.drop_drop, List.take_append_drop, List.take_append_drop]
  have hPl : (L1.take o1).length = o1 := by rw [List.length_take]; omega
  have hoP := okN_take hA.ok o1
  have hoS := okN_drop hA.ok (o1 + m1)
  rw [hA.eq] at hL
  generalize L1.take o1 = P at *
  generalize L1.drop (o1 + m1) = S at *
  have hLl : L1.length = o1 + (m1 + S.length) := by rw [hL, List.length_append, List.length_append, hPl, ← hAlen]
  subst hL
  clear hA
  refine ⟨fun d z => ∃ i b C, d = m1 - i ∧ i ≤ m1 ∧ C.length = m1 ∧ okN C ∧ C.drop i = (ofN x).drop i ∧ b ≤ 1 ∧ valN (C.take i) + valN ((ofN y).take i) = valN ((ofN x).take i) + wN i * b ∧ z = tkSt M 11 13 o1 m1 o2 m2 i b (P ++ (C ++ S)) L2,
    ⟨m1, tkSt M 11 13 o1 m1 o2 m2 0 0 (P ++ (ofN x ++ S)) L2, le_sub ⟨rfl, rfl, rfl, rfl, trivial⟩ ⟨rfl, rfl, trivial⟩ rfl rfl rfl (by simp [keepLt, tkSt, lkH]), ⟨0, 0, ofN x, rfl, by omega, hAlen.symm, okN_ofN x, rfl, by omega, by simp [valN], rfl⟩⟩, ?_⟩
  rintro d z ⟨i, c, C, rfl, hi, hC, hoC, hdr, hc, hval, rfl⟩
  by_cases hlt : i < m1
  case neg =>
    obtain rfl : i = m1 := by omega
    have d1 : decide ((i : Int) < (i : Int)) = false := by simp
    rw [take_all (l := ofN y) (by omega), take_all (l := ofN x) (by omega), take_all (l := C) (by omega), valN_ofN, valN_ofN, ← hC] at hval
    have hv2 := sub_end hoC hval hyx
    have hok : okN (P ++ (C ++ S)) := okN_app.2 ⟨hoP, okN_app.2 ⟨hoC, hoS⟩⟩
    have hol : o1 + i ≤ (P ++ (C ++ S)).length := by simp [hC, hPl]
    have hfl : (P ++ (C ++ S)).length = (P ++ (ofN x ++ S)).length := by simp [hC, ← hAlen]
    have hpart : ((P ++ (C ++ S)).drop o1).take i = C := by
      rw [← hPl, List.drop_left, ← hC, List.take_left]
    (replace hb0 := true_and True); refine Go1.mk ?_; repeat' ((first | (with_reducible refine Go1.go ?_) | ((with_reducible first | refine brv_mk ?_ ?_ | refine gsplitD ?_ ?_ | refine gsplitG ?_ ?_) <;> intro h <;> (try simp only [Bool.not_eq_true', Bool.not_eq_false'] at h) <;> replace hb0 := h) | ((with_reducible refine isCall (f := 115) ?_); refine callA ?_) | ((with_reducible refine isCall0 (f := 115) ?_); refine callA0 ?_) | ((with_reducible refine isCallS (f := 115) ?_); refine (cut_ok 11 o1 i (P ++ (C ++ S)) hol (by omega) hok (fun m' c1 c2 c3 => Stop.mk ?_))) | (refine And.intro ?ob ?_; case ob => ((try simp only [sxO, ne_eq, maxLen] at *); omega)) | fail) <;> (try simp (config := { maxSteps := 1000000 }) only [hb0, cE_ment, hasK_nil, cE_kill, cE_len, u32_one, u32_app1, u32_set, Nat.mul_one, tkSt, d1, ↓hold_pre, awayP, runOps, regK, step1, newK, genR, appR, obl, buildR, Value.cells, closeK, keepH, outV, retK, ret1, retC, RetV, Option.getD, runD, stepD, afterK, undef, simprocAttr, sxB, ↓sxD, sxE, sxTab]))
    rw [hpart, hv2] at c1 c2
    refine Stop.go ?_
    (replace hb0 := true_and True); refine Go1.mk ?_; repeat' ((first | (with_reducible refine Go1.go ?_) | ((with_reducible first | refine brv_mk ?_ ?_ | refine gsplitD ?_ ?_ | refine gsplitG ?_ ?_) <;> intro h <;> (try simp only [Bool.not_eq_true', Bool.not_eq_false'] at h) <;> replace hb0 := h) | (refine And.intro ?ob ?_; case ob => ((try simp only [sxO, ne_eq, maxLen] at *); omega)) | fail) <;> (try simp (config := { maxSteps := 1000000 }) only [hb0, cE_ment, hasK_nil, cE_kill, cE_len, u32_one, u32_app1, u32_set, Nat.mul_one, ↓hold_pre, awayP, runOps, regK, step1, newK, genR, appR, obl, buildR, Value.cells, closeK, keepH, outV, retK, ret1, retC, RetV, Option.getD, runD, stepD, afterK, undef, simprocAttr, sxB, ↓sxD, sxE, sxTab]))
    refine hK _ m' hfl ⟨by omega, hok, ?_⟩
    have hp2 := congrArg (List.take m') hpart
    rw [List.take_take, Nat.min_eq_left c3] at hp2
    rw [← c1, hp2]
  have hiC : i < C.length := by omega
  have hix : i < (ofN x).length := by omega
  have hat := u32_mid (S := S) hPl hiC
  have hx0 := okN_at hoC hiC
  have hCi : C[i] = (ofN x)[i] := by
    have e1 : (C.drop i)[0]? = ((ofN x).drop i)[0]? := by rw [hdr]
    rw [List.getElem?_drop, List.getElem?_drop, Nat.add_zero, List.getElem?_eq_getElem hiC, List.getElem?_eq_getElem hix] at e1
    exact Option.some.inj e1
  have hgx : (ofN x).getD i 0 = C[i] := by simp [List.getD, hix, hCi]
  clear hCi
  have hti : (C.take i).length = i := by rw [List.length_take]; omega
  have d1 : decide ((i : Int) < (m1 : Int)) = true := by simp; omega
  have d2 : (0 : Int) ≤ (i : Int) := by omega
  have d3 : (i : Int) < (m1 : Int) := by omega
  have d4 : (o1 + i < (P ++ (C ++ S)).length) = True := by simp [hC, hPl]; omega
  have w9 : IntKind.i64.wrap ((i : Int) + 1) = ((i + 1 : Nat) : Int) := succ_i (by omega)
  have fin : ∀ (r c' : Nat), r < 4294967296 → c' ≤ 1 → r + (ofN y).getD i 0 + c = C[i] + 4294967296 * c' → ∃ D, D.length = m1 ∧ okN D ∧ D.drop (i + 1) = (ofN x).drop (i + 1) ∧ valN (D.take (i + 1)) + valN ((ofN y).take (i + 1)) = valN ((ofN x).take (i + 1)) + wN (i + 1) * c' ∧ D = C.set i r := fun r c' hr hc' he => by
    refine ⟨C.set i r, by rw [List.length_set]; exact hC, okN_set hoC hr, ?_, ?_, rfl⟩
    · rw [List.drop_set_of_lt (by omega)]
      have := congrArg (List.drop 1) hdr
      rw [List.drop_drop, List.drop_drop] at this
      exact this
    · have hv3 : valN (C.take i) + valN ((ofN y).take i) = valN ((ofN x).take i) + wN (C.take i).length * c := by rw [hti]; exact hval
      have st := sub_step hv3 he
      rw [hti] at st
      rw [take_set_self hiC, take_val, take_val, hgx]; exact st
  generalize C[i] = a at *
  have w3 : IntKind.u64.wrap (a : Int) = (a : Int) := wrap64_id (by omega)
  have w4 : IntKind.u64.wrap ((a : Int) - (c : Int)) = ((subW a c : Nat) : Int) := wrap64_sub (by omega)
  by_cases hy : i < m2
  · have hiy : i < (ofN y).length := by omega
    have hyt := u32_part hB.le hy (hil := by rw [List.length_take, List.length_drop]; omega)
    have hge : ((L2.drop o2).take m2)[i]'(by rw [List.length_take, List.length_drop]; omega) = (ofN y)[i] := by
      simp only [hB.eq]
    rw [hge] at hyt
    have hy0 := ofN_ok_at hiy
    have hgy : (ofN y).getD i 0 = (ofN y)[i] := by simp [List.getD, hiy]
    rw [hgy] at fin
    generalize (ofN y)[i] = b at *
    have d5 : decide ((i : Int) < (m2 : Int)) = true := by simp; omega
    have d6 : (i : Int) < (m2 : Int) := by omega
    have w5 : IntKind.u64.wrap (b : Int) = (b : Int) := wrap64_id (by omega)
    have w6 : IntKind.u64.wrap (((subW a c : Nat) : Int) - (b : Int)) = ((subW (subW a c) b : Nat) : Int) := wrap64_sub (by omega)
    have w7 := wrap32 (subW (subW a c) b)
    have w8 := shr63 (subW (subW a c) b)
    have hms := mid_set P C S o1 i (subW (subW a c) b % 4294967296) hPl hiC
    obtain ⟨s1, s2⟩ := subW_3 hx0 hy0 hc
    obtain ⟨D, f1, f2, f3, f4, f5⟩ := fin _ _ (Nat.mod_lt _ (by decide)) s2 s1
    (replace hb0 := true_and True); refine Go1.mk ?_; repeat' ((first | (with_reducible refine Go1.go ?_) | ((with_reducible first | refine brv_mk ?_ ?_ | refine gsplitD ?_ ?_ | refine gsplitG ?_ ?_) <;> intro h <;> (try simp only [Bool.not_eq_true', Bool.not_eq_false'] at h) <;> replace hb0 := h) | (refine And.intro ?ob ?_; case ob => ((try simp only [sxO, ne_eq, maxLen] at *); omega)) | fail) <;> (try simp (config := { maxSteps := 1000000 }) only [hb0, cE_ment, hasK_nil, cE_kill, cE_len, u32_one, u32_app1, u32_set, Nat.mul_one, tkSt, u32V, hat, hyt, d1, d2, d3, d4, d5, d6, w3, w4, w5, w6, w7, w8, w9, hms, ↓hold_pre, awayP, runOps, regK, step1, newK, genR, appR, obl, buildR, Value.cells, closeK, keepH, outV, retK, ret1, retC, RetV, Option.getD, runD, stepD, afterK, undef, simprocAttr, sxB, ↓sxD, sxE, sxTab]))
    rw [← f5]
    exact ⟨m1 - (i + 1), tkSt M 11 13 o1 m1 o2 m2 (i + 1) _ (P ++ (D ++ S)) L2, by omega, le_sub ⟨rfl, rfl, rfl, rfl, trivial⟩ ⟨rfl, rfl, trivial⟩ rfl rfl rfl (by simp [keepLt, tkSt, lkH]), i + 1, _, D, rfl, by omega, f1, f2, f3, s2, f4, rfl⟩
  · have d5 : decide ((i : Int) < (m2 : Int)) = false := by simp; omega
    have hgy : (ofN y).getD i 0 = 0 := by simp [List.getD, List.getElem?_eq_none (show (ofN y).length ≤ i by omega)]
    rw [hgy] at fin
    have w7 := wrap32 (subW a c)
    have w8 := shr63 (subW a c)
    have hms := mid_set P C S o1 i (subW a c % 4294967296) hPl hiC
    obtain ⟨s1, s2⟩ := subW_3 hx0 (show 0 < 4294967296 by decide) hc
    have s0 : subW (subW a c) 0 = subW a c := by unfold subW; omega
    rw [s0] at s1 s2
    obtain ⟨D, f1, f2, f3, f4, f5⟩ := fin _ _ (Nat.mod_lt _ (by decide)) s2 s1
    (replace hb0 := true_and True); refine Go1.mk ?_; repeat' ((first | (with_reducible refine Go1.go ?_) | ((with_reducible first | refine brv_mk ?_ ?_ | refine gsplitD ?_ ?_ | refine gsplitG ?_ ?_) <;> intro h <;> (try simp only [Bool.not_eq_true', Bool.not_eq_false'] at h) <;> replace hb0 := h) | (refine And.intro ?ob ?_; case ob => ((try simp only [sxO, ne_eq, maxLen] at *); omega)) | fail) <;> (try simp (config := { maxSteps := 1000000 }) only [hb0, cE_ment, hasK_nil, cE_kill, cE_len, u32_one, u32_app1, u32_set, Nat.mul_one, tkSt, u32V, hat, d1, d2, d3, d4, d5, w3, w4, w7, w8, w9, hms, ↓hold_pre, awayP, runOps, regK, step1, newK, genR, appR, obl, buildR, Value.cells, closeK, keepH, outV, retK, ret1, retC, RetV, Option.getD, runD, stepD, afterK, undef, simprocAttr, sxB, ↓sxD, sxE, sxTab]))
    rw [← f5]
    exact ⟨m1 - (i + 1), tkSt M 11 13 o1 m1 o2 m2 (i + 1) _ (P ++ (D ++ S)) L2, by omega, le_sub ⟨rfl, rfl, rfl, rfl, trivial⟩ ⟨rfl, rfl, trivial⟩ rfl rfl rfl (by simp [keepLt, tkSt, lkH]), i + 1, _, D, rfl, by omega, f1, f2, f3, s2, f4, rfl⟩
theorem takeB_ok (o1 m1 o2 m2 : Nat) (L1 L2 : List Nat) (x y : Nat) (hA : OwnN L1 o1 m1 x) (hB : OwnN L2 o2 m2 y) (hb1 : L1.length < 100000000) (hb2 : L2.length < 100000000) (hyx : y ≤ x) (hK : ∀ L' m', L'.length = L1.length → OwnN L' o1 m' (x - y) → K (.slo 13 o1 m' 1) [(13, 70, cE u32V L'), (11, 70, cE u32V L2)] M) :
    CallS Tryd.prog 93 [.slo 13 o1 m1 1, .slo 11 o2 m2 1] [(13, 70, cE u32V L1), (11, 70, cE u32V L2)] M [] K := by
  refine inlS (cs := []) (f := 93) Tryd.mixed Tryd.func93 rfl (by kernel_rfl) 3000 rfl rfl ?_
  simp only [Tryd.f93]
  (replace hb0 := true_and True); refine Go1.mk ?_; repeat' ((first | (with_reducible refine Go1.go ?_) | ((with_reducible first | refine brv_mk ?_ ?_ | refine gsplitD ?_ ?_ | refine gsplitG ?_ ?_) <;> intro h <;> (try simp only [Bool.not_eq_true', Bool.not_eq_false'] at h) <;> replace hb0 := h) | (refine And.intro ?ob ?_; case ob => ((try simp only [sxO, ne_eq, maxLen] at *); omega)) | fail) <;> (try simp (config := { maxSteps := 1000000 }) only [hb0, cE_ment, hasK_nil, cE_kill, cE_len, u32_one, u32_app1, u32_set, Nat.mul_one, ↓hold_pre, awayP, runOps, regK, step1, newK, genR, appR, obl, buildR, Value.cells, closeK, keepH, outV, retK, ret1, retC, RetV, Option.getD, runD, stepD, afterK, undef, simprocAttr, sxB, ↓sxD, sxE, sxTab]))
  have hAle := hA.le
  have hBle := hB.le
  have hAlen := hA.len
  have hBlen := hB.len
  have hml : m2 ≤ m1 := by rw [hAlen, hBlen]; exact len_mono hyx
  have hL : L1 = L1.take o1 ++ ((L1.drop o1).take m1 ++ L1.drop (o1 + m1)) := by
    rw [← List.drop_drop, List.take_append_drop, List.take_append_drop]
  have hPl : (L1.take o1).length = o1 := by rw [List.length_take]; omega
  have hoP := okN_take hA.ok o1
  have hoS := okN_drop hA.ok (o1 + m1)
  rw [hA.eq] at hL
  generalize L1.take o1 = P at *
  generalize L1.drop (o1 + m1) = S at *
  have hLl : L1.length = o1 + (m1 + S.length) := by rw [hL, List.length_append, List.length_append, hPl, ← hAlen]
  subst hL
  clear hA
  refine ⟨fun d z => ∃ i b C, d = m1 - i ∧ i ≤ m1 ∧ C.length = m1 ∧ okN C ∧ C.drop i = (ofN x).drop i ∧ b ≤ 1 ∧ valN (C.take i) + valN ((ofN y).take i) = valN ((ofN x).take i) + wN i * b ∧ z = tkSt M 13 11 o1 m1 o2 m2 i b (P ++ (C ++ S)) L2,
    ⟨m1, tkSt M 13 11 o1 m1 o2 m2 0 0 (P ++ (ofN x ++ S)) L2, le_sub ⟨rfl, rfl, rfl, rfl, trivial⟩ ⟨rfl, rfl, trivial⟩ rfl rfl rfl (by simp [keepLt, tkSt, lkH]), ⟨0, 0, ofN x, rfl, by omega, hAlen.symm, okN_ofN x, rfl, by omega, by simp [valN], rfl⟩⟩, ?_⟩
  rintro d z ⟨i, c, C, rfl, hi, hC, hoC, hdr, hc, hval, rfl⟩
  by_cases hlt : i < m1
  case neg =>
    obtain rfl : i = m1 := by omega
    have d1 : decide ((i : Int) < (i : Int)) = false := by simp
    rw [take_all (l := ofN y) (by omega), take_all (l := ofN x) (by omega), take_all (l := C) (by omega), valN_ofN, valN_ofN, ← hC] at hval
    have hv2 := sub_end hoC hval hyx
    have hok : okN (P ++ (C ++ S)) := okN_app.2 ⟨hoP, okN_app.2 ⟨hoC, hoS⟩⟩
    have hol : o1 + i ≤ (P ++ (C ++ S)).length := by simp [hC, hPl]
    have hfl : (P ++ (C ++ S)).length = (P ++ (ofN x ++ S)).length := by simp [hC, ← hAlen]
    have hpart : ((P ++ (C ++ S)).drop o1).take i = C := by
      rw [← hPl, List.drop_left, ← hC, List.take_left]
    (replace hb0 := true_and True); refine Go1.mk ?_; repeat' ((first | (with_reducible refine Go1.go ?_) | ((with_reducible first | refine brv_mk ?_ ?_ | refine gsplitD ?_ ?_ | refine gsplitG ?_ ?_) <;> intro h <;> (try simp only [Bool.not_eq_true', Bool.not_eq_false'] at h) <;> replace hb0 := h) | ((with_reducible refine isCall (f := 115) ?_); refine callA ?_) | ((with_reducible refine isCall0 (f := 115) ?_); refine callA0 ?_) | ((with_reducible refine isCallS (f := 115) ?_); refine (cut_ok 13 o1 i (P ++ (C ++ S)) hol (by omega) hok (fun m' c1 c2 c3 => Stop.mk ?_))) | (refine And.intro ?ob ?_; case ob => ((try simp only [sxO, ne_eq, maxLen] at *); omega)) | fail) <;> (try simp (config := { maxSteps := 1000000 }) only [hb0, cE_ment, hasK_nil, cE_kill, cE_len, u32_one, u32_app1, u32_set, Nat.mul_one, tkSt, d1, ↓hold_pre, awayP, runOps, regK, step1, newK, genR, appR, obl, buildR, Value.cells, closeK, keepH, outV, retK, ret1, retC, RetV, Option.getD, runD, stepD, afterK, undef, simprocAttr, sxB, ↓sxD, sxE, sxTab]))
    rw [hpart, hv2] at c1 c2
    refine Stop.go ?_
    (replace hb0 := true_and True); refine Go1.mk ?_; repeat' ((first | (with_reducible refine Go1.go ?_) | ((with_reducible first | refine brv_mk ?_ ?_ | refine gsplitD ?_ ?_ | refine gsplitG ?_ ?_) <;> intro h <;> (try simp only [Bool.not_eq_true', Bool.not_eq_false'] at h) <;> replace hb0 := h) | (refine And.intro ?ob ?_; case ob => ((try simp only [sxO, ne_eq, maxLen] at *); omega)) | fail) <;> (try simp (config := { maxSteps := 1000000 }) only [hb0, cE_ment, hasK_nil, cE_kill, cE_len, u32_one, u32_app1, u32_set, Nat.mul_one, ↓hold_pre, awayP, runOps, regK, step1, newK, genR, appR, obl, buildR, Value.cells, closeK, keepH, outV, retK, ret1, retC, RetV, Option.getD, runD, stepD, afterK, undef, simprocAttr, sxB, ↓sxD, sxE, sxTab]))
    refine hK _ m' hfl ⟨by omega, hok, ?_⟩
    have hp2 := congrArg (List.take m') hpart
    rw [List.take_take, Nat.min_eq_left c3] at hp2
    rw [← c1, hp2]
  have hiC : i < C.length := by omega
  have hix : i < (ofN x).length := by omega
  have hat := u32_mid (S := S) hPl hiC
  have hx0 := okN_at hoC hiC
  have hCi : C[i] = (ofN x)[i] := by
    have e1 : (C.drop i)[0]? = ((ofN x).drop i)[0]? := by rw [hdr]
    rw [List.getElem?_drop, List.getElem?_drop, Nat.add_zero, List.getElem?_eq_getElem hiC, List.getElem?_eq_getElem hix] at e1
    exact Option.some.inj e1
  have hgx : (ofN x).getD i 0 = C[i] := by simp [List.getD, hix, hCi]
  clear hCi
  have hti : (C.take i).length = i := by rw [List.length_take]; omega
  have d1 : decide ((i : Int) < (m1 : Int)) = true := by simp; omega
  have d2 : (0 : Int) ≤ (i : Int) := by omega
  have d3 : (i : Int) < (m1 : Int) := by omega
  have d4 : (o1 + i < (P ++ (C ++ S)).length) = True := by simp [hC, hPl]; omega
  have w9 : IntKind.i64.wrap ((i : Int) + 1) = ((i + 1 : Nat) : Int) := succ_i (by omega)
  have fin : ∀ (r c' : Nat), r < 4294967296 → c' ≤ 1 → r + (ofN y).getD i 0 + c = C[i] + 4294967296 * c' → ∃ D, D.length = m1 ∧ okN D ∧ D.drop (i + 1) = (ofN x).drop (i + 1) ∧ valN (D.take (i + 1)) + valN ((ofN y).take (i + 1)) = valN ((ofN x).take (i + 1)) + wN (i + 1) * c' ∧ D = C.set i r := fun r c' hr hc' he => by
    refine ⟨C.set i r, by rw [List.length_set]; exact hC, okN_set hoC hr, ?_, ?_, rfl⟩
    · rw [List.drop_set_of_lt (by omega)]
      have := congrArg (List.drop 1) hdr
      rw [List.drop_drop, List.drop_drop] at this
      exact this
    · have hv3 : valN (C.take i) + valN ((ofN y).take i) = valN ((ofN x).take i) + wN (C.take i).length * c := by rw [hti]; exact hval
      have st := sub_step hv3 he
      rw [hti] at st
      rw [take_set_self hiC, take_val, take_val, hgx]; exact st
  generalize C[i] = a at *
  have w3 : IntKind.u64.wrap (a : Int) = (a : Int) := wrap64_id (by omega)
  have w4 : IntKind.u64.wrap ((a : Int) - (c : Int)) = ((subW a c : Nat) : Int) := wrap64_sub (by omega)
  by_cases hy : i < m2
  · have hiy : i < (ofN y).length := by omega
    have hyt := u32_part hB.le hy (hil := by rw [List.length_take, List.length_drop]; omega)
    have hge : ((L2.drop o2).take m2)[i]'(by rw [List.length_take, List.length_drop]; omega) = (ofN y)[i] := by
      simp only [hB.eq]
    rw [hge] at hyt
    have hy0 := ofN_ok_at hiy
    have hgy : (ofN y).getD i 0 = (ofN y)[i] := by simp [List.getD, hiy]
    rw [hgy] at fin
    generalize (ofN y)[i] = b at *
    have d5 : decide ((i : Int) < (m2 : Int)) = true := by simp; omega
    have d6 : (i : Int) < (m2 : Int) := by omega
    have w5 : IntKind.u64.wrap (b : Int) = (b : Int) := wrap64_id (by omega)
    have w6 : IntKind.u64.wrap (((subW a c : Nat) : Int) - (b : Int)) = ((subW (subW a c) b : Nat) : Int) := wrap64_sub (by omega)
    have w7 := wrap32 (subW (subW a c) b)
    have w8 := shr63 (subW (subW a c) b)
    have hms := mid_set P C S o1 i (subW (subW a c) b % 4294967296) hPl hiC
    obtain ⟨s1, s2⟩ := subW_3 hx0 hy0 hc
    obtain ⟨D, f1, f2, f3, f4, f5⟩ := fin _ _ (Nat.mod_lt _ (by decide)) s2 s1
    (replace hb0 := true_and True); refine Go1.mk ?_; repeat' ((first | (with_reducible refine Go1.go ?_) | ((with_reducible first | refine brv_mk ?_ ?_ | refine gsplitD ?_ ?_ | refine gsplitG ?_ ?_) <;> intro h <;> (try simp only [Bool.not_eq_true', Bool.not_eq_false'] at h) <;> replace hb0 := h) | (refine And.intro ?ob ?_; case ob => ((try simp only [sxO, ne_eq, maxLen] at *); omega)) | fail) <;> (try simp (config := { maxSteps := 1000000 }) only [hb0, cE_ment, hasK_nil, cE_kill, cE_len, u32_one, u32_app1, u32_set, Nat.mul_one, tkSt, u32V, hat, hyt, d1, d2, d3, d4, d5, d6, w3, w4, w5, w6, w7, w8, w9, hms, ↓hold_pre, awayP, runOps, regK, step1, newK, genR, appR, obl, buildR, Value.cells, closeK, keepH, outV, retK, ret1, retC, RetV, Option.getD, runD, stepD, afterK, undef, simprocAttr, sxB, ↓sxD, sxE, sxTab]))
    rw [← f5]
    exact ⟨m1 - (i + 1), tkSt M 13 11 o1 m1 o2 m2 (i + 1) _ (P ++ (D ++ S)) L2, by omega, le_sub ⟨rfl, rfl, rfl, rfl, trivial⟩ ⟨rfl, rfl, trivial⟩ rfl rfl rfl (by simp [keepLt, tkSt, lkH]), i + 1, _, D, rfl, by omega, f1, f2, f3, s2, f4, rfl⟩
  · have d5 : decide ((i : Int) < (m2 : Int)) = false := by simp; omega
    have hgy : (ofN y).getD i 0 = 0 := by simp [List.getD, List.getElem?_eq_none (show (ofN y).length ≤ i by omega)]
    rw [hgy] at fin
    have w7 := wrap32 (subW a c)
    have w8 := shr63 (subW a c)
    have hms := mid_set P C S o1 i (subW a c % 4294967296) hPl hiC
    obtain ⟨s1, s2⟩ := subW_3 hx0 (show 0 < 4294967296 by decide) hc
    have s0 : subW (subW a c) 0 = subW a c := by unfold subW; omega
    rw [s0] at s1 s2
    obtain ⟨D, f1, f2, f3, f4, f5⟩ := fin _ _ (Nat.mod_lt _ (by decide)) s2 s1
    (replace hb0 := true_and True); refine Go1.mk ?_; repeat' ((first | (with_reducible refine Go1.go ?_) | ((with_reducible first | refine brv_mk ?_ ?_ | refine gsplitD ?_ ?_ | refine gsplitG ?_ ?_) <;> intro h <;> (try simp only [Bool.not_eq_true', Bool.not_eq_false'] at h) <;> replace hb0 := h) | (refine And.intro ?ob ?_; case ob => ((try simp only [sxO, ne_eq, maxLen] at *); omega)) | fail) <;> (try simp (config := { maxSteps := 1000000 }) only [hb0, cE_ment, hasK_nil, cE_kill, cE_len, u32_one, u32_app1, u32_set, Nat.mul_one, tkSt, u32V, hat, d1, d2, d3, d4, d5, w3, w4, w7, w8, w9, hms, ↓hold_pre, awayP, runOps, regK, step1, newK, genR, appR, obl, buildR, Value.cells, closeK, keepH, outV, retK, ret1, retC, RetV, Option.getD, runD, stepD, afterK, undef, simprocAttr, sxB, ↓sxD, sxE, sxTab]))
    rw [← f5]
    exact ⟨m1 - (i + 1), tkSt M 13 11 o1 m1 o2 m2 (i + 1) _ (P ++ (D ++ S)) L2, by omega, le_sub ⟨rfl, rfl, rfl, rfl, trivial⟩ ⟨rfl, rfl, trivial⟩ rfl rfl rfl (by simp [keepLt, tkSt, lkH]), i + 1, _, D, rfl, by omega, f1, f2, f3, s2, f4, rfl⟩
end
end Go.Proofs.YtamghpnjdohnjaaDoor.Sx
