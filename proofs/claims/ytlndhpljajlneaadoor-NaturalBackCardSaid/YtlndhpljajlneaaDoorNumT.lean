import Derived.Test.YtlndhpljajlneaaDoorNumN
/- Numbers: lists cut to twenty limbs. -/
namespace Go.Proofs.YtlndhpljajlneaaDoor.Sx
open Go Go.RowKit
set_option linter.unusedVariables false
set_option linter.unusedSimpArgs false
set_option maxRecDepth 100000
set_option maxHeartbeats 8000000
attribute [local congr] fin_congr finG_congr stepG_congr step1_congr runOps_congr brv_congr obl_congr condK_congr LoopK_congr seqK_congr CutK_congr vc_congr DrawK_congr regK_congr CallK_congr AskK_congr newK_congr retC_congr ret1_congr retK_congr outV_congr closeK_congr genR_congr appR_congr finD_congr finGD_congr stepGD_congr stepD_congr CallK0_congr runD_congr okR_congr CallS_congr vcX_congr
attribute [local congr] Stop_congr
section
variable {M : Mem} {K : AV → Hp → Mem → Prop}
def tdSt (M : Mem) (w : Value) : St := { env := [(0, .ext w)], hp := [], M := M, kb := 0, fx := [] }
theorem trimmed_ok (u : Value) (l : List Nat) (hu : IsL M u32V u l) (ho : okN l) (hK : ∀ w n, IsL M u32V w (ofN n) → (ofN n).length ≤ 20 → K (.ext w) [] M) : CallS Tryd.prog 25 [.ext u] [] M [] K := by
  refine inlS (cs := [3]) Tryd.mixed Tryd.func25 rfl (by kernel_rfl) 0 rfl rfl ?_
  simp only [Tryd.f25]
  (replace hb0 := true_and True); refine Go1.mk ?_; repeat' ((first | (with_reducible refine Go1.go ?_) | ((with_reducible first | refine brv_mk ?_ ?_ | refine gsplitD ?_ ?_ | refine gsplitG ?_ ?_) <;> intro h <;> (try simp only [Bool.not_eq_true', Bool.not_eq_false'] at h) <;> replace hb0 := h) | (refine And.intro ?ob ?_; case ob => ((try simp only [sxO, ne_eq, maxLen] at *); omega)) | fail) <;> (try simp (config := { maxSteps := 1000000 }) only [hb0, hu.one, ↓hold_pre, awayP, runOps, regK, step1, newK, genR, appR, obl, buildR, Value.cells, closeK, keepH, outV, retK, ret1, retC, RetV, Option.getD, runD, stepD, afterK, undef, simprocAttr, sxB, ↓sxD, sxE, sxTab]))
  refine ⟨fun z => ∃ w, IsL M u32V w (l.take 20) ∧ z = tdSt M w, ?_, ?_⟩
  · by_cases h : 20 < l.length
    · have d1 : decide ((20 : Int) < (l.length : Int)) = true := by simp; omega
      have hs := hu.sub (Nat.zero_le 20) (by omega)
      have hcap := hu.cap
      have d2 : (20 : Int) ≤ (scap u : Int) := by omega
      (replace hb0 := true_and True); refine Go1.mk ?_; repeat' ((first | (with_reducible refine Go1.go ?_) | ((with_reducible first | refine brv_mk ?_ ?_ | refine gsplitD ?_ ?_ | refine gsplitG ?_ ?_) <;> intro h <;> (try simp only [Bool.not_eq_true', Bool.not_eq_false'] at h) <;> replace hb0 := h) | (refine And.intro ?ob ?_; case ob => ((try simp only [sxO, ne_eq, maxLen] at *); omega)) | fail) <;> (try simp (config := { maxSteps := 1000000 }) only [hb0, hu.one, hu.len, hu.sl, d1, d2, hs.one, ↓hold_pre, awayP, runOps, regK, step1, newK, genR, appR, obl, buildR, Value.cells, closeK, keepH, outV, retK, ret1, retC, RetV, Option.getD, runD, stepD, afterK, undef, simprocAttr, sxB, ↓sxD, sxE, sxTab]))
      exact ⟨tdSt M _, le_sub ⟨rfl, trivial⟩ trivial rfl rfl rfl (keepLt0 _), _, hs, rfl⟩
    · have d1 : decide ((20 : Int) < (l.length : Int)) = false := by simp; omega
      (replace hb0 := true_and True); refine Go1.mk ?_; repeat' ((first | (with_reducible refine Go1.go ?_) | ((with_reducible first | refine brv_mk ?_ ?_ | refine gsplitD ?_ ?_ | refine gsplitG ?_ ?_) <;> intro h <;> (try simp only [Bool.not_eq_true', Bool.not_eq_false'] at h) <;> replace hb0 := h) | (refine And.intro ?ob ?_; case ob => ((try simp only [sxO, ne_eq, maxLen] at *); omega)) | fail) <;> (try simp (config := { maxSteps := 1000000 }) only [hb0, hu.one, hu.len, hu.sl, d1, ↓hold_pre, awayP, runOps, regK, step1, newK, genR, appR, obl, buildR, Value.cells, closeK, keepH, outV, retK, ret1, retC, RetV, Option.getD, runD, stepD, afterK, undef, simprocAttr, sxB, ↓sxD, sxE, sxTab]))
      exact ⟨tdSt M u, le_sub ⟨rfl, trivial⟩ trivial rfl rfl rfl (keepLt0 _), _, by rw [List.take_of_length_le (by omega)]; exact hu, rfl⟩
  have ho := okN_take ho 20
  have hl : (l.take 20).length ≤ 20 := by rw [List.length_take]; omega
  generalize l.take 20 = l at *
  clear hu
  rintro z ⟨u, hu, rfl⟩
  (replace hb0 := true_and True); refine Go1.mk ?_; repeat' ((first | (with_reducible refine Go1.go ?_) | ((with_reducible first | refine brv_mk ?_ ?_ | refine gsplitD ?_ ?_ | refine gsplitG ?_ ?_) <;> intro h <;> (try simp only [Bool.not_eq_true', Bool.not_eq_false'] at h) <;> replace hb0 := h) | (refine And.intro ?ob ?_; case ob => ((try simp only [sxO, ne_eq, maxLen] at *); omega)) | fail) <;> (try simp (config := { maxSteps := 1000000 }) only [hb0, tdSt, hu.one, ↓hold_pre, awayP, runOps, regK, step1, newK, genR, appR, obl, buildR, Value.cells, closeK, keepH, outV, retK, ret1, retC, RetV, Option.getD, runD, stepD, afterK, undef, simprocAttr, sxB, ↓sxD, sxE, sxTab]))
  refine ⟨fun d z => ∃ j w, j = d ∧ j ≤ l.length ∧ (∀ i (h : i < l.length), j ≤ i → l[i] = 0) ∧ IsL M u32V w (l.take j) ∧ z = tdSt M w, ⟨l.length, tdSt M u, le_sub ⟨rfl, trivial⟩ trivial rfl rfl rfl (keepLt0 _), ⟨_, u, rfl, Nat.le_refl _, fun i h hi => by omega, by rw [List.take_length]; exact hu, rfl⟩⟩, ?_⟩
  clear hu
  rintro d z ⟨j, w, rfl, hj, hz, hw, rfl⟩
  have key : (∀ h : 0 < j, l[j - 1] ≠ 0) → K (.ext w) [] M := fun h => by
    have e := take_canon ho hj hz h
    rw [e] at hw
    exact hK w (valN l) hw (by rw [← e, List.length_take]; omega)
  have hlw : (l.take j).length = j := by rw [List.length_take]; omega
  have hwl := hw.len
  rw [hlw] at hwl
  by_cases hlt : 0 < j
  case neg =>
    obtain rfl : j = 0 := by omega
    have d1 : decide ((0 : Int) < ((0 : Nat) : Int)) = false := by decide
    (replace hb0 := true_and True); refine Go1.mk ?_; repeat' ((first | (with_reducible refine Go1.go ?_) | ((with_reducible first | refine brv_mk ?_ ?_ | refine gsplitD ?_ ?_ | refine gsplitG ?_ ?_) <;> intro h <;> (try simp only [Bool.not_eq_true', Bool.not_eq_false'] at h) <;> replace hb0 := h) | (refine And.intro ?ob ?_; case ob => ((try simp only [sxO, ne_eq, maxLen] at *); omega)) | fail) <;> (try simp (config := { maxSteps := 1000000 }) only [hb0, tdSt, hw.one, hw.sl, hwl, d1, ↓hold_pre, awayP, runOps, regK, step1, newK, genR, appR, obl, buildR, Value.cells, closeK, keepH, outV, retK, ret1, retC, RetV, Option.getD, runD, stepD, afterK, undef, simprocAttr, sxB, ↓sxD, sxE, sxTab]))
    exact key (fun h => by omega)
  have d1 : decide ((0 : Int) < (j : Int)) = true := by simp; omega
  have w1 := pred_i hlt (by omega)
  have hi : j - 1 < (l.take j).length := by omega
  have hxi := hw.idx (P := Tryd.prog) (T := 51) tk51 tz51 (by omega) hi
  rw [hlw, List.getElem_take] at hxi
  by_cases h0 : l[j - 1] = 0
  · have d4 : decide ((l[j - 1] : Int) = 0) = true := by simp; omega
    have hs := hw.sub (Nat.zero_le (j - 1)) (by omega)
    rw [List.drop_zero, Nat.sub_zero, List.take_take, Nat.min_eq_left (by omega)] at hs
    have hcap := hw.cap
    have d5 : ((j - 1 : Nat) : Int) ≤ (scap w : Int) := by omega
    have d6 : (0 : Int) ≤ ((j - 1 : Nat) : Int) := by omega
    (replace hb0 := true_and True); refine Go1.mk ?_; repeat' ((first | (with_reducible refine Go1.go ?_) | ((with_reducible first | refine brv_mk ?_ ?_ | refine gsplitD ?_ ?_ | refine gsplitG ?_ ?_) <;> intro h <;> (try simp only [Bool.not_eq_true', Bool.not_eq_false'] at h) <;> replace hb0 := h) | (refine And.intro ?ob ?_; case ob => ((try simp only [sxO, ne_eq, maxLen] at *); omega)) | fail) <;> (try simp (config := { maxSteps := 1000000 }) only [hb0, tdSt, u32V, hw.one, hw.sl, hwl, d1, w1, hxi, d4, d5, d6, hs.one, ↓hold_pre, awayP, runOps, regK, step1, newK, genR, appR, obl, buildR, Value.cells, closeK, keepH, outV, retK, ret1, retC, RetV, Option.getD, runD, stepD, afterK, undef, simprocAttr, sxB, ↓sxD, sxE, sxTab]))
    exact ⟨j - 1, tdSt M _, by omega, le_sub ⟨rfl, trivial⟩ trivial rfl rfl rfl (keepLt0 _), j - 1, _, rfl, by omega, fun i h hi => by
      rcases Nat.lt_or_ge i j with h1 | h1
      · obtain rfl : i = j - 1 := by omega
        exact h0
      · exact hz i h h1, hs, rfl⟩
  · have d4 : decide ((l[j - 1] : Int) = 0) = false := by simp; omega
    (replace hb0 := true_and True); refine Go1.mk ?_; repeat' ((first | (with_reducible refine Go1.go ?_) | ((with_reducible first | refine brv_mk ?_ ?_ | refine gsplitD ?_ ?_ | refine gsplitG ?_ ?_) <;> intro h <;> (try simp only [Bool.not_eq_true', Bool.not_eq_false'] at h) <;> replace hb0 := h) | (refine And.intro ?ob ?_; case ob => ((try simp only [sxO, ne_eq, maxLen] at *); omega)) | fail) <;> (try simp (config := { maxSteps := 1000000 }) only [hb0, tdSt, u32V, hw.one, hw.sl, hwl, d1, w1, hxi, d4, ↓hold_pre, awayP, runOps, regK, step1, newK, genR, appR, obl, buildR, Value.cells, closeK, keepH, outV, retK, ret1, retC, RetV, Option.getD, runD, stepD, afterK, undef, simprocAttr, sxB, ↓sxD, sxE, sxTab]))
    exact key (fun h => h0)
end
end Go.Proofs.YtlndhpljajlneaaDoor.Sx
