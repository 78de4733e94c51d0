import Derived.Test.YtlndhpljajlneaaDoorRefC
import Derived.Test.YtlndhpljajlneaaDoorTrm
/- Numbers: the reference reads the digits of a number. -/
namespace Go.Proofs.YtlndhpljajlneaaDoor.Sx
open Go Go.RowKit
set_option linter.unusedVariables false
set_option linter.unusedSimpArgs false
set_option maxRecDepth 100000
set_option maxHeartbeats 8000000
attribute [local congr] fin_congr finG_congr stepG_congr step1_congr runOps_congr brv_congr obl_congr condK_congr LoopK_congr seqK_congr CutK_congr vc_congr DrawK_congr regK_congr CallK_congr AskK_congr newK_congr retC_congr ret1_congr retK_congr outV_congr closeK_congr genR_congr appR_congr finD_congr finGD_congr stepGD_congr stepD_congr CallK0_congr runD_congr okR_congr CallS_congr vcX_congr
attribute [local congr] Stop_congr
/-- the number of a text, or an error -/
def parR (l : List UInt8) : Int × List Nat := if 1300 < l.length then (2, []) else if l = [] ∨ (1 < l.length ∧ l.getD 0 0 = 48) then (6, []) else if l.all dgT = true then limR (numB l) else (6, [])
theorem numB_len {l : List UInt8} (h : ∀ b ∈ l, dgT b = true) : numB l < 10 ^ l.length := numB_lt fun b hb => dgT_is.1 (h b hb)
theorem ten_len {n k : Nat} (h : n < 10 ^ k) : (ofN n).length ≤ k := ofN_len_le (Nat.lt_of_lt_of_le h (Nat.pow_le_pow_left (by decide) k))
theorem ofN_small {n : Nat} (h0 : 0 < n) (h : n < 4294967296) : ofN n = [n] := by
  rw [ofN_pos (by omega), Nat.div_eq_of_lt h, Nat.mod_eq_of_lt h, ofN_zero]
theorem dg_sub {b : UInt8} (h : dgT b = true) : IntKind.u8.wrap ((b.toNat : Int) - 48) = ((dgV b : Nat) : Int) ∧ dgV b < 10 := by
  obtain ⟨h1, h2⟩ := dgT_is.1 h
  have : ∀ j : Fin 256, 48 ≤ j.val → j.val ≤ 57 → IntKind.u8.wrap ((j.val : Int) - 48) = ((j.val - 48 : Nat) : Int) := by decide +kernel
  exact ⟨this ⟨b.toNat, b.toNat_lt⟩ h1 h2, by unfold dgV; omega⟩
section
variable {M : Mem} {K : AV → Hp → Mem → Prop}
theorem times_bor2 (k n : Nat) (T : TypeId) (u : Value) (x y : Nat) (L : List Nat) (hL : L = ofN y) (hn : n = L.length) (hv : IsL M u32V u (ofN x)) (hx : (ofN x).length < 100000000) (hy : (ofN y).length < 100000000) (hK : ∀ w M', Mem.le M M' → IsL M' u32V w (ofN (x * y)) → FreshS M w → K (.ext w) [(k, T, cE u32V L)] M') :
    CallS Tryd.prog 47 [.ext u, .slo k 0 n 1] [(k, T, cE u32V L)] M [] K := by
  refine CallS.bor ⟨⟨_, rfl⟩, trivial⟩ fun us M' hM hb' => ?_
  obtain ⟨v1, _, rfl, h1, v2, _, rfl, h2, rfl⟩ := hb'
  have h1 : v1 = u := h1
  subst h1
  have g1 := h2.isL (g := u32V) (L := L) (T := T) (by simp [lkH]) hn
  rw [hL] at g1
  refine times_ok v1 v2 x y (hv.le hM) g1 hx hy fun w M2 h2 h3 h4 => ?_
  exact ⟨fun j hj => rfl, fun M3 h5 h6 _ => hK w M3 h5 (h3.move h4 h6) (h4.le hM)⟩
def rpaSt (M : Mem) (l : List UInt8) : St := { env := [(0, .ext (.string (bs l)))], hp := [], M := M, kb := 0, fx := [] }
def rpbSt (M : Mem) (l : List UInt8) (w : Value) (i : Nat) : St := { env := [(5, .ext (.int .i64 (i : Int))), (4, .ext w), (0, .ext (.string (bs l)))], hp := [], M := M, kb := 0, fx := [] }
theorem rparse_ok (l : List UInt8) (hl : l.length < 1000000000) (hK : NatR M K (parR l)) : CallS Tryd.prog 29 [.ext (.string (bs l))] [] M [] K := by
  refine inlS (cs := [5]) Tryd.mixed Tryd.func29 rfl (by kernel_rfl) 0 rfl rfl ?_
  simp only [Tryd.f29]
  unfold parR at hK
  by_cases h13 : 1300 < l.length
  · have d1 : decide ((1300 : Int) < (l.length : Int)) = true := by rw [decide_eq_true_eq]; omega
    rw [if_pos h13] at hK
    (replace hb0 := true_and True); refine Go1.mk ?_; repeat' ((first | (with_reducible refine Go1.go ?_) | ((with_reducible first | refine brv_mk ?_ ?_ | refine gsplitD ?_ ?_ | refine gsplitG ?_ ?_) <;> intro h <;> (try simp only [Bool.not_eq_true', Bool.not_eq_false'] at h) <;> replace hb0 := h) | (refine And.intro ?ob ?_; case ob => ((try simp only [sxO, ne_eq, maxLen] at *); omega)) | fail) <;> (try simp (config := { maxSteps := 1000000 }) only [hb0, d1, bs_mk, bs_app, bs_ext, bs_size, bs_toList, bs_at, bs_cells, List.take_length, imp_ga, guard_pk, guard_pk2, ↓hold_pre, awayP, runOps, regK, step1, newK, genR, appR, obl, buildR, Value.cells, closeK, keepH, outV, retK, ret1, retC, RetV, Option.getD, runD, stepD, afterK, undef, simprocAttr, sxB, ↓sxD, sxE, sxTab]))
    exact NatR.err _ hK
  have d1 : decide ((1300 : Int) < (l.length : Int)) = false := by rw [decide_eq_false_iff_not]; omega
  rw [if_neg h13] at hK
  (replace hb0 := true_and True); refine Go1.mk ?_; repeat' ((first | (with_reducible refine Go1.go ?_) | ((with_reducible first | refine brv_mk ?_ ?_ | refine gsplitD ?_ ?_ | refine gsplitG ?_ ?_) <;> intro h <;> (try simp only [Bool.not_eq_true', Bool.not_eq_false'] at h) <;> replace hb0 := h) | (refine And.intro ?ob ?_; case ob => ((try simp only [sxO, ne_eq, maxLen] at *); omega)) | fail) <;> (try simp (config := { maxSteps := 1000000 }) only [hb0, d1, bs_mk, bs_app, bs_ext, bs_size, bs_toList, bs_at, bs_cells, List.take_length, imp_ga, guard_pk, guard_pk2, ↓hold_pre, awayP, runOps, regK, step1, newK, genR, appR, obl, buildR, Value.cells, closeK, keepH, outV, retK, ret1, retC, RetV, Option.getD, runD, stepD, afterK, undef, simprocAttr, sxB, ↓sxD, sxE, sxTab]))
  refine ⟨fun z => ¬ (l = [] ∨ (1 < l.length ∧ l.getD 0 0 = 48)) ∧ z = rpaSt M l, ?_, ?_⟩
  · by_cases hne : l = []
    · subst hne
      have e1 : (([] : List UInt8) == []) = true := rfl
      (replace hb0 := true_and True); refine Go1.mk ?_; repeat' ((first | (with_reducible refine Go1.go ?_) | ((with_reducible first | refine brv_mk ?_ ?_ | refine gsplitD ?_ ?_ | refine gsplitG ?_ ?_) <;> intro h <;> (try simp only [Bool.not_eq_true', Bool.not_eq_false'] at h) <;> replace hb0 := h) | (refine And.intro ?ob ?_; case ob => ((try simp only [sxO, ne_eq, maxLen] at *); omega)) | fail) <;> (try simp (config := { maxSteps := 1000000 }) only [hb0, e1, bs_mk, bs_app, bs_ext, bs_size, bs_toList, bs_at, bs_cells, List.take_length, imp_ga, guard_pk, guard_pk2, ↓hold_pre, awayP, runOps, regK, step1, newK, genR, appR, obl, buildR, Value.cells, closeK, keepH, outV, retK, ret1, retC, RetV, Option.getD, runD, stepD, afterK, undef, simprocAttr, sxB, ↓sxD, sxE, sxTab]))
      exact NatR.err _ hK
    have e1 : (l == []) = false := by simpa using hne
    have d0 : (0 : Int) < (l.length : Int) := by
      have := List.length_pos_iff.2 hne
      omega
    by_cases h1 : 1 < l.length
    · have d2 : decide ((1 : Int) < (l.length : Int)) = true := by rw [decide_eq_true_eq]; omega
      by_cases hz : l.getD 0 0 = 48
      · have d4 : decide (((l.getD 0 0).toNat : Int) = 48) = true := by rw [hz]; rfl
        rw [if_pos (.inr ⟨h1, hz⟩)] at hK
        (replace hb0 := true_and True); refine Go1.mk ?_; repeat' ((first | (with_reducible refine Go1.go ?_) | ((with_reducible first | refine brv_mk ?_ ?_ | refine gsplitD ?_ ?_ | refine gsplitG ?_ ?_) <;> intro h <;> (try simp only [Bool.not_eq_true', Bool.not_eq_false'] at h) <;> replace hb0 := h) | (refine And.intro ?ob ?_; case ob => ((try simp only [sxO, ne_eq, maxLen] at *); omega)) | fail) <;> (try simp (config := { maxSteps := 1000000 }) only [hb0, e1, d0, d2, d4, bs_mk, bs_app, bs_ext, bs_size, bs_toList, bs_at, bs_cells, List.take_length, imp_ga, guard_pk, guard_pk2, ↓hold_pre, awayP, runOps, regK, step1, newK, genR, appR, obl, buildR, Value.cells, closeK, keepH, outV, retK, ret1, retC, RetV, Option.getD, runD, stepD, afterK, undef, simprocAttr, sxB, ↓sxD, sxE, sxTab]))
        exact NatR.err _ hK
      · have d4 : decide (((l.getD 0 0).toNat : Int) = 48) = false := by
          rw [decide_eq_false_iff_not]
          intro e
          exact hz (UInt8.toNat_inj.1 (show (l.getD 0 0).toNat = (48 : UInt8).toNat by rw [show (48 : UInt8).toNat = 48 from rfl]; omega))
        (replace hb0 := true_and True); refine Go1.mk ?_; repeat' ((first | (with_reducible refine Go1.go ?_) | ((with_reducible first | refine brv_mk ?_ ?_ | refine gsplitD ?_ ?_ | refine gsplitG ?_ ?_) <;> intro h <;> (try simp only [Bool.not_eq_true', Bool.not_eq_false'] at h) <;> replace hb0 := h) | (refine And.intro ?ob ?_; case ob => ((try simp only [sxO, ne_eq, maxLen] at *); omega)) | fail) <;> (try simp (config := { maxSteps := 1000000 }) only [hb0, e1, d0, d2, d4, bs_mk, bs_app, bs_ext, bs_size, bs_toList, bs_at, bs_cells, List.take_length, imp_ga, guard_pk, guard_pk2, ↓hold_pre, awayP, runOps, regK, step1, newK, genR, appR, obl, buildR, Value.cells, closeK, keepH, outV, retK, ret1, retC, RetV, Option.getD, runD, stepD, afterK, undef, simprocAttr, sxB, ↓sxD, sxE, sxTab]))
        exact ⟨rpaSt M l, le_sub ⟨rfl, trivial⟩ trivial rfl rfl rfl (keepLt0 _), fun h => by
          rcases h with h | h
          · exact hne h
          · exact hz h.2, rfl⟩
    · have d2 : decide ((1 : Int) < (l.length : Int)) = false := by rw [decide_eq_false_iff_not]; omega
      (replace hb0 := true_and True); refine Go1.mk ?_; repeat' ((first | (with_reducible refine Go1.go ?_) | ((with_reducible first | refine brv_mk ?_ ?_ | refine gsplitD ?_ ?_ | refine gsplitG ?_ ?_) <;> intro h <;> (try simp only [Bool.not_eq_true', Bool.not_eq_false'] at h) <;> replace hb0 := h) | (refine And.intro ?ob ?_; case ob => ((try simp only [sxO, ne_eq, maxLen] at *); omega)) | fail) <;> (try simp (config := { maxSteps := 1000000 }) only [hb0, e1, d0, d2, bs_mk, bs_app, bs_ext, bs_size, bs_toList, bs_at, bs_cells, List.take_length, imp_ga, guard_pk, guard_pk2, ↓hold_pre, awayP, runOps, regK, step1, newK, genR, appR, obl, buildR, Value.cells, closeK, keepH, outV, retK, ret1, retC, RetV, Option.getD, runD, stepD, afterK, undef, simprocAttr, sxB, ↓sxD, sxE, sxTab]))
      exact ⟨rpaSt M l, le_sub ⟨rfl, trivial⟩ trivial rfl rfl rfl (keepLt0 _), fun h => by
        rcases h with h | h
        · exact hne h
        · exact h1 h.1, rfl⟩
  rintro z ⟨hh, rfl⟩
  rw [if_neg hh] at hK
  (replace hb0 := true_and True); refine Go1.mk ?_; repeat' ((first | (with_reducible refine Go1.go ?_) | ((with_reducible first | refine brv_mk ?_ ?_ | refine gsplitD ?_ ?_ | refine gsplitG ?_ ?_) <;> intro h <;> (try simp only [Bool.not_eq_true', Bool.not_eq_false'] at h) <;> replace hb0 := h) | (refine And.intro ?ob ?_; case ob => ((try simp only [sxO, ne_eq, maxLen] at *); omega)) | fail) <;> (try simp (config := { maxSteps := 1000000 }) only [hb0, rpaSt, bs_mk, bs_app, bs_ext, bs_size, bs_toList, bs_at, bs_cells, List.take_length, imp_ga, guard_pk, guard_pk2, ↓hold_pre, awayP, runOps, regK, step1, newK, genR, appR, obl, buildR, Value.cells, closeK, keepH, outV, retK, ret1, retC, RetV, Option.getD, runD, stepD, afterK, undef, simprocAttr, sxB, ↓sxD, sxE, sxTab]))
  refine ⟨fun d z => ∃ M' w i, d = l.length - i ∧ i ≤ l.length ∧ Mem.le M M' ∧ IsL M' u32V w (ofN (numB (l.take i))) ∧ FreshS M w ∧ (∀ b ∈ l.take i, dgT b = true) ∧ z = rpbSt M' l w i,
    ⟨l.length, rpbSt M l (.slice none 0 0) 0, le_sub ⟨rfl, rfl, rfl, trivial⟩ trivial rfl rfl rfl (keepLt0 _), ⟨M, _, 0, by omega, by omega, Mem.le.refl _, by rw [show numB (l.take 0) = 0 from rfl, ofN_zero]; exact isL_nil _ _ _, freshS_nil _ _, by simp, rfl⟩⟩, ?_⟩
  rintro d z ⟨M1, w, i, rfl, hi, hM1, hw, hwf, hdg, rfl⟩
  have hnl := numB_len hdg
  rw [List.length_take, Nat.min_eq_left hi] at hnl
  have hwl := ten_len hnl
  by_cases hlt : i < l.length
  case neg =>
    obtain rfl : i = l.length := by omega
    rw [List.take_length] at hw hdg hwl
    rw [if_pos (List.all_eq_true.2 hdg)] at hK
    obtain ⟨k1, k2⟩ := hK.lim hM1 hw hwf
    have d2 : decide ((l.length : Int) < (l.length : Int)) = false := by simp
    by_cases h : (ofN (numB l)).length ≤ 128
    · (replace hb0 := true_and True); refine Go1.mk ?_; repeat' ((first | (with_reducible refine Go1.go ?_) | ((with_reducible first | refine brv_mk ?_ ?_ | refine gsplitD ?_ ?_ | refine gsplitG ?_ ?_) <;> intro h <;> (try simp only [Bool.not_eq_true', Bool.not_eq_false'] at h) <;> replace hb0 := h) | ((first | (with_reducible refine isCall (f := 57) ?_; refine callA_nil (by kernel_rfl) ?_) | (with_reducible refine isCall0 (f := 57) ?_; refine callA0_nil (by kernel_rfl) ?_)); refine (rlimited_ok w _ hw (fun _ => Stop.mk ?_) (fun h2 => absurd h (by omega)))) | (refine And.intro ?ob ?_; case ob => ((try simp only [sxO, ne_eq, maxLen] at *); omega)) | fail) <;> (try simp (config := { maxSteps := 1000000 }) only [hb0, rpbSt, hw.one, d2, bs_mk, bs_app, bs_ext, bs_size, bs_toList, bs_at, bs_cells, List.take_length, imp_ga, guard_pk, guard_pk2, ↓hold_pre, awayP, runOps, regK, step1, newK, genR, appR, obl, buildR, Value.cells, closeK, keepH, outV, retK, ret1, retC, RetV, Option.getD, runD, stepD, afterK, undef, simprocAttr, sxB, ↓sxD, sxE, sxTab]))
      refine Stop.go ?_
      (replace hb0 := true_and True); refine Go1.mk ?_; repeat' ((first | (with_reducible refine Go1.go ?_) | ((with_reducible first | refine brv_mk ?_ ?_ | refine gsplitD ?_ ?_ | refine gsplitG ?_ ?_) <;> intro h <;> (try simp only [Bool.not_eq_true', Bool.not_eq_false'] at h) <;> replace hb0 := h) | (refine And.intro ?ob ?_; case ob => ((try simp only [sxO, ne_eq, maxLen] at *); omega)) | fail) <;> (try simp (config := { maxSteps := 1000000 }) only [hb0, hw.one, bs_mk, bs_app, bs_ext, bs_size, bs_toList, bs_at, bs_cells, List.take_length, imp_ga, guard_pk, guard_pk2, ↓hold_pre, awayP, runOps, regK, step1, newK, genR, appR, obl, buildR, Value.cells, closeK, keepH, outV, retK, ret1, retC, RetV, Option.getD, runD, stepD, afterK, undef, simprocAttr, sxB, ↓sxD, sxE, sxTab]))
      exact k1 h
    · (replace hb0 := true_and True); refine Go1.mk ?_; repeat' ((first | (with_reducible refine Go1.go ?_) | ((with_reducible first | refine brv_mk ?_ ?_ | refine gsplitD ?_ ?_ | refine gsplitG ?_ ?_) <;> intro h <;> (try simp only [Bool.not_eq_true', Bool.not_eq_false'] at h) <;> replace hb0 := h) | ((first | (with_reducible refine isCall (f := 57) ?_; refine callA_nil (by kernel_rfl) ?_) | (with_reducible refine isCall0 (f := 57) ?_; refine callA0_nil (by kernel_rfl) ?_)); refine (rlimited_ok w _ hw (fun h2 => absurd h2 h) (fun _ => Stop.mk ?_))) | (refine And.intro ?ob ?_; case ob => ((try simp only [sxO, ne_eq, maxLen] at *); omega)) | fail) <;> (try simp (config := { maxSteps := 1000000 }) only [hb0, rpbSt, hw.one, d2, bs_mk, bs_app, bs_ext, bs_size, bs_toList, bs_at, bs_cells, List.take_length, imp_ga, guard_pk, guard_pk2, ↓hold_pre, awayP, runOps, regK, step1, newK, genR, appR, obl, buildR, Value.cells, closeK, keepH, outV, retK, ret1, retC, RetV, Option.getD, runD, stepD, afterK, undef, simprocAttr, sxB, ↓sxD, sxE, sxTab]))
      refine Stop.go ?_
      (replace hb0 := true_and True); refine Go1.mk ?_; repeat' ((first | (with_reducible refine Go1.go ?_) | ((with_reducible first | refine brv_mk ?_ ?_ | refine gsplitD ?_ ?_ | refine gsplitG ?_ ?_) <;> intro h <;> (try simp only [Bool.not_eq_true', Bool.not_eq_false'] at h) <;> replace hb0 := h) | (refine And.intro ?ob ?_; case ob => ((try simp only [sxO, ne_eq, maxLen] at *); omega)) | fail) <;> (try simp (config := { maxSteps := 1000000 }) only [hb0, bs_mk, bs_app, bs_ext, bs_size, bs_toList, bs_at, bs_cells, List.take_length, imp_ga, guard_pk, guard_pk2, ↓hold_pre, awayP, runOps, regK, step1, newK, genR, appR, obl, buildR, Value.cells, closeK, keepH, outV, retK, ret1, retC, RetV, Option.getD, runD, stepD, afterK, undef, simprocAttr, sxB, ↓sxD, sxE, sxTab]))
      exact k2 (by omega)
  have d2 : decide ((i : Int) < (l.length : Int)) = true := by rw [decide_eq_true_eq]; omega
  have a1 : (0 : Int) ≤ (i : Int) := by omega
  have a2 : (i : Int) < (l.length : Int) := by omega
  have g1 := getD_of hlt
  have htk : l.take (i + 1) = l.take i ++ [l[i]] := by rw [List.take_add_one, List.getElem?_eq_getElem hlt]; rfl
  have hmem : l[i] ∈ l := List.getElem_mem hlt
  generalize l[i] = b at *
  by_cases hb : dgT b = true
  case neg =>
    have hb2 : dgT b = false := by simpa using hb
    rw [if_neg (fun h => hb (List.all_eq_true.1 h b hmem))] at hK
    unfold dgT at hb2
    by_cases hlo : b.toNat < 48
    · have d3 : decide ((b.toNat : Int) < 48) = true := by rw [decide_eq_true_eq]; omega
      (replace hb0 := true_and True); refine Go1.mk ?_; repeat' ((first | (with_reducible refine Go1.go ?_) | ((with_reducible first | refine brv_mk ?_ ?_ | refine gsplitD ?_ ?_ | refine gsplitG ?_ ?_) <;> intro h <;> (try simp only [Bool.not_eq_true', Bool.not_eq_false'] at h) <;> replace hb0 := h) | (refine And.intro ?ob ?_; case ob => ((try simp only [sxO, ne_eq, maxLen] at *); omega)) | fail) <;> (try simp (config := { maxSteps := 1000000 }) only [hb0, rpbSt, hw.one, d2, a1, a2, g1, d3, bs_mk, bs_app, bs_ext, bs_size, bs_toList, bs_at, bs_cells, List.take_length, imp_ga, guard_pk, guard_pk2, ↓hold_pre, awayP, runOps, regK, step1, newK, genR, appR, obl, buildR, Value.cells, closeK, keepH, outV, retK, ret1, retC, RetV, Option.getD, runD, stepD, afterK, undef, simprocAttr, sxB, ↓sxD, sxE, sxTab]))
      exact hK _ _ hM1 (isL_nil _ _ _) (freshS_nil _ _)
    · have d3 : decide ((b.toNat : Int) < 48) = false := by rw [decide_eq_false_iff_not]; omega
      have d4 : decide ((57 : Int) < (b.toNat : Int)) = true := by
        rw [decide_eq_true_eq]
        rw [Bool.and_eq_false_iff, decide_eq_false_iff_not, decide_eq_false_iff_not] at hb2
        omega
      (replace hb0 := true_and True); refine Go1.mk ?_; repeat' ((first | (with_reducible refine Go1.go ?_) | ((with_reducible first | refine brv_mk ?_ ?_ | refine gsplitD ?_ ?_ | refine gsplitG ?_ ?_) <;> intro h <;> (try simp only [Bool.not_eq_true', Bool.not_eq_false'] at h) <;> replace hb0 := h) | (refine And.intro ?ob ?_; case ob => ((try simp only [sxO, ne_eq, maxLen] at *); omega)) | fail) <;> (try simp (config := { maxSteps := 1000000 }) only [hb0, rpbSt, hw.one, d2, a1, a2, g1, d3, d4, bs_mk, bs_app, bs_ext, bs_size, bs_toList, bs_at, bs_cells, List.take_length, imp_ga, guard_pk, guard_pk2, ↓hold_pre, awayP, runOps, regK, step1, newK, genR, appR, obl, buildR, Value.cells, closeK, keepH, outV, retK, ret1, retC, RetV, Option.getD, runD, stepD, afterK, undef, simprocAttr, sxB, ↓sxD, sxE, sxTab]))
      exact hK _ _ hM1 (isL_nil _ _ _) (freshS_nil _ _)
  obtain ⟨hd1, hd2⟩ := dg_sub hb
  have hb3 := dgT_is.1 hb
  have d3 : decide ((b.toNat : Int) < 48) = false := by rw [decide_eq_false_iff_not]; have := hb3.1; omega
  have d4 : decide ((57 : Int) < (b.toNat : Int)) = false := by rw [decide_eq_false_iff_not]; have := hb3.2; omega
  have wd2 : IntKind.u32.wrap ((dgV b : Nat) : Int) = ((dgV b : Nat) : Int) := wrap32_id (by omega)
  have wi2 : IntKind.i64.wrap ((i : Int) + 1) = ((i + 1 : Nat) : Int) := succ_i (by omega)
  have h10 : (ofN 10).length < 100000000 := by rw [ofN_small (by decide) (by decide)]; decide
  have hval : valN [dgV b] = dgV b := by simp [valN]
  have hnx : numB (l.take (i + 1)) = numB (l.take i) * 10 + dgV b := by rw [htk, numB_snoc]; omega
  have hdn : ∀ c ∈ l.take (i + 1), dgT c = true := fun c hc => by
    rw [htk] at hc
    rcases List.mem_append.1 hc with h | h
    · exact hdg c h
    · rw [List.mem_singleton.1 h]; exact hb
  have hxl : (ofN (numB (l.take i) * 10)).length ≤ i + 1 := ten_len (by rw [Nat.pow_succ]; omega)
  (replace hb0 := true_and True); refine Go1.mk ?_; repeat' ((first | (with_reducible refine Go1.go ?_) | ((with_reducible first | refine brv_mk ?_ ?_ | refine gsplitD ?_ ?_ | refine gsplitG ?_ ?_) <;> intro h <;> (try simp only [Bool.not_eq_true', Bool.not_eq_false'] at h) <;> replace hb0 := h) | ((with_reducible refine isCall (f := 47) ?_); refine callA ?_) | ((with_reducible refine isCall0 (f := 47) ?_); refine callA0 ?_) | ((with_reducible refine isCallS (f := 47) ?_); refine (times_bor2 38 1 _ w (numB (l.take i)) 10 [10] (ofN_small (by decide) (by decide)).symm rfl hw (by omega) h10 (fun w1 M2 b1 b2 b3 => Stop.mk ?_))) | ((with_reducible refine isDraw [some 37, some 38, some 39, some 40, some 41, some 42, some 43, some 44, some 45, some 46, some 47, some 4] (by decide) ?_); refine draw_rule [(0, []), (1, []), (3, []), (4, []), (5, []), (6, []), (7, []), (8, []), (2, []), (9, []), (10, []), (11, [])] [[], [], [0, 1], [], [], [3, 4], [3, 4, 5], [3, 4, 5, 6], [3, 4, 5, 6, 7], [0, 1, 2, 3, 4, 5, 6, 7, 8], [0, 1, 2, 3, 4, 5, 6, 7, 8, 9], [0, 1, 2, 3, 4, 5, 6, 7, 8, 9, 10]] [37, 38, 39, 40, 41, 42, 43, 44, 45] [] (by kernel_rfl) (by kernel_rfl) (by kernel_rfl) (by kernel_rfl) (by exact trivial) ?_) | (refine And.intro ?ob ?_; case ob => ((try simp only [sxO, ne_eq, maxLen] at *); omega)) | fail) <;> (try simp (config := { maxSteps := 1000000 }) only [hb0, rpbSt, hw.one, d2, a1, a2, g1, d3, d4, hd1, wd2, cE_ment, hasK_nil, cE_kill, cE_len, u32_one, u32_app1, u32_set, Nat.mul_one, bs_mk, bs_app, bs_ext, bs_size, bs_toList, bs_at, bs_cells, List.take_length, imp_ga, guard_pk, guard_pk2, ↓hold_pre, awayP, runOps, regK, step1, newK, genR, appR, obl, buildR, Value.cells, closeK, keepH, outV, retK, ret1, retC, RetV, Option.getD, runD, stepD, afterK, undef, simprocAttr, sxB, ↓sxD, sxE, sxTab]))
  have b1 : Mem.le M1 M2 := b1
  refine Stop.go ?_
  (replace hb0 := true_and True); refine Go1.mk ?_; repeat' ((first | (with_reducible refine Go1.go ?_) | ((with_reducible first | refine brv_mk ?_ ?_ | refine gsplitD ?_ ?_ | refine gsplitG ?_ ?_) <;> intro h <;> (try simp only [Bool.not_eq_true', Bool.not_eq_false'] at h) <;> replace hb0 := h) | ((with_reducible refine isCall (f := 41) ?_); refine callA ?_) | ((with_reducible refine isCall0 (f := 41) ?_); refine callA0 ?_) | ((with_reducible refine isCallS (f := 41) ?_); refine (rtrim_bor 45 1 _ [dgV b] rfl (okN_one (by omega)) (by simp) (fun w2 M3 c1 c2 c3 => Stop.mk ?_))) | ((with_reducible refine isDraw [some 37, some 38, some 39, some 40, some 41, some 42, some 43, some 44, some 45, some 46, some 47, some 4] (by decide) ?_); refine draw_rule [(0, []), (1, []), (3, []), (4, []), (5, []), (6, []), (7, []), (8, []), (2, []), (9, []), (10, []), (11, [])] [[], [], [0, 1], [], [], [3, 4], [3, 4, 5], [3, 4, 5, 6], [3, 4, 5, 6, 7], [0, 1, 2, 3, 4, 5, 6, 7, 8], [0, 1, 2, 3, 4, 5, 6, 7, 8, 9], [0, 1, 2, 3, 4, 5, 6, 7, 8, 9, 10]] [37, 38, 39, 40, 41, 42, 43, 44, 45] [] (by kernel_rfl) (by kernel_rfl) (by kernel_rfl) (by kernel_rfl) (by exact trivial) ?_) | (refine And.intro ?ob ?_; case ob => ((try simp only [sxO, ne_eq, maxLen] at *); omega)) | fail) <;> (try simp (config := { maxSteps := 1000000 }) only [hb0, b2.one, d2, a1, a2, g1, hd1, wd2, cE_ment, hasK_nil, cE_kill, cE_len, u32_one, u32_app1, u32_set, Nat.mul_one, bs_mk, bs_app, bs_ext, bs_size, bs_toList, bs_at, bs_cells, List.take_length, imp_ga, guard_pk, guard_pk2, ↓hold_pre, awayP, runOps, regK, step1, newK, genR, appR, obl, buildR, Value.cells, closeK, keepH, outV, retK, ret1, retC, RetV, Option.getD, runD, stepD, afterK, undef, simprocAttr, sxB, ↓sxD, sxE, sxTab]))
  have c1 : Mem.le M2 M3 := c1
  rw [hval] at c2
  have b2' := b2.le c1
  have hyl : (ofN (dgV b)).length ≤ 1 := ten_len (by omega)
  refine Stop.go ?_
  (replace hb0 := true_and True); refine Go1.mk ?_; repeat' ((first | (with_reducible refine Go1.go ?_) | ((with_reducible first | refine brv_mk ?_ ?_ | refine gsplitD ?_ ?_ | refine gsplitG ?_ ?_) <;> intro h <;> (try simp only [Bool.not_eq_true', Bool.not_eq_false'] at h) <;> replace hb0 := h) | ((first | (with_reducible refine isCall (f := 56) ?_; refine callA_nil (by kernel_rfl) ?_) | (with_reducible refine isCall0 (f := 56) ?_; refine callA0_nil (by kernel_rfl) ?_)); refine (plus_ok w1 w2 _ _ b2' c2 (by omega) (by omega) (fun w3 M4 e1 e2 e3 => Stop.mk ?_))) | ((with_reducible refine isDraw [some 37, some 38, some 39, some 40, some 41, some 42, some 43, some 44, some 45, some 46, some 47, some 4] (by decide) ?_); refine draw_rule [(0, []), (1, []), (3, []), (4, []), (5, []), (6, []), (7, []), (8, []), (2, []), (9, []), (10, []), (11, [])] [[], [], [0, 1], [], [], [3, 4], [3, 4, 5], [3, 4, 5, 6], [3, 4, 5, 6, 7], [0, 1, 2, 3, 4, 5, 6, 7, 8], [0, 1, 2, 3, 4, 5, 6, 7, 8, 9], [0, 1, 2, 3, 4, 5, 6, 7, 8, 9, 10]] [37, 38, 39, 40, 41, 42, 43, 44, 45] [] (by kernel_rfl) (by kernel_rfl) (by kernel_rfl) (by kernel_rfl) (by exact trivial) ?_) | (refine And.intro ?ob ?_; case ob => ((try simp only [sxO, ne_eq, maxLen] at *); omega)) | fail) <;> (try simp (config := { maxSteps := 1000000 }) only [hb0, b2'.one, c2.one, wi2, cE_ment, hasK_nil, cE_kill, cE_len, u32_one, u32_app1, u32_set, Nat.mul_one, bs_mk, bs_app, bs_ext, bs_size, bs_toList, bs_at, bs_cells, List.take_length, imp_ga, guard_pk, guard_pk2, ↓hold_pre, awayP, runOps, regK, step1, newK, genR, appR, obl, buildR, Value.cells, closeK, keepH, outV, retK, ret1, retC, RetV, Option.getD, runD, stepD, afterK, undef, simprocAttr, sxB, ↓sxD, sxE, sxTab]))
  have e1 : Mem.le M3 M4 := e1
  rw [← hnx] at e2
  refine Stop.go ?_
  (replace hb0 := true_and True); refine Go1.mk ?_; repeat' ((first | (with_reducible refine Go1.go ?_) | ((with_reducible first | refine brv_mk ?_ ?_ | refine gsplitD ?_ ?_ | refine gsplitG ?_ ?_) <;> intro h <;> (try simp only [Bool.not_eq_true', Bool.not_eq_false'] at h) <;> replace hb0 := h) | (refine And.intro ?ob ?_; case ob => ((try simp only [sxO, ne_eq, maxLen] at *); omega)) | fail) <;> (try simp (config := { maxSteps := 1000000 }) only [hb0, e2.one, wi2, cE_ment, hasK_nil, cE_kill, cE_len, u32_one, u32_app1, u32_set, Nat.mul_one, bs_mk, bs_app, bs_ext, bs_size, bs_toList, bs_at, bs_cells, List.take_length, imp_ga, guard_pk, guard_pk2, ↓hold_pre, awayP, runOps, regK, step1, newK, genR, appR, obl, buildR, Value.cells, closeK, keepH, outV, retK, ret1, retC, RetV, Option.getD, runD, stepD, afterK, undef, simprocAttr, sxB, ↓sxD, sxE, sxTab]))
  exact ⟨l.length - (i + 1), rpbSt M4 l w3 (i + 1), by omega, le_sub ⟨rfl, rfl, rfl, trivial⟩ trivial rfl rfl rfl (keepLt0 _), M4, w3, i + 1, rfl, by omega, ((hM1.trans b1).trans c1).trans e1, e2, e3.le ((hM1.trans b1).trans c1), hdn, rfl⟩
end
end Go.Proofs.YtlndhpljajlneaaDoor.Sx
