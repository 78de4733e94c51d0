import Derived.Test.YtlndhpljajlneaaDoorRefM
import Derived.Test.YtlndhpljajlneaaDoorNumP
import Derived.Test.YtlndhpljajlneaaDoorNumT
/- Numbers: the law of digits that are read back. -/
namespace Go.Proofs.YtlndhpljajlneaaDoor.Sx
open Go Go.RowKit
set_option linter.unusedVariables false
set_option linter.unusedSimpArgs false
set_option maxRecDepth 100000
set_option maxHeartbeats 8000000
attribute [local congr] fin_congr finG_congr stepG_congr step1_congr runOps_congr brv_congr obl_congr condK_congr LoopK_congr seqK_congr CutK_congr vc_congr DrawK_congr regK_congr CallK_congr AskK_congr newK_congr retC_congr ret1_congr retK_congr outV_congr closeK_congr genR_congr appR_congr finD_congr finGD_congr stepGD_congr stepD_congr CallK0_congr runD_congr okR_congr CallS_congr vcX_congr
attribute [local congr] Stop_congr
theorem limR_is {n : Nat} (h : (ofN n).length ≤ 128) : limR n = (0, ofN n) := by unfold limR; rw [if_pos h]
theorem dec_ne {n : Nat} (h : n ≠ 0) : dec n ≠ [] := fun e => by
  have := numB_dec n
  rw [e] at this
  exact h this.symm
theorem parR_dec {n : Nat} (h : (ofN n).length ≤ 20) : parR (decB n) = (0, ofN n) := by
  by_cases h0 : n = 0
  · subst h0
    have e : decB 0 = [48] := rfl
    rw [e]
    unfold parR
    rw [if_neg (by decide), if_neg (by simp), if_pos (by decide), show numB [48] = 0 from rfl]
    exact limR_is (by omega)
  have hlt := ofN_len_lt h
  rw [wN_two] at hlt
  have hd := dec_short _ _ hlt
  have e : decB n = dec n := by unfold decB; rw [if_neg h0]
  rw [e]
  unfold parR
  rw [if_neg (by omega), if_neg ?_, if_pos ?_, numB_dec]
  · exact limR_is (by omega)
  · exact List.all_eq_true.2 fun b hb => dgT_is.2 (dec_is n b hb)
  · rintro (h1 | ⟨_, h1⟩)
    · exact dec_ne h0 h1
    · cases hc : dec n with
      | nil => exact dec_ne h0 hc
      | cons c t =>
        rw [hc] at h1
        exact dec_head (n := n) c (by rw [hc]; rfl) h1
theorem fmtR_is {n : Nat} (h : (ofN n).length ≤ 20) : fmtR (ofN n) = (0, decB n) := by
  unfold fmtR
  rw [chkN_ofN (by omega), if_pos rfl, valN_ofN]
theorem decB_len {n : Nat} (h : (ofN n).length ≤ 20) : (decB n).length ≤ 700 := by
  have hlt := ofN_len_lt h
  rw [wN_two] at hlt
  have := dec_short _ _ hlt
  unfold decB
  split
  · simp
  · omega
theorem bitsR_is {n : Nat} (h : (ofN n).length ≤ 128) : bitsR (ofN n) = blen n := by
  unfold bitsR
  rw [chkN_ofN h, if_pos rfl]
  by_cases h0 : (ofN n).length = 0
  · rw [if_pos h0]
    have := ofN_nil.1 (List.length_eq_zero_iff.1 h0)
    rw [this, blen_zero]
  rw [if_neg h0]
  obtain ⟨k, hk⟩ : ∃ k, (ofN n).length = k + 1 := ⟨(ofN n).length - 1, by omega⟩
  have h1 : wN k ≤ n := by
    rcases Nat.lt_or_ge n (wN k) with h | h
    · have := ofN_len_le h; omega
    · exact h
  have h2 : (ofN n).getD k 0 = n / wN k := by
    have h3 := valN_drop_div (okN_ofN n) (show k ≤ (ofN n).length by omega)
    rw [valN_drop (show k < (ofN n).length by omega), List.drop_of_length_le (show (ofN n).length ≤ k + 1 by omega), valN_ofN] at h3
    rw [List.getD_eq_getElem?_getD, List.getElem?_eq_getElem (show k < (ofN n).length by omega)]
    simp only [valN, Nat.mul_zero, Nat.add_zero] at h3
    exact h3
  rw [hk, Nat.add_sub_cancel, h2, wN_two]
  rw [wN_two] at h1
  rw [blen_shift (32 * k) n h1]; omega
theorem blen_mono {n m : Nat} (h : n ≤ m) : blen n ≤ blen m := (blen_iff _ _).2 (Nat.lt_of_le_of_lt h ((blen_iff _ _).1 (Nat.le_refl _)))
section
variable {M : Mem} {K : AV → Hp → Mem → Prop}
theorem nparse_dec {n : Nat} (h : (ofN n).length ≤ 20) (hK : ∀ b M', Mem.le M M' → IsL M' u32V b (ofN n) → K (.ext (.tuple #[b, .int .i64 0])) [] M') : CallS Tryd.prog 28 [.ext (.string (bs (decB n)))] [] M [] K :=
  nparse_ok (decB n) (by have := decB_len h; omega) (by rw [parR_dec h]; exact fun b M2 h2 g2 _ => hK b M2 h2 g2)
theorem nadd_one {n : Nat} {u v : Value} (hn : (ofN n).length ≤ 20) (hu : IsL M u32V u (ofN n)) (hv : IsL M u32V v (ofN 1)) (hn1 : (ofN (n + 1)).length ≤ 21) (hK : ∀ b M', Mem.le M M' → IsL M' u32V b (ofN (n + 1)) → K (.ext (.tuple #[b, .int .i64 0])) [] M') : CallS Tryd.prog 30 [.ext u, .ext v] [] M [] K :=
  have ho1 : ofN 1 = [1] := ofN_small (by decide) (by decide)
  natAdd_ok hu hv (okN_ofN n) (okN_ofN 1) (by omega) (by rw [ho1]; decide) (by
    have hadd : addR (ofN n) (ofN 1) = (0, ofN (n + 1)) := by
      unfold addR
      rw [chkN_ofN (by omega), chkN_ofN (by rw [ho1]; decide), Bool.and_self, if_pos rfl, valN_ofN, valN_ofN, limR_is (by omega)]
    rw [hadd]; exact fun b M2 h2 g2 _ => hK b M2 h2 g2)
theorem back_ok (u : Value) (i1 : List Int) (hu : IsL M (intVk .u32) u i1) (h1 : ∀ x ∈ i1, (Lit.int .u32 x).wf = true)
    (hK : ∀ M', Mem.le M M' → K (.ext (.bool true)) [] M') : CallS Tryd.prog 6 [.ext u] [] M [] K := by
  obtain ⟨hu, h1⟩ := nats_of hu h1
  generalize i1.map Int.toNat = i1 at *
  refine inlS (cs := []) Tryd.mixed Tryd.func6 rfl (by kernel_rfl) 0 rfl rfl ?_
  simp only [Tryd.f6]
  (replace hb0 := true_and True); refine Go1.mk ?_; repeat' ((first | (with_reducible refine Go1.go ?_) | ((with_reducible first | refine brv_mk ?_ ?_ | refine gsplitD ?_ ?_ | refine gsplitG ?_ ?_) <;> intro h <;> (try simp only [Bool.not_eq_true', Bool.not_eq_false'] at h) <;> replace hb0 := h) | ((first | (with_reducible refine isCall (f := 25) ?_; refine callA_nil (by kernel_rfl) ?_) | (with_reducible refine isCall0 (f := 25) ?_; refine callA0_nil (by kernel_rfl) ?_)); refine (trimmed_ok u i1 hu h1 (fun a n g1 hn => Stop.mk ?_))) | (refine And.intro ?ob ?_; case ob => ((try simp only [sxO, ne_eq, maxLen] at *); omega)) | fail) <;> (try simp (config := { maxSteps := 1000000 }) only [hb0, hu.one, ↓hold_pre, awayP, runOps, regK, step1, newK, genR, appR, obl, buildR, Value.cells, closeK, keepH, outV, retK, ret1, retC, RetV, Option.getD, runD, stepD, afterK, undef, simprocAttr, sxB, ↓sxD, sxE, sxTab]))
  have hdl := decB_len hn
  have hn1 : (ofN (n + 1)).length ≤ 21 := ofN_len_le (by
    have := ofN_len_lt hn
    rw [show (21 : Nat) = 20 + 1 from rfl, wN_succ]
    omega)
  refine Stop.go ?_
  (replace hb0 := true_and True); refine Go1.mk ?_; repeat' ((first | (with_reducible refine Go1.go ?_) | ((with_reducible first | refine brv_mk ?_ ?_ | refine gsplitD ?_ ?_ | refine gsplitG ?_ ?_) <;> intro h <;> (try simp only [Bool.not_eq_true', Bool.not_eq_false'] at h) <;> replace hb0 := h) | ((first | (with_reducible refine isCall (f := 26) ?_; refine callA_nil (by kernel_rfl) ?_) | (with_reducible refine isCall0 (f := 26) ?_; refine callA0_nil (by kernel_rfl) ?_)); refine (fmt_ok a _ g1 (okN_ofN n) (by omega) (fun M1 h1 => Stop.mk ?_))) | (refine And.intro ?ob ?_; case ob => ((try simp only [sxO, ne_eq, maxLen] at *); omega)) | fail) <;> (try simp (config := { maxSteps := 1000000 }) only [hb0, g1.one, bs_mk, bs_app, bs_ext, bs_size, bs_toList, bs_at, bs_cells, List.take_length, imp_ga, guard_pk, guard_pk2, ↓hold_pre, awayP, runOps, regK, step1, newK, genR, appR, obl, buildR, Value.cells, closeK, keepH, outV, retK, ret1, retC, RetV, Option.getD, runD, stepD, afterK, undef, simprocAttr, sxB, ↓sxD, sxE, sxTab]))
  have h1 : Mem.le M M1 := h1
  rw [fmtR_is hn]
  refine Stop.go ?_
  (replace hb0 := true_and True); refine Go1.mk ?_; repeat' ((first | (with_reducible refine Go1.go ?_) | ((with_reducible first | refine brv_mk ?_ ?_ | refine gsplitD ?_ ?_ | refine gsplitG ?_ ?_) <;> intro h <;> (try simp only [Bool.not_eq_true', Bool.not_eq_false'] at h) <;> replace hb0 := h) | ((first | (with_reducible refine isCall (f := 28) ?_; refine callA_nil (by kernel_rfl) ?_) | (with_reducible refine isCall0 (f := 28) ?_; refine callA0_nil (by kernel_rfl) ?_)); refine (nparse_dec hn (fun b M2 h2 g2 => Stop.mk ?_))) | (refine And.intro ?ob ?_; case ob => ((try simp only [sxO, ne_eq, maxLen] at *); omega)) | fail) <;> (try simp (config := { maxSteps := 1000000 }) only [hb0, g1.one, bs_mk, bs_app, bs_ext, bs_size, bs_toList, bs_at, bs_cells, List.take_length, imp_ga, guard_pk, guard_pk2, ↓hold_pre, awayP, runOps, regK, step1, newK, genR, appR, obl, buildR, Value.cells, closeK, keepH, outV, retK, ret1, retC, RetV, Option.getD, runD, stepD, afterK, undef, simprocAttr, sxB, ↓sxD, sxE, sxTab]))
  have h2 : Mem.le M1 M2 := h2
  refine Stop.go ?_
  (replace hb0 := true_and True); refine Go1.mk ?_; repeat' ((first | (with_reducible refine Go1.go ?_) | ((with_reducible first | refine brv_mk ?_ ?_ | refine gsplitD ?_ ?_ | refine gsplitG ?_ ?_) <;> intro h <;> (try simp only [Bool.not_eq_true', Bool.not_eq_false'] at h) <;> replace hb0 := h) | ((first | (with_reducible refine isCall (f := 13) ?_; refine callA_nil (by kernel_rfl) ?_) | (with_reducible refine isCall0 (f := 13) ?_; refine callA0_nil (by kernel_rfl) ?_)); refine (natOf_ok 1 (by decide) (fun o M3 h3 g3 _ => Stop.mk ?_))) | (refine And.intro ?ob ?_; case ob => ((try simp only [sxO, ne_eq, maxLen] at *); omega)) | fail) <;> (try simp (config := { maxSteps := 1000000 }) only [hb0, g1.one, g2.one, bs_mk, bs_app, bs_ext, bs_size, bs_toList, bs_at, bs_cells, List.take_length, imp_ga, guard_pk, guard_pk2, ↓hold_pre, awayP, runOps, regK, step1, newK, genR, appR, obl, buildR, Value.cells, closeK, keepH, outV, retK, ret1, retC, RetV, Option.getD, runD, stepD, afterK, undef, simprocAttr, sxB, ↓sxD, sxE, sxTab]))
  have h3 : Mem.le M2 M3 := h3
  have g1' := ((g1.le h1).le h2).le h3
  refine Stop.go ?_
  (replace hb0 := true_and True); refine Go1.mk ?_; repeat' ((first | (with_reducible refine Go1.go ?_) | ((with_reducible first | refine brv_mk ?_ ?_ | refine gsplitD ?_ ?_ | refine gsplitG ?_ ?_) <;> intro h <;> (try simp only [Bool.not_eq_true', Bool.not_eq_false'] at h) <;> replace hb0 := h) | ((first | (with_reducible refine isCall (f := 30) ?_; refine callA_nil (by kernel_rfl) ?_) | (with_reducible refine isCall0 (f := 30) ?_; refine callA0_nil (by kernel_rfl) ?_)); refine (nadd_one hn g1' g3 hn1 (fun c M4 h4 g4 => Stop.mk ?_))) | (refine And.intro ?ob ?_; case ob => ((try simp only [sxO, ne_eq, maxLen] at *); omega)) | fail) <;> (try simp (config := { maxSteps := 1000000 }) only [hb0, g1.one, g2.one, g3.one, bs_mk, bs_app, bs_ext, bs_size, bs_toList, bs_at, bs_cells, List.take_length, imp_ga, guard_pk, guard_pk2, ↓hold_pre, awayP, runOps, regK, step1, newK, genR, appR, obl, buildR, Value.cells, closeK, keepH, outV, retK, ret1, retC, RetV, Option.getD, runD, stepD, afterK, undef, simprocAttr, sxB, ↓sxD, sxE, sxTab]))
  have h4 : Mem.le M3 M4 := h4
  have p1 := g1'.le h4
  have p2 := (g2.le h3).le h4
  have c1 : cmpR (ofN n) (ofN (n + 1)) = -1 := by
    unfold cmpR
    rw [chkN_ofN (by omega), chkN_ofN (by omega), Bool.and_self, if_pos rfl, valN_ofN, valN_ofN, cmpN_lt (by omega)]
  have c2 : cmpR (ofN (n + 1)) (ofN n) = 1 := by
    unfold cmpR
    rw [chkN_ofN (by omega), chkN_ofN (by omega), Bool.and_self, if_pos rfl, valN_ofN, valN_ofN, cmpN_gt (by omega)]
  have c3 := bitsR_is (n := n) (by omega)
  have c4 := bitsR_is (n := n + 1) (by omega)
  have d1 : decide ((blen n : Int) ≤ (blen (n + 1) : Int)) = true := by
    have := blen_mono (show n ≤ n + 1 by omega)
    rw [decide_eq_true_eq]; omega
  refine Stop.go ?_
  (replace hb0 := true_and True); refine Go1.mk ?_; repeat' ((first | (with_reducible refine Go1.go ?_) | ((with_reducible first | refine brv_mk ?_ ?_ | refine gsplitD ?_ ?_ | refine gsplitG ?_ ?_) <;> intro h <;> (try simp only [Bool.not_eq_true', Bool.not_eq_false'] at h) <;> replace hb0 := h) | ((first | (with_reducible refine isCall (f := 12) ?_; refine callA_nil (by kernel_rfl) ?_) | (with_reducible refine isCall0 (f := 12) ?_; refine callA0_nil (by kernel_rfl) ?_)); refine (sameNat_ok a b (ofN n) p1 p2 (by omega) ?_)) | ((first | (with_reducible refine isCall (f := 19) ?_; refine callA_nil (by kernel_rfl) ?_) | (with_reducible refine isCall0 (f := 19) ?_; refine callA0_nil (by kernel_rfl) ?_)); refine (natCmp_ok p1 g4 (okN_ofN _) (okN_ofN _) (by omega) (by omega) ?_)) | ((first | (with_reducible refine isCall (f := 19) ?_; refine callA_nil (by kernel_rfl) ?_) | (with_reducible refine isCall0 (f := 19) ?_; refine callA0_nil (by kernel_rfl) ?_)); refine (natCmp_ok g4 p1 (okN_ofN _) (okN_ofN _) (by omega) (by omega) ?_)) | ((first | (with_reducible refine isCall (f := 17) ?_; refine callA_nil (by kernel_rfl) ?_) | (with_reducible refine isCall0 (f := 17) ?_; refine callA0_nil (by kernel_rfl) ?_)); refine (natBits_ok g4 (okN_ofN _) (by omega) ?_)) | ((first | (with_reducible refine isCall (f := 17) ?_; refine callA_nil (by kernel_rfl) ?_) | (with_reducible refine isCall0 (f := 17) ?_; refine callA0_nil (by kernel_rfl) ?_)); refine (natBits_ok p1 (okN_ofN _) (by omega) ?_)) | ((first | (with_reducible refine isCall (f := 21) ?_; refine callA_nil (by kernel_rfl) ?_) | (with_reducible refine isCall0 (f := 21) ?_; refine callA0_nil (by kernel_rfl) ?_)); refine (awake_ok (fun M5 h5 => Stop.mk ?_))) | (refine And.intro ?ob ?_; case ob => ((try simp only [sxO, ne_eq, maxLen] at *); omega)) | fail) <;> (try simp (config := { maxSteps := 1000000 }) only [hb0, p1.one, p2.one, g4.one, c1, c2, c3, c4, d1, bs_mk, bs_app, bs_ext, bs_size, bs_toList, bs_at, bs_cells, List.take_length, imp_ga, guard_pk, guard_pk2, ↓hold_pre, awayP, runOps, regK, step1, newK, genR, appR, obl, buildR, Value.cells, closeK, keepH, outV, retK, ret1, retC, RetV, Option.getD, runD, stepD, afterK, undef, simprocAttr, sxB, ↓sxD, sxE, sxTab]))
  have h5 : Mem.le M4 M5 := h5
  refine Stop.go ?_
  (replace hb0 := true_and True); refine Go1.mk ?_; repeat' ((first | (with_reducible refine Go1.go ?_) | ((with_reducible first | refine brv_mk ?_ ?_ | refine gsplitD ?_ ?_ | refine gsplitG ?_ ?_) <;> intro h <;> (try simp only [Bool.not_eq_true', Bool.not_eq_false'] at h) <;> replace hb0 := h) | (refine And.intro ?ob ?_; case ob => ((try simp only [sxO, ne_eq, maxLen] at *); omega)) | fail) <;> (try simp (config := { maxSteps := 1000000 }) only [hb0, bs_mk, bs_app, bs_ext, bs_size, bs_toList, bs_at, bs_cells, List.take_length, imp_ga, guard_pk, guard_pk2, ↓hold_pre, awayP, runOps, regK, step1, newK, genR, appR, obl, buildR, Value.cells, closeK, keepH, outV, retK, ret1, retC, RetV, Option.getD, runD, stepD, afterK, undef, simprocAttr, sxB, ↓sxD, sxE, sxTab]))
  exact hK _ ((((h1.trans h2).trans h3).trans h4).trans h5)
end
end Go.Proofs.YtlndhpljajlneaaDoor.Sx
