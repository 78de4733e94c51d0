import Derived.Test.YtlndhpljajlneaaDoorRefE
import Derived.Test.YtlndhpljajlneaaDoorFmt
import Derived.Test.YtlndhpljajlneaaDoorByt
/- Numbers: the reference writes the digits of a number. -/
namespace Go.Proofs.YtlndhpljajlneaaDoor.Sx
open Go Go.RowKit
set_option linter.unusedVariables false
set_option linter.unusedSimpArgs false
set_option maxRecDepth 100000
set_option maxHeartbeats 8000000
attribute [local congr] fin_congr finG_congr stepG_congr step1_congr runOps_congr brv_congr obl_congr condK_congr LoopK_congr seqK_congr CutK_congr vc_congr DrawK_congr regK_congr CallK_congr AskK_congr newK_congr retC_congr ret1_congr retK_congr outV_congr closeK_congr genR_congr appR_congr finD_congr finGD_congr stepGD_congr stepD_congr CallK0_congr runD_congr okR_congr CallS_congr vcX_congr
attribute [local congr] Stop_congr
theorem dg_u8 {q : Nat} (h : q < 10) : IntKind.u64.wrap (48 + (q : Int)) = ((48 + q : Nat) : Int) ∧ IntKind.u8.wrap ((48 + q : Nat) : Int) = ((dgB q).toNat : Int) := by
  have : q = 0 ∨ q = 1 ∨ q = 2 ∨ q = 3 ∨ q = 4 ∨ q = 5 ∨ q = 6 ∨ q = 7 ∨ q = 8 ∨ q = 9 := by omega
  rcases this with rfl | rfl | rfl | rfl | rfl | rfl | rfl | rfl | rfl | rfl <;> decide
/-- how far a list is turned round -/
structure RevI (R O L : List UInt8) (i : Nat) : Prop where
  ln : L.length = O.length
  at1 : ∀ j (h : j < L.length) (h2 : j < R.length), (j < i ∨ O.length - i ≤ j) → L[j] = R[j]
  at2 : ∀ j (h : j < L.length) (h2 : j < O.length), ¬ (j < i ∨ O.length - i ≤ j) → L[j] = O[j]
theorem rev_start (O : List UInt8) : RevI O.reverse O O 0 := ⟨rfl, fun j h h2 h3 => by omega, fun j h h2 h3 => rfl⟩
theorem rev_end {O L : List UInt8} {i : Nat} (h : RevI O.reverse O L i) (hi : O.length ≤ 2 * i + 1) : L = O.reverse := by
  have hl := h.ln
  refine List.ext_getElem (by rw [List.length_reverse]; exact hl) fun j h1 h2 => ?_
  by_cases hc : j < i ∨ O.length - i ≤ j
  · exact h.at1 j h1 h2 hc
  · have hj : j = O.length - 1 - j := by omega
    rw [h.at2 j h1 (by omega) hc, List.getElem_reverse]
    simp only [← hj]
theorem rev_step {O L : List UInt8} {i k : Nat} (h : RevI O.reverse O L i) (hk : k + 1 + i = O.length) (hi : i < k) (hiL : i < L.length) (hkL : k < L.length) : RevI O.reverse O ((L.set i L[k]).set k L[i]) (i + 1) := by
  have hl := h.ln
  have e1 : L[k] = O[k]'(by omega) := h.at2 k hkL (by omega) (by omega)
  have e2 : L[i] = O[i]'(by omega) := h.at2 i hiL (by omega) (by omega)
  refine ⟨by simp [hl], fun j hj h2 hc => ?_, fun j hj h2 hc => ?_⟩
  · rw [List.getElem_set, List.getElem_set, List.getElem_reverse]
    have hj2 : j < L.length := by simpa using hj
    by_cases h3 : k = j
    · subst h3
      have : O.length - 1 - k = i := by omega
      simp only [↓reduceIte, this, e2]
    · by_cases h4 : i = j
      · subst h4
        have : O.length - 1 - i = k := by omega
        simp only [h3, ↓reduceIte, this, e1]
      · have := h.at1 j hj2 h2 (by omega)
        rw [List.getElem_reverse] at this
        simp only [h3, h4, ↓reduceIte, this]
  · have hj2 : j < L.length := by simpa using hj
    rw [List.getElem_set, List.getElem_set, if_neg (by omega), if_neg (by omega)]
    exact h.at2 j hj2 h2 (by omega)
section
variable {M : Mem} {K : AV → Hp → Mem → Prop}
theorem u8_at {L : List UInt8} {i : Nat} (h : i < L.length) : (cE u8V L)[i]? = some (.ext (.int .u8 (L[i].toNat : Int))) := by
  unfold cE
  rw [List.getElem?_map, List.getElem?_map, List.getElem?_eq_getElem h]; rfl
theorem u8_set (L : List UInt8) (i : Nat) (b : UInt8) : (cE u8V L).set i (.ext (.int .u8 (b.toNat : Int))) = cE u8V (L.set i b) := by
  unfold cE
  rw [List.map_set, List.map_set]; rfl
def rvSt (M : Mem) (n i : Nat) (L : List UInt8) : St := { env := [(7, .ext (.int .i64 ((n : Int) - 1 - (i : Int)))), (6, .ext (.int .i64 (i : Int))), (3, .slo 24 0 n 1)], hp := [(24, 5, cE u8V L)], M := M, kb := 0, fx := [] }
def dtSt (M : Mem) (w : Value) (n : Nat) (out : List UInt8) : St := { env := [(0, .ext w), (3, .slo 24 0 n 1)], hp := [(24, 5, cE u8V out)], M := M, kb := 0, fx := [] }
theorem rdigits_ok (u : Value) (x : Nat) (hu : IsL M u32V u (ofN x)) (hx : (ofN x).length < 1000000) (hd : (dec x).length < 100000) (hK : ∀ M', Mem.le M M' → K (.ext (.string (bs (decB x)))) [] M') : CallS Tryd.prog 51 [.ext u] [] M [] K := by
  refine inlS (cs := []) Tryd.mixed Tryd.func51 rfl (by kernel_rfl) 0 rfl rfl ?_
  simp only [Tryd.f51]
  by_cases h0 : x = 0
  · subst h0
    have d1 : decide (((ofN 0).length : Int) = 0) = true := by rw [ofN_zero]; rfl
    (replace hb0 := true_and True); refine Go1.mk ?_; repeat' ((first | (with_reducible refine Go1.go ?_) | ((with_reducible first | refine brv_mk ?_ ?_ | refine gsplitD ?_ ?_ | refine gsplitG ?_ ?_) <;> intro h <;> (try simp only [Bool.not_eq_true', Bool.not_eq_false'] at h) <;> replace hb0 := h) | ((with_reducible refine isDraw [some 36, some 37, some 38, some 39, some 40, some 41, some 42, some 43, some 44, some 45, some 46, some 47, some 48, none, some 49, none] (by decide) ?_); refine draw_rule [(0, []), (1, []), (2, []), (3, []), (4, []), (5, []), (6, []), (7, []), (8, [7]), (9, [7]), (10, [7]), (11, [7]), (12, []), (13, []), (14, []), (15, [])] [[], [], [], [], [], [], [4, 5], [4, 5, 6], [], [], [8, 9], [8, 9, 10], [0, 1, 4, 5, 6, 7, 8, 9, 10, 11], [0, 1, 4, 5, 6, 7, 8, 9, 10, 11, 12], [0, 1, 2, 3, 4, 5, 6, 7, 8, 9, 10, 11, 12, 13], [0, 1, 2, 3, 4, 5, 6, 7, 8, 9, 10, 11, 12, 13, 14]] [36, 37, 38, 39, 40, 41, 42, 43, 44, 45, 46, 47, 48] [] (by kernel_rfl) (by kernel_rfl) (by kernel_rfl) (by kernel_rfl) (by exact trivial) ?_) | (refine And.intro ?ob ?_; case ob => ((try simp only [sxO, ne_eq, maxLen] at *); omega)) | fail) <;> (try simp (config := { maxSteps := 1000000 }) only [hb0, hu.one, hu.len, hu.sl, d1, bs_mk, bs_app, bs_ext, bs_size, bs_toList, bs_at, bs_cells, List.take_length, imp_ga, guard_pk, guard_pk2, ↓hold_pre, awayP, runOps, regK, step1, newK, genR, appR, obl, buildR, Value.cells, closeK, keepH, outV, retK, ret1, retC, RetV, Option.getD, runD, stepD, afterK, undef, simprocAttr, sxB, ↓sxD, sxE, sxTab]))
    exact hK _ (Mem.le.refl _)
  have hl1 : 0 < (ofN x).length := by
    rcases Nat.eq_zero_or_pos (ofN x).length with h | h
    · have := ofN_nil.1 (List.length_eq_zero_iff.1 h); omega
    · exact h
  have d1 : decide (((ofN x).length : Int) = 0) = false := by rw [decide_eq_false_iff_not]; omega
  (replace hb0 := true_and True); refine Go1.mk ?_; repeat' ((first | (with_reducible refine Go1.go ?_) | ((with_reducible first | refine brv_mk ?_ ?_ | refine gsplitD ?_ ?_ | refine gsplitG ?_ ?_) <;> intro h <;> (try simp only [Bool.not_eq_true', Bool.not_eq_false'] at h) <;> replace hb0 := h) | ((with_reducible refine isDraw [some 36, some 37, some 38, some 39, some 40, some 41, some 42, some 43, some 44, some 45, some 46, some 47, some 48, none, some 49, none] (by decide) ?_); refine draw_rule [(0, []), (1, []), (2, []), (3, []), (4, []), (5, []), (6, []), (7, []), (8, [7]), (9, [7]), (10, [7]), (11, [7]), (12, []), (13, []), (14, []), (15, [])] [[], [], [], [], [], [], [4, 5], [4, 5, 6], [], [], [8, 9], [8, 9, 10], [0, 1, 4, 5, 6, 7, 8, 9, 10, 11], [0, 1, 4, 5, 6, 7, 8, 9, 10, 11, 12], [0, 1, 2, 3, 4, 5, 6, 7, 8, 9, 10, 11, 12, 13], [0, 1, 2, 3, 4, 5, 6, 7, 8, 9, 10, 11, 12, 13, 14]] [36, 37, 38, 39, 40, 41, 42, 43, 44, 45, 46, 47, 48] [] (by kernel_rfl) (by kernel_rfl) (by kernel_rfl) (by kernel_rfl) (by exact trivial) ?_) | (refine And.intro ?ob ?_; case ob => ((try simp only [sxO, ne_eq, maxLen] at *); omega)) | fail) <;> (try simp (config := { maxSteps := 1000000 }) only [hb0, hu.one, hu.len, hu.sl, d1, bs_mk, bs_app, bs_ext, bs_size, bs_toList, bs_at, bs_cells, List.take_length, imp_ga, guard_pk, guard_pk2, ↓hold_pre, awayP, runOps, regK, step1, newK, genR, appR, obl, buildR, Value.cells, closeK, keepH, outV, retK, ret1, retC, RetV, Option.getD, runD, stepD, afterK, undef, simprocAttr, sxB, ↓sxD, sxE, sxTab]))
  have hbs : ∀ out : List UInt8, out.length ≤ (dec x).length → out.length < 100000 := fun out h => by omega
  refine ⟨fun d z => ∃ M' w r out, r = d ∧ Mem.le M M' ∧ IsL M' u32V w (ofN r) ∧ (ofN r).length < 1000000 ∧ dec r ++ out.reverse = dec x ∧ z = dtSt M' w out.length out,
    ⟨x, dtSt M u 0 [], (le_nil 3 24 5 1 rfl (.inl rfl)).trans (le_sub ⟨rfl, rfl, trivial⟩ ⟨rfl, trivial⟩ rfl rfl rfl (keepLt0 _)), ⟨M, u, x, [], rfl, Mem.le.refl _, hu, hx, by simp, rfl⟩⟩, ?_⟩
  clear hu hl1 d1
  rintro d z ⟨M1, w, r, out, rfl, hM1, hw, hwl, hdx, rfl⟩
  have hol : out.length < 100000 := hbs out (by rw [← hdx, List.length_append, List.length_reverse]; omega)
  by_cases hr : r = 0
  case neg =>
    have hl2 : 0 < (ofN r).length := by
      rcases Nat.eq_zero_or_pos (ofN r).length with h | h
      · have := ofN_nil.1 (List.length_eq_zero_iff.1 h); omega
      · exact h
    have d2 : decide ((0 : Int) < ((ofN r).length : Int)) = true := by rw [decide_eq_true_eq]; omega
    obtain ⟨wd1, wd2⟩ := dg_u8 (q := r % 10) (by omega)
    (replace hb0 := true_and True); refine Go1.mk ?_; repeat' ((first | (with_reducible refine Go1.go ?_) | ((with_reducible first | refine brv_mk ?_ ?_ | refine gsplitD ?_ ?_ | refine gsplitG ?_ ?_) <;> intro h <;> (try simp only [Bool.not_eq_true', Bool.not_eq_false'] at h) <;> replace hb0 := h) | ((first | (with_reducible refine isCall (f := 75) ?_; refine callA_nil (by kernel_rfl) ?_) | (with_reducible refine isCall0 (f := 75) ?_; refine callA0_nil (by kernel_rfl) ?_)); refine (rsmall_ok w r 10 hw (by omega) (by omega) (by omega) (fun w2 M2 a1 a2 a3 => Stop.mk ?_))) | ((with_reducible refine isDraw [some 36, some 37, some 38, some 39, some 40, some 41, some 42, some 43, some 44, some 45, some 46, some 47, some 48, none, some 49, none] (by decide) ?_); refine draw_rule [(0, []), (1, []), (2, []), (3, []), (4, []), (5, []), (6, []), (7, []), (8, [7]), (9, [7]), (10, [7]), (11, [7]), (12, []), (13, []), (14, []), (15, [])] [[], [], [], [], [], [], [4, 5], [4, 5, 6], [], [], [8, 9], [8, 9, 10], [0, 1, 4, 5, 6, 7, 8, 9, 10, 11], [0, 1, 4, 5, 6, 7, 8, 9, 10, 11, 12], [0, 1, 2, 3, 4, 5, 6, 7, 8, 9, 10, 11, 12, 13], [0, 1, 2, 3, 4, 5, 6, 7, 8, 9, 10, 11, 12, 13, 14]] [36, 37, 38, 39, 40, 41, 42, 43, 44, 45, 46, 47, 48] [] (by kernel_rfl) (by kernel_rfl) (by kernel_rfl) (by kernel_rfl) (by exact trivial) ?_) | (refine And.intro ?ob ?_; case ob => ((try simp only [sxO, ne_eq, maxLen] at *); omega)) | fail) <;> (try simp (config := { maxSteps := 1000000 }) only [hb0, dtSt, hw.one, hw.len, hw.sl, d2, bs_mk, bs_app, bs_ext, bs_size, bs_toList, bs_at, bs_cells, List.take_length, imp_ga, guard_pk, guard_pk2, ↓hold_pre, awayP, runOps, regK, step1, newK, genR, appR, obl, buildR, Value.cells, closeK, keepH, outV, retK, ret1, retC, RetV, Option.getD, runD, stepD, afterK, undef, simprocAttr, sxB, ↓sxD, sxE, sxTab]))
    refine Stop.go ?_
    (replace hb0 := true_and True); refine Go1.mk ?_; repeat' ((first | (with_reducible refine Go1.go ?_) | ((with_reducible first | refine brv_mk ?_ ?_ | refine gsplitD ?_ ?_ | refine gsplitG ?_ ?_) <;> intro h <;> (try simp only [Bool.not_eq_true', Bool.not_eq_false'] at h) <;> replace hb0 := h) | ((with_reducible refine isDraw [some 36, some 37, some 38, some 39, some 40, some 41, some 42, some 43, some 44, some 45, some 46, some 47, some 48, none, some 49, none] (by decide) ?_); refine draw_rule [(0, []), (1, []), (2, []), (3, []), (4, []), (5, []), (6, []), (7, []), (8, [7]), (9, [7]), (10, [7]), (11, [7]), (12, []), (13, []), (14, []), (15, [])] [[], [], [], [], [], [], [4, 5], [4, 5, 6], [], [], [8, 9], [8, 9, 10], [0, 1, 4, 5, 6, 7, 8, 9, 10, 11], [0, 1, 4, 5, 6, 7, 8, 9, 10, 11, 12], [0, 1, 2, 3, 4, 5, 6, 7, 8, 9, 10, 11, 12, 13], [0, 1, 2, 3, 4, 5, 6, 7, 8, 9, 10, 11, 12, 13, 14]] [36, 37, 38, 39, 40, 41, 42, 43, 44, 45, 46, 47, 48] [] (by kernel_rfl) (by kernel_rfl) (by kernel_rfl) (by kernel_rfl) (by exact trivial) ?_) | (refine And.intro ?ob ?_; case ob => ((try simp only [sxO, ne_eq, maxLen] at *); omega)) | fail) <;> (try simp (config := { maxSteps := 1000000 }) only [hb0, cE_ment, cE_len, cE_kill, hasK_nil, Nat.mul_one, maxLen, u8_snoc, wd1, wd2, a2.one, bs_mk, bs_app, bs_ext, bs_size, bs_toList, bs_at, bs_cells, List.take_length, imp_ga, guard_pk, guard_pk2, ↓hold_pre, awayP, runOps, regK, step1, newK, genR, appR, obl, buildR, Value.cells, closeK, keepH, outV, retK, ret1, retC, RetV, Option.getD, runD, stepD, afterK, undef, simprocAttr, sxB, ↓sxD, sxE, sxTab]))
    have hlen := len_mono (Nat.div_le_self r 10)
    exact ⟨r / 10, dtSt M2 w2 (out.length + 1) (out ++ [dgB (r % 10)]), by omega, le_sub ⟨rfl, rfl, trivial⟩ ⟨rfl, trivial⟩ rfl rfl rfl (keepLt0 _), M2, w2, r / 10, out ++ [dgB (r % 10)], rfl, hM1.trans a1, a2, by omega, by
      rw [dec_pos hr] at hdx
      rw [List.reverse_append, ← hdx]; simp, by rw [List.length_append]; rfl⟩
  subst hr
  have d2 : decide ((0 : Int) < ((ofN 0).length : Int)) = false := by rw [ofN_zero]; rfl
  rw [dec_zero, List.nil_append] at hdx
  (replace hb0 := true_and True); refine Go1.mk ?_; repeat' ((first | (with_reducible refine Go1.go ?_) | ((with_reducible first | refine brv_mk ?_ ?_ | refine gsplitD ?_ ?_ | refine gsplitG ?_ ?_) <;> intro h <;> (try simp only [Bool.not_eq_true', Bool.not_eq_false'] at h) <;> replace hb0 := h) | ((with_reducible refine isDraw [some 36, some 37, some 38, some 39, some 40, some 41, some 42, some 43, some 44, some 45, some 46, some 47, some 48, none, some 49, none] (by decide) ?_); refine draw_rule [(0, []), (1, []), (2, []), (3, []), (4, []), (5, []), (6, []), (7, []), (8, [7]), (9, [7]), (10, [7]), (11, [7]), (12, []), (13, []), (14, []), (15, [])] [[], [], [], [], [], [], [4, 5], [4, 5, 6], [], [], [8, 9], [8, 9, 10], [0, 1, 4, 5, 6, 7, 8, 9, 10, 11], [0, 1, 4, 5, 6, 7, 8, 9, 10, 11, 12], [0, 1, 2, 3, 4, 5, 6, 7, 8, 9, 10, 11, 12, 13], [0, 1, 2, 3, 4, 5, 6, 7, 8, 9, 10, 11, 12, 13, 14]] [36, 37, 38, 39, 40, 41, 42, 43, 44, 45, 46, 47, 48] [] (by kernel_rfl) (by kernel_rfl) (by kernel_rfl) (by kernel_rfl) (by exact trivial) ?_) | (refine And.intro ?ob ?_; case ob => ((try simp only [sxO, ne_eq, maxLen] at *); omega)) | fail) <;> (try simp (config := { maxSteps := 1000000 }) only [hb0, dtSt, hw.one, hw.len, hw.sl, d2, bs_mk, bs_app, bs_ext, bs_size, bs_toList, bs_at, bs_cells, List.take_length, imp_ga, guard_pk, guard_pk2, ↓hold_pre, awayP, runOps, regK, step1, newK, genR, appR, obl, buildR, Value.cells, closeK, keepH, outV, retK, ret1, retC, RetV, Option.getD, runD, stepD, afterK, undef, simprocAttr, sxB, ↓sxD, sxE, sxTab]))
  have w1 : IntKind.i64.wrap ((out.length : Int) - 1) = (out.length : Int) - 1 - ((0 : Nat) : Int) := by rw [wrap_id (by omega) (by omega)]; simp
  generalize hn : out.length = n at *
  refine ⟨fun d z => ∃ i L, d = n - i ∧ RevI out.reverse out L i ∧ z = rvSt M1 n i L, ⟨n, rvSt M1 n 0 out, le_sub ⟨by rw [← w1]; rfl, rfl, rfl, trivial⟩ ⟨rfl, trivial⟩ rfl rfl rfl (keepLt0 _), ⟨0, out, rfl, rev_start out, rfl⟩⟩, ?_⟩
  rintro d z ⟨i, L, rfl, hI, rfl⟩
  have hL := hI.ln
  rw [hn] at hL
  by_cases hlt : 2 * i + 1 < n
  case neg =>
    have d3 : decide ((i : Int) < (n : Int) - 1 - (i : Int)) = false := by rw [decide_eq_false_iff_not]; omega
    have e := rev_end hI (by omega)
    have ed : decB x = L := by unfold decB; rw [if_neg h0, ← hdx, e]
    (replace hb0 := true_and True); refine Go1.mk ?_; repeat' ((first | (with_reducible refine Go1.go ?_) | ((with_reducible first | refine brv_mk ?_ ?_ | refine gsplitD ?_ ?_ | refine gsplitG ?_ ?_) <;> intro h <;> (try simp only [Bool.not_eq_true', Bool.not_eq_false'] at h) <;> replace hb0 := h) | ((with_reducible refine isDraw [some 36, some 37, some 38, some 39, some 40, some 41, some 42, some 43, some 44, some 45, some 46, some 47, some 48, none, some 49, none] (by decide) ?_); refine draw_rule [(0, []), (1, []), (2, []), (3, []), (4, []), (5, []), (6, []), (7, []), (8, [7]), (9, [7]), (10, [7]), (11, [7]), (12, []), (13, []), (14, []), (15, [])] [[], [], [], [], [], [], [4, 5], [4, 5, 6], [], [], [8, 9], [8, 9, 10], [0, 1, 4, 5, 6, 7, 8, 9, 10, 11], [0, 1, 4, 5, 6, 7, 8, 9, 10, 11, 12], [0, 1, 2, 3, 4, 5, 6, 7, 8, 9, 10, 11, 12, 13], [0, 1, 2, 3, 4, 5, 6, 7, 8, 9, 10, 11, 12, 13, 14]] [36, 37, 38, 39, 40, 41, 42, 43, 44, 45, 46, 47, 48] [] (by kernel_rfl) (by kernel_rfl) (by kernel_rfl) (by kernel_rfl) (by exact trivial) ?_) | (refine And.intro ?ob ?_; case ob => ((try simp only [sxO, ne_eq, maxLen] at *); omega)) | fail) <;> (try simp (config := { maxSteps := 1000000 }) only [hb0, rvSt, d3, cE_ment, cE_len, cE_kill, hasK_nil, Nat.mul_one, maxLen, bs_mk, bs_app, bs_ext, bs_size, bs_toList, bs_at, bs_cells, List.take_length, imp_ga, guard_pk, guard_pk2, ↓hold_pre, awayP, runOps, regK, step1, newK, genR, appR, obl, buildR, Value.cells, closeK, keepH, outV, retK, ret1, retC, RetV, Option.getD, runD, stepD, afterK, undef, simprocAttr, sxB, ↓sxD, sxE, sxTab]))
    refine ask_strOwn (E := 5) (k := 24) (l := L) (T0 := 5) rfl (by kernel_rfl) (by kernel_rfl) (by kernel_rfl) rfl rfl hL.symm ?_
    (replace hb0 := true_and True); refine Go1.mk ?_; repeat' ((first | (with_reducible refine Go1.go ?_) | ((with_reducible first | refine brv_mk ?_ ?_ | refine gsplitD ?_ ?_ | refine gsplitG ?_ ?_) <;> intro h <;> (try simp only [Bool.not_eq_true', Bool.not_eq_false'] at h) <;> replace hb0 := h) | ((with_reducible refine isDraw [some 36, some 37, some 38, some 39, some 40, some 41, some 42, some 43, some 44, some 45, some 46, some 47, some 48, none, some 49, none] (by decide) ?_); refine draw_rule [(0, []), (1, []), (2, []), (3, []), (4, []), (5, []), (6, []), (7, []), (8, [7]), (9, [7]), (10, [7]), (11, [7]), (12, []), (13, []), (14, []), (15, [])] [[], [], [], [], [], [], [4, 5], [4, 5, 6], [], [], [8, 9], [8, 9, 10], [0, 1, 4, 5, 6, 7, 8, 9, 10, 11], [0, 1, 4, 5, 6, 7, 8, 9, 10, 11, 12], [0, 1, 2, 3, 4, 5, 6, 7, 8, 9, 10, 11, 12, 13], [0, 1, 2, 3, 4, 5, 6, 7, 8, 9, 10, 11, 12, 13, 14]] [36, 37, 38, 39, 40, 41, 42, 43, 44, 45, 46, 47, 48] [] (by kernel_rfl) (by kernel_rfl) (by kernel_rfl) (by kernel_rfl) (by exact trivial) ?_) | (refine And.intro ?ob ?_; case ob => ((try simp only [sxO, ne_eq, maxLen] at *); omega)) | fail) <;> (try simp (config := { maxSteps := 1000000 }) only [hb0, rvSt, St.put, bs_mk, bs_app, bs_ext, bs_size, bs_toList, bs_at, bs_cells, List.take_length, imp_ga, guard_pk, guard_pk2, ↓hold_pre, awayP, runOps, regK, step1, newK, genR, appR, obl, buildR, Value.cells, closeK, keepH, outV, retK, ret1, retC, RetV, Option.getD, runD, stepD, afterK, undef, simprocAttr, sxB, ↓sxD, sxE, sxTab]))
    rw [← ed]
    exact hK _ hM1
  obtain ⟨k, hk⟩ : ∃ k, k + 1 + i = n := ⟨n - 1 - i, by omega⟩
  have ek : (n : Int) - 1 - (i : Int) = (k : Int) := by omega
  have d3 : decide ((i : Int) < (k : Int)) = true := by rw [decide_eq_true_eq]; omega
  have hiL : i < L.length := by omega
  have hkL : k < L.length := by omega
  have hat := u8_at hiL
  have hat2 := u8_at hkL
  have hst := rev_step hI (k := k) (by omega) (by omega) hiL hkL
  generalize L[i] = p at *
  generalize L[k] = q at *
  have s1 := u8_set L i q
  have s2 := u8_set (L.set i q) k p
  have d4 : (0 : Int) ≤ (i : Int) := by omega
  have d5 : (i : Int) < (n : Int) := by omega
  have d6 : (0 : Int) ≤ (k : Int) := by omega
  have d7 : (k : Int) < (n : Int) := by omega
  have d8 : (i < L.length) = True := by simp; omega
  have d9 : (k < L.length) = True := by simp; omega
  have w2 : IntKind.i64.wrap ((i : Int) + 1) = ((i + 1 : Nat) : Int) := succ_i (by omega)
  have w3 : IntKind.i64.wrap ((k : Int) - 1) = (n : Int) - 1 - ((i + 1 : Nat) : Int) := by rw [wrap_id (by omega) (by omega)]; omega
  (replace hb0 := true_and True); refine Go1.mk ?_; repeat' ((first | (with_reducible refine Go1.go ?_) | ((with_reducible first | refine brv_mk ?_ ?_ | refine gsplitD ?_ ?_ | refine gsplitG ?_ ?_) <;> intro h <;> (try simp only [Bool.not_eq_true', Bool.not_eq_false'] at h) <;> replace hb0 := h) | ((with_reducible refine isDraw [some 36, some 37, some 38, some 39, some 40, some 41, some 42, some 43, some 44, some 45, some 46, some 47, some 48, none, some 49, none] (by decide) ?_); refine draw_rule [(0, []), (1, []), (2, []), (3, []), (4, []), (5, []), (6, []), (7, []), (8, [7]), (9, [7]), (10, [7]), (11, [7]), (12, []), (13, []), (14, []), (15, [])] [[], [], [], [], [], [], [4, 5], [4, 5, 6], [], [], [8, 9], [8, 9, 10], [0, 1, 4, 5, 6, 7, 8, 9, 10, 11], [0, 1, 4, 5, 6, 7, 8, 9, 10, 11, 12], [0, 1, 2, 3, 4, 5, 6, 7, 8, 9, 10, 11, 12, 13], [0, 1, 2, 3, 4, 5, 6, 7, 8, 9, 10, 11, 12, 13, 14]] [36, 37, 38, 39, 40, 41, 42, 43, 44, 45, 46, 47, 48] [] (by kernel_rfl) (by kernel_rfl) (by kernel_rfl) (by kernel_rfl) (by exact trivial) ?_) | (refine And.intro ?ob ?_; case ob => ((try simp only [sxO, ne_eq, maxLen] at *); omega)) | fail) <;> (try simp (config := { maxSteps := 1000000 }) only [hb0, rvSt, ek, d3, d4, d5, d6, d7, d8, d9, hat, hat2, s1, s2, w2, w3, List.length_set, cE_ment, cE_len, cE_kill, hasK_nil, Nat.mul_one, maxLen, bs_mk, bs_app, bs_ext, bs_size, bs_toList, bs_at, bs_cells, List.take_length, imp_ga, guard_pk, guard_pk2, ↓hold_pre, awayP, runOps, regK, step1, newK, genR, appR, obl, buildR, Value.cells, closeK, keepH, outV, retK, ret1, retC, RetV, Option.getD, runD, stepD, afterK, undef, simprocAttr, sxB, ↓sxD, sxE, sxTab]))
  exact ⟨n - (i + 1), rvSt M1 n (i + 1) _, by omega, le_sub ⟨rfl, rfl, rfl, trivial⟩ ⟨rfl, trivial⟩ rfl rfl rfl (keepLt0 _), i + 1, _, rfl, hst, rfl⟩
end
end Go.Proofs.YtlndhpljajlneaaDoor.Sx
