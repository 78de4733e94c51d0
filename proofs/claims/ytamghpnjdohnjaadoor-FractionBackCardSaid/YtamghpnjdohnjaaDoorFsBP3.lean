/- Part 38 of the texts of this claim: a symbolic executor and contracts of functions. -/
import Derived.Test.YtamghpnjdohnjaaDoorFsBP2
import Derived.Test.YtamghpnjdohnjaaDoorFsBCByt
import Derived.Shelf.Strings.Builder1
import Derived.Shelf.Small.Utf8
import Derived.Shelf.Small.Bits
import Derived.Shelf.Small.Strs
import Derived.Shelf.Strings.BuilderF
import Derived.Shelf.Strconv.Itoa0
import Derived.Shelf.Strings.Search1
import Derived.Shelf.Strings.Search2
import Derived.Shelf.Strings.Search3
import Derived.Shelf.Strings.Cut
import Derived.Shelf.LaysM
import Derived.Shelf.Strings.Shaped
import Derived.Shelf.Unicode.Decode
import Derived.Shelf.Strings.Runes
import Derived.Shelf.Strings.AsciiSet
import Derived.Shelf.Unicode.DecodeSlow
import Derived.Shelf.Unicode.DecodeAny
import Derived.Shelf.Unicode.DecodeLast
import Derived.Ground.SlgnProg
import Derived.Shelf.SlicesE.Clone
import Derived.Test.YtamghpnjdohnjaaDoorProg
namespace Go.Proofs.YtamghpnjdohnjaaDoor.Sx
open Go Go.RowKit
set_option linter.unusedVariables false
set_option linter.unusedSimpArgs false
set_option maxRecDepth 100000
set_option maxHeartbeats 8000000
attribute [local congr] fin_congr finG_congr stepG_congr step1_congr runOps_congr brv_congr obl_congr condK_congr LoopK_congr seqK_congr CutK_congr vc_congr DrawK_congr regK_congr CallK_congr AskK_congr newK_congr retC_congr ret1_congr retK_congr outV_congr closeK_congr genR_congr appR_congr finD_congr finGD_congr stepGD_congr stepD_congr CallK0_congr runD_congr okR_congr CallS_congr vcX_congr
attribute [local congr] Stop_congr
theorem dg_u8 {q : Nat} (h : q < 10) : IntKind.u64.wrap (48 + (q : Int)) = ((48 + q : Nat) : Int) ∧ IntKind.u8.wrap ((48 + q : Nat) : Int) = ((dgB q).toNat : Int) := by
  have : q = 0 ∨ q = 1 ∨ q = 2 ∨ q = 3 ∨ q = 4 ∨ q = 5 ∨ q = 6 ∨ q = 7 ∨ q = 8 ∨ q = 9 := by omega
  rcases this with rfl | rfl | rfl | rfl | rfl | rfl | rfl | rfl | rfl | rfl <;> decide
structure RevI (R O L : List UInt8) (i : Nat) : Prop where
  ln : L.length = O.length
  at1 : ∀ j (h : j < L.length) (h2 : j < R.length), (j < i ∨ O.length - i ≤ j) → L[j] = R[j]
  at2 : ∀ j (h : j < L.length) (h2 : j < O.length), ¬ (j < i ∨ O.length - i ≤ j) → L[j] = O[j]
theorem rev_start (O : List UInt8) : RevI O.reverse O O 0 := ⟨rfl, fun j h h2 h3 => by omega, fun j h h2 h3 => rfl⟩
theorem rev_end {O L : List UInt8} {i : Nat} (h : RevI O.reverse O L i) (hi : O.length ≤ 2 * i + 1) : L = O.reverse := by
  have hl := h.ln
  refine List.ext_getElem (by rw [List.length_reverse]; exact hl) fun j h1 h2 => ?_
  by_cases hc : j < i ∨ O.length - i ≤ j
  · exact h.at1 j h1 h2 hc
  · have hj : j = O.length - 1 - j := by omega
    rw [h.at2 j h1 (by omega) hc, List.getElem_reverse]
    simp only [← hj]
theorem rev_step {O L : List UInt8} {i k : Nat} (h : RevI O.reverse O L i) (hk : k + 1 + i = O.length) (hi : i < k) (hiL : i < L.length) (hkL : k < L.length) : RevI O.reverse O ((L.set i L[k]).set k L[i]) (i + 1) := by
  have hl := h.ln
  have e1 : L[k] = O[k]'(by omega) := h.at2 k hkL (by omega) (by omega)
  have e2 : L[i] = O[i]'(by omega) := h.at2 i hiL (by omega) (by omega)
  refine ⟨by simp [hl], fun j hj h2 hc => ?_, fun j hj h2 hc => ?_⟩
  · rw [List.getElem_set, List.getElem_set, List.getElem_reverse]
    have hj2 : j < L.length := by simpa using hj
    by_cases h3 : k = j
    · subst h3
      have : O.length - 1 - k = i := by omega
      simp only [↓reduceIte, this, e2]
    · by_cases h4 : i = j
      · subst h4
        have : O.length - 1 - i = k := by omega
        simp only [h3, ↓reduceIte, this, e1]
      · have := h.at1 j hj2 h2 (by omega)
        rw [List.getElem_reverse] at this
        simp only [h3, h4, ↓reduceIte, this]
  · have hj2 : j < L.length := by simpa using hj
    rw [List.getElem_set, List.getElem_set, if_neg (by omega), if_neg (by omega)]
    exact h.at2 j hj2 h2 (by omega)
section
variable {M : Mem} {K : AV → Hp → Mem → Prop}
theorem u8_at {L : List UInt8} {i : Nat} (h : i < L.length) : (cE u8V L)[i]? = some (.ext (.int .u8 (L[i].toNat : Int))) := by
  unfold cE
  rw [List.getElem?_map, List.getElem?_map, List.getElem?_eq_getElem h]; rfl
theorem u8_set (L : List UInt8) (i : Nat) (b : UInt8) : (cE u8V L).set i (.ext (.int .u8 (b.toNat : Int))) = cE u8V (L.set i b) := by
  unfold cE
  rw [List.map_set, List.map_set]; rfl
def rvSt (M : Mem) (n i : Nat) (L : List UInt8) : St := { env := [(7, .ext (.int .i64 ((n : Int) - 1 - (i : Int)))), (6, .ext (.int .i64 (i : Int))), (3, .slo 24 0 n 1)], hp := [(24, 5, cE u8V L)], M := M, kb := 0, fx := [] }
def dtSt (M : Mem) (w : Value) (n : Nat) (out : List UInt8) : St := { env := [(0, .ext w), (3, .slo 24 0 n 1)], hp := [(24, 5, cE u8V out)], M := M, kb := 0, fx := [] }
theorem rdigits_ok (u : Value) (x : Nat) (hu : IsL M u32V u (ofN x)) (hx : (ofN x).length < 1000000) (hd : (dec x).length < 100000) (hK : ∀ M', Mem.le M M' → K (.ext (.string (bs (decB x)))) [] M') : CallS Tryd.prog 84 [.ext u] [] M [] K := by
  refine inlS (cs := []) Tryd.mixed Tryd.func84 rfl (by kernel_rfl) 0 rfl rfl ?_
  simp only [Tryd.f84]
  by_cases h0 : x = 0
  · subst h0
    have d1 : decide (((ofN 0).length : Int) = 0) = true := by rw [ofN_zero]; rfl
    (replace hb0 := true_and True); refine Go1.mk ?_; repeat' ((first | (with_reducible refine Go1.go ?_) | ((with_reducible first | refine brv_mk ?_ ?_ | refine gsplitD ?_ ?_ | refine gsplitG ?_ ?_) <;> intro h <;> (try simp only [Bool.not_eq_true', Bool.not_eq_false'] at h) <;> replace hb0 := h) | ((with_reducible refine isDraw [some 36, some 37, some 38, some 39, some 40, some 41, some 42, some 43, some 44, some 45, some 46, some 47, some 48, none, some 49, none] (by decide) ?_); refine draw_rule [(0, []), (1, []), (2, []), (3, []), (4, []), (5, []), (6, []), (7, []), (8, [7]), (9, [7]), (10, [7]), (11, [7]), (12, []), (13, []), (14, []), (15, [])] [[], [], [], [], [], [], [4, 5], [4, 5, 6], [], [], [8, 9], [8, 9, 10], [0, 1, 4, 5, 6, 7, 8, 9, 10, 11], [0, 1, 4, 5, 6, 7, 8, 9, 10, 11, 12], [0, 1, 2, 3, 4, 5, 6, 7, 8, 9, 10, 11, 12, 13], [0, 1, 2, 3, 4, 5, 6, 7, 8, 9, 10, 11, 12, 13, 14]] [36, 37, 38, 39, 40, 41, 42, 43, 44, 45, 46, 47, 48] [] (by kernel_rfl) (by kernel_rfl) (by kernel_rfl) (by kernel_rfl) (by exact trivial) ?_) | (refine And.intro ?ob ?_; case ob => ((try simp only [sxO, ne_eq, maxLen] at *); omega)) | fail) <;> (try simp (config := { maxSteps := 1000000 }) only [hb0, hu.one, hu.len, hu.sl, d1, bs_mk, bs_app, bs_ext, bs_size, bs_toList, bs_at, bs_cells, List.take_length, imp_ga, guard_pk, guard_pk2, ↓hold_pre, awayP, runOps, regK, step1, newK, genR, appR, obl, buildR, Value.cells, closeK, keepH, outV, retK, ret1, retC, RetV, Option.getD, runD, stepD, afterK, undef, simprocAttr, sxB, ↓sxD, sxE, sxTab]))
    exact hK _ (Mem.le.refl _)
  have hl1 : 0 < (ofN x).length := by
    rcases Nat.eq_zero_or_pos (ofN x).length with h | h
    · have := ofN_nil.1 (List.length_eq_zero_iff.1 h); omega
    · exact h
  have d1 : decide (((ofN x).length : Int) = 0) = false := by rw [decide_eq_false_iff_not]; omega
  (replace hb0 := true_and True); refine Go1.mk ?_; repeat' ((first | (with_reducible refine Go1.go ?_) | ((with_reducible first | refine brv_mk ?_ ?_ | refine gsplitD ?_ ?_ | refine gsplitG ?_ ?_) <;> intro h <;> (try simp only [Bool.not_eq_true', Bool.not_eq_false'] at h) <;> replace hb0 := h) | ((with_reducible refine isDraw [some 36, some 37, some 38, some 39, some 40, some 41, some 42, some 43, some 44, some 45, some 46, some 47, some 48, none, some 49, none] (by decide) ?_); refine draw_rule [(0, []), (1, []), (2, []), (3, []), (4, []), (5, []), (6, []), (7, []), (8, [7]), (9, [7]), (10, [7]), (11, [7]), (12, []), (13, []), (14, []), (15, [])] [[], [], [], [], [], [], [4, 5], [4, 5, 6], [], [], [8, 9], [8, 9, 10], [0, 1, 4, 5, 6, 7, 8, 9, 10, 11], [0, 1, 4, 5, 6, 7, 8, 9, 10, 11, 12], [0, 1, 2, 3, 4, 5, 6, 7, 8, 9, 10, 11, 12, 13], [0, 1, 2, 3, 4, 5, 6, 7, 8, 9, 10, 11, 12, 13, 14]] [36, 37, 38, 39, 40, 41, 42, 43, 44, 45, 46, 47, 48] [] (by kernel_rfl) (by kernel_rfl) (by kernel_rfl) (by kernel_rfl) (by exact trivial) ?_) | (refine And.intro ?ob ?_; case ob => ((try simp only [sxO, ne_eq, maxLen] at *); omega)) | fail) <;> (try simp (config := { maxSteps := 1000000 }) only [hb0, hu.one, hu.len, hu.sl, d1, bs_mk, bs_app, bs_ext, bs_size, bs_toList, bs_at, bs_cells, List.take_length, imp_ga, guard_pk, guard_pk2, ↓hold_pre, awayP, runOps, regK, step1, newK, genR, appR, obl, buildR, Value.cells, closeK, keepH, outV, retK, ret1, retC, RetV, Option.getD, runD, stepD, afterK, undef, simprocAttr, sxB, ↓sxD, sxE, sxTab]))
  have hbs : ∀ out : List UInt8, out.length ≤ (dec x).length → out.length < 100000 := fun out h => by omega
  refine ⟨fun d z => ∃ M' w r out, r = d ∧ Mem.le M M' ∧ IsL M' u32V w (ofN r) ∧ (ofN r).length < 1000000 ∧ dec r ++ out.reverse = dec x ∧ z = dtSt M' w out.length out,
    ⟨x, dtSt M u 0 [], (le_nil 3 24 5 1 rfl (.inl rfl)).trans (le_sub ⟨rfl, rfl, trivial⟩ ⟨rfl, trivial⟩ rfl rfl rfl (keepLt0 _)), ⟨M, u, x, [], rfl, Mem.le.refl _, hu, hx, by simp, rfl⟩⟩, ?_⟩
  clear hu hl1 d1
  rintro d z ⟨M1, w, r, out, rfl, hM1, hw, hwl, hdx, rfl⟩
  have hol : out.length < 100000 := hbs out (by rw [← hdx, List.length_append, List.length_reverse]; omega)
  by_cases hr : r = 0
  case neg =>
    have hl2 : 0 < (ofN r).length := by
      rcases Nat.eq_zero_or_pos (ofN r).length with h | h
      · have := ofN_nil.1 (List.length_eq_zero_iff.1 h); omega
      · exact h
    have d2 : decide ((0 : Int) < ((ofN r).length : Int)) = true := by rw [decide_eq_true_eq]; omega
    obtain ⟨wd1, wd2⟩ := dg_u8 (q := r % 10) (by omega)
    (replace hb0 := true_and True); refine Go1.mk ?_; repeat' ((first | (with_reducible refine Go1.go ?_) | ((with_reducible first | refine brv_mk ?_ ?_ | refine gsplitD ?_ ?_ | refine gsplitG ?_ ?_) <;> intro h <;> (try simp only [Bool.not_eq_true', Bool.not_eq_false'] at h) <;> replace hb0 := h) | ((first | (with_reducible refine isCall (f := 104) ?_; refine callA_nil (by kernel_rfl) ?_) | (with_reducible refine isCall0 (f := 104) ?_; refine callA0_nil (by kernel_rfl) ?_)); refine (rsmall_ok w r 10 hw (by omega) (by omega) (by omega) (fun w2 M2 a1 a2 a3 => Stop.mk ?_))) | ((with_reducible refine isDraw [some 36, some 37, some 38, some 39, some 40, some 41, some 42, some 43, some 44, some 45, some 46, some 47, some 48, none, some 49, none] (by decide) ?_); refine draw_rule [(0, []), (1, []), (2, []), (3, []), (4, []), (5, []), (6, []), (7, []), (8, [7]), (9, [7]), (10, [7]), (11, [7]), (12, []), (13, []), (14, []), (15, [])] [[], [], [], [], [], [], [4, 5], [4, 5, 6], [], [], [8, 9], [8, 9, 10], [0, 1, 4, 5, 6, 7, 8, 9, 10, 11], [0, 1, 4, 5, 6, 7, 8, 9, 10, 11, 12], [0, 1, 2, 3, 4, 5, 6, 7, 8, 9, 10, 11, 12, 13], [0, 1, 2, 3, 4, 5, 6, 7, 8, 9, 10, 11, 12, 13, 14]] [36, 37, 38, 39, 40, 41, 42, 43, 44, 45, 46, 47, 48] [] (by kernel_rfl) (by kernel_rfl) (by kernel_rfl) (by kernel_rfl) (by exact trivial) ?_) | (refine And.intro ?ob ?_; case ob => ((try simp only [sxO, ne_eq, maxLen] at *); omega)) | fail) <;> (try simp (config := { maxSteps := 1000000 }) only [hb0, dtSt, hw.one, hw.len, hw.sl, d2, bs_mk, bs_app, bs_ext, bs_size, bs_toList, bs_at, bs_cells, List.take_length, imp_ga, guard_pk, guard_pk2, ↓hold_pre, awayP, runOps, regK, step1, newK, genR, appR, obl, buildR, Value.cells, closeK, keepH, outV, retK, ret1, retC, RetV, Option.getD, runD, stepD, afterK, undef, simprocAttr, sxB, ↓sxD, sxE, sxTab]))
    refine Stop.go ?_
    (replace hb0 := true_and True); refine Go1.mk ?_; repeat' ((first | (with_reducible refine Go1.go ?_) | ((with_reducible first | refine brv_mk ?_ ?_ | refine gsplitD ?_ ?_ | refine gsplitG ?_ ?_) <;> intro h <;> (try simp only [Bool.not_eq_true', Bool.not_eq_false'] at h) <;> replace hb0 := h) | ((with_reducible refine isDraw [some 36, some 37, some 38, some 39, some 40, some 41, some 42, some 43, some 44, some 45, some 46, some 47, some 48, none, some 49, none] (by decide) ?_); refine draw_rule [(0, []), (1, []), (2, []), (3, []), (4, []), (5, []), (6, []), (7, []), (8, [7]), (9, [7]), (10, [7]), (11, [7]), (12, []), (13, []), (14, []), (15, [])] [[], [], [], [], [], [], [4, 5], [4, 5, 6], [], [], [8, 9], [8, 9, 10], [0, 1, 4, 5, 6, 7, 8, 9, 10, 11], [0, 1, 4, 5, 6, 7, 8, 9, 10, 11, 12], [0, 1, 2, 3, 4, 5, 6, 7, 8, 9, 10, 11, 12, 13], [0, 1, 2, 3, 4, 5, 6, 7, 8, 9, 10, 11, 12, 13, 14]] [36, 37, 38, 39, 40, 41, 42, 43, 44, 45, 46, 47, 48] [] (by kernel_rfl) (by kernel_rfl) (by kernel_rfl) (by kernel_rfl) (by exact trivial) ?_) | (refine And.intro ?ob ?_; case ob => ((try simp only [sxO, ne_eq, maxLen] at *); omega)) | fail) <;> (try simp (config := { maxSteps := 1000000 }) only [hb0, cE_ment, cE_len, cE_kill, hasK_nil, Nat.mul_one, maxLen, u8_snoc, wd1, wd2, a2.one, bs_mk, bs_app, bs_ext, bs_size, bs_toList, bs_at, bs_cells, List.take_length, imp_ga, guard_pk, guard_pk2, ↓hold_pre, awayP, runOps, regK, step1, newK, genR, appR, obl, buildR, Value.cells, closeK, keepH, outV, retK, ret1, retC, RetV, Option.getD, runD, stepD, afterK, undef, simprocAttr, sxB, ↓sxD, sxE, sxTab]))
    have hlen := len_mono (Nat.div_le_self r 10)
    exact ⟨r / 10, dtSt M2 w2 (out.length + 1) (out ++ [dgB (r % 10)]), by omega, le_sub ⟨rfl, rfl, trivial⟩ ⟨rfl, trivial⟩ rfl rfl rfl (keepLt0 _), M2, w2, r / 10, out ++ [dgB (r % 10)], rfl, hM1.trans a1, a2, by omega, by
      rw [dec_pos hr] at hdx
      rw [List.reverse_append, ← hdx]; simp, by rw [List.length_append]; rfl⟩
  subst hr
  have d2 : decide ((0 : Int) < ((ofN 0).length : Int)) = false := by rw [ofN_zero]; rfl
  rw [dec_zero, List.nil_append] at hdx
  (replace hb0 := true_and True); refine Go1.mk ?_; repeat' ((first | (with_reducible refine Go1.go ?_) | ((with_reducible first | refine brv_mk ?_ ?_ | refine gsplitD ?_ ?_ | refine gsplitG ?_ ?_) <;> intro h <;> (try simp only [Bool.not_eq_true', Bool.not_eq_false'] at h) <;> replace hb0 := h) | ((with_reducible refine isDraw [some 36, some 37, some 38, some 39, some 40, some 41, some 42, some 43, some 44, some 45, some 46, some 47, some 48, none, some 49, none] (by decide) ?_); refine draw_rule [(0, []), (1, []), (2, []), (3, []), (4, []), (5, []), (6, []), (7, []), (8, [7]), (9, [7]), (10, [7]), (11, [7]), (12, []), (13, []), (14, []), (15, [])] [[], [], [], [], [], [], [4, 5], [4, 5, 6], [], [], [8, 9], [8, 9, 10], [0, 1, 4, 5, 6, 7, 8, 9, 10, 11], [0, 1, 4, 5, 6, 7, 8, 9, 10, 11, 12], [0, 1, 2, 3, 4, 5, 6, 7, 8, 9, 10, 11, 12, 13], [0, 1, 2, 3, 4, 5, 6, 7, 8, 9, 10, 11, 12, 13, 14]] [36, 37, 38, 39, 40, 41, 42, 43, 44, 45, 46, 47, 48] [] (by kernel_rfl) (by kernel_rfl) (by kernel_rfl) (by kernel_rfl) (by exact trivial) ?_) | (refine And.intro ?ob ?_; case ob => ((try simp only [sxO, ne_eq, maxLen] at *); omega)) | fail) <;> (try simp (config := { maxSteps := 1000000 }) only [hb0, dtSt, hw.one, hw.len, hw.sl, d2, bs_mk, bs_app, bs_ext, bs_size, bs_toList, bs_at, bs_cells, List.take_length, imp_ga, guard_pk, guard_pk2, ↓hold_pre, awayP, runOps, regK, step1, newK, genR, appR, obl, buildR, Value.cells, closeK, keepH, outV, retK, ret1, retC, RetV, Option.getD, runD, stepD, afterK, undef, simprocAttr, sxB, ↓sxD, sxE, sxTab]))
  have w1 : IntKind.i64.wrap ((out.length : Int) - 1) = (out.length : Int) - 1 - ((0 : Nat) : Int) := by rw [wrap_id (by omega) (by omega)]; simp
  generalize hn : out.length = n at *
  refine ⟨fun d z => ∃ i L, d = n - i ∧ RevI out.reverse out L i ∧ z = rvSt M1 n i L, ⟨n, rvSt M1 n 0 out, le_sub ⟨by rw [← w1]; rfl, rfl, rfl, trivial⟩ ⟨rfl, trivial⟩ rfl rfl rfl (keepLt0 _), ⟨0, out, rfl, rev_start out, rfl⟩⟩, ?_⟩
  rintro d z ⟨i, L, rfl, hI, rfl⟩
  have hL := hI.ln
  rw [hn] at hL
  by_cases hlt : 2 * i + 1 < n
  case neg =>
    have d3 : decide ((i : Int) < (n : Int) - 1 - (i : Int)) = false := by rw [decide_eq_false_iff_not]; omega
    have e := rev_end hI (by omega)
    have ed : decB x = L := by unfold decB; rw [if_neg h0, ← hdx, e]
    (replace hb0 := true_and True); refine Go1.mk ?_; repeat' ((first | (with_reducible refine Go1.go ?_) | ((with_reducible first | refine brv_mk ?_ ?_ | refine gsplitD ?_ ?_ | refine gsplitG ?_ ?_) <;> intro h <;> (try simp only [Bool.not_eq_true', Bool.not_eq_false'] at h) <;> replace hb0 := h) | ((with_reducible refine isDraw [some 36, some 37, some 38, some 39, some 40, some 41, some 42, some 43, some 44, some 45, some 46, some 47, some 48, none, some 49, none] (by decide) ?_); refine draw_rule [(0, []), (1, []), (2, []), (3, []), (4, []), (5, []), (6, []), (7, []), (8, [7]), (9, [7]), (10, [7]), (11, [7]), (12, []), (13, []), (14, []), (15, [])] [[], [], [], [], [], [], [4, 5], [4, 5, 6], [], [], [8, 9], [8, 9, 10], [0, 1, 4, 5, 6, 7, 8, 9, 10, 11], [0, 1, 4, 5, 6, 7, 8, 9, 10, 11, 12], [0, 1, 2, 3, 4, 5, 6, 7, 8, 9, 10, 11, 12, 13], [0, 1, 2, 3, 4, 5, 6, 7, 8, 9, 10, 11, 12, 13, 14]] [36, 37, 38, 39, 40, 41, 42, 43, 44, 45, 46, 47, 48] [] (by kernel_rfl) (by kernel_rfl) (by kernel_rfl) (by kernel_rfl) (by exact trivial) ?_) | (refine And.intro ?ob ?_; case ob => ((try simp only [sxO, ne_eq, maxLen] at *); omega)) | fail) <;> (try simp (config := { maxSteps := 1000000 }) only [hb0, rvSt, d3, cE_ment, cE_len, cE_kill, hasK_nil, Nat.mul_one, maxLen, bs_mk, bs_app, bs_ext, bs_size, bs_toList, bs_at, bs_cells, List.take_length, imp_ga, guard_pk, guard_pk2, ↓hold_pre, awayP, runOps, regK, step1, newK, genR, appR, obl, buildR, Value.cells, closeK, keepH, outV, retK, ret1, retC, RetV, Option.getD, runD, stepD, afterK, undef, simprocAttr, sxB, ↓sxD, sxE, sxTab]))
    refine ask_strOwn (E := 5) (k := 24) (l := L) (T0 := 5) rfl (by kernel_rfl) (by kernel_rfl) (by kernel_rfl) rfl rfl hL.symm ?_
    (replace hb0 := true_and True); refine Go1.mk ?_; repeat' ((first | (with_reducible refine Go1.go ?_) | ((with_reducible first | refine brv_mk ?_ ?_ | refine gsplitD ?_ ?_ | refine gsplitG ?_ ?_) <;> intro h <;> (try simp only [Bool.not_eq_true', Bool.not_eq_false'] at h) <;> replace hb0 := h) | ((with_reducible refine isDraw [some 36, some 37, some 38, some 39, some 40, some 41, some 42, some 43, some 44, some 45, some 46, some 47, some 48, none, some 49, none] (by decide) ?_); refine draw_rule [(0, []), (1, []), (2, []), (3, []), (4, []), (5, []), (6, []), (7, []), (8, [7]), (9, [7]), (10, [7]), (11, [7]), (12, []), (13, []), (14, []), (15, [])] [[], [], [], [], [], [], [4, 5], [4, 5, 6], [], [], [8, 9], [8, 9, 10], [0, 1, 4, 5, 6, 7, 8, 9, 10, 11], [0, 1, 4, 5, 6, 7, 8, 9, 10, 11, 12], [0, 1, 2, 3, 4, 5, 6, 7, 8, 9, 10, 11, 12, 13], [0, 1, 2, 3, 4, 5, 6, 7, 8, 9, 10, 11, 12, 13, 14]] [36, 37, 38, 39, 40, 41, 42, 43, 44, 45, 46, 47, 48] [] (by kernel_rfl) (by kernel_rfl) (by kernel_rfl) (by kernel_rfl) (by exact trivial) ?_) | (refine And.intro ?ob ?_; case ob => ((try simp only [sxO, ne_eq, maxLen] at *); omega)) | fail) <;> (try simp (config := { maxSteps := 1000000 }) only [hb0, rvSt, St.put, bs_mk, bs_app, bs_ext, bs_size, bs_toList, bs_at, bs_cells, List.take_length, imp_ga, guard_pk, guard_pk2, ↓hold_pre, awayP, runOps, regK, step1, newK, genR, appR, obl, buildR, Value.cells, closeK, keepH, outV, retK, ret1, retC, RetV, Option.getD, runD, stepD, afterK, undef, simprocAttr, sxB, ↓sxD, sxE, sxTab]))
    rw [← ed]
    exact hK _ hM1
  obtain ⟨k, hk⟩ : ∃ k, k + 1 + i = n := ⟨n - 1 - i, by omega⟩
  have ek : (n : Int) - 1 - (i : Int) = (k : Int) := by omega
  have d3 : decide ((i : Int) < (k : Int)) = true := by rw [decide_eq_true_eq]; omega
  have hiL : i < L.length := by omega
  have hkL : k < L.length := by omega
  have hat := u8_at hiL
  have hat2 := u8_at hkL
  have hst := rev_step hI (k := k) (by omega) (by omega) hiL hkL
  generalize L[i] = p at *
  generalize L[k] = q at *
  have s1 := u8_set L i q
  have s2 := u8_set (L.set i q) k p
  have d4 : (0 : Int) ≤ (i : Int) := by omega
  have d5 : (i : Int) < (n : Int) := by omega
  have d6 : (0 : Int) ≤ (k : Int) := by omega
  have d7 : (k : Int) < (n : Int) := by omega
  have d8 : (i < L.length) = True := by simp; omega
  have d9 : (k < L.length) = True := by simp; omega
  have w2 : IntKind.i64.wrap ((i : Int) + 1) = ((i + 1 : Nat) : Int) := succ_i (by omega)
  have w3 : IntKind.i64.wrap ((k : Int) - 1) = (n : Int) - 1 - ((i + 1 : Nat) : Int) := by rw [wrap_id (by omega) (by omega)]; omega
  (replace hb0 := true_and True); refine Go1.mk ?_; repeat' ((first | (with_reducible refine Go1.go ?_) | ((with_reducible first | refine brv_mk ?_ ?_ | refine gsplitD ?_ ?_ | refine gsplitG ?_ ?_) <;> intro h <;> (try simp only [Bool.not_eq_true', Bool.not_eq_false'] at h) <;> replace hb0 := h) | ((with_reducible refine isDraw [some 36, some 37, some 38, some 39, some 40, some 41, some 42, some 43, some 44, some 45, some 46, some 47, some 48, none, some 49, none] (by decide) ?_); refine draw_rule [(0, []), (1, []), (2, []), (3, []), (4, []), (5, []), (6, []), (7, []), (8, [7]), (9, [7]), (10, [7]), (11, [7]), (12, []), (13, []), (14, []), (15, [])] [[], [], [], [], [], [], [4, 5], [4, 5, 6], [], [], [8, 9], [8, 9, 10], [0, 1, 4, 5, 6, 7, 8, 9, 10, 11], [0, 1, 4, 5, 6, 7, 8, 9, 10, 11, 12], [0, 1, 2, 3, 4, 5, 6, 7, 8, 9, 10, 11, 12, 13], [0, 1, 2, 3, 4, 5, 6, 7, 8, 9, 10, 11, 12, 13, 14]] [36, 37, 38, 39, 40, 41, 42, 43, 44, 45, 46, 47, 48] [] (by kernel_rfl) (by kernel_rfl) (by kernel_rfl) (by kernel_rfl) (by exact trivial) ?_) | (refine And.intro ?ob ?_; case ob => ((try simp only [sxO, ne_eq, maxLen] at *); omega)) | fail) <;> (try simp (config := { maxSteps := 1000000 }) only [hb0, rvSt, ek, d3, d4, d5, d6, d7, d8, d9, hat, hat2, s1, s2, w2, w3, List.length_set, cE_ment, cE_len, cE_kill, hasK_nil, Nat.mul_one, maxLen, bs_mk, bs_app, bs_ext, bs_size, bs_toList, bs_at, bs_cells, List.take_length, imp_ga, guard_pk, guard_pk2, ↓hold_pre, awayP, runOps, regK, step1, newK, genR, appR, obl, buildR, Value.cells, closeK, keepH, outV, retK, ret1, retC, RetV, Option.getD, runD, stepD, afterK, undef, simprocAttr, sxB, ↓sxD, sxE, sxTab]))
  exact ⟨n - (i + 1), rvSt M1 n (i + 1) _, by omega, le_sub ⟨rfl, rfl, rfl, trivial⟩ ⟨rfl, trivial⟩ rfl rfl rfl (keepLt0 _), i + 1, _, rfl, hst, rfl⟩
end
end Go.Proofs.YtamghpnjdohnjaaDoor.Sx
namespace Go.Proofs.YtamghpnjdohnjaaDoor.Sx
open Go Go.RowKit
set_option linter.unusedVariables false
set_option linter.unusedSimpArgs false
set_option maxRecDepth 100000
set_option maxHeartbeats 8000000
attribute [local congr] fin_congr finG_congr stepG_congr step1_congr runOps_congr brv_congr obl_congr condK_congr LoopK_congr seqK_congr CutK_congr vc_congr DrawK_congr regK_congr CallK_congr AskK_congr newK_congr retC_congr ret1_congr retK_congr outV_congr closeK_congr genR_congr appR_congr finD_congr finGD_congr stepGD_congr stepD_congr CallK0_congr runD_congr okR_congr CallS_congr vcX_congr
attribute [local congr] Stop_congr
def floF (a b : List Nat) : Int × Nat := if chkF a b then (0, valN a / valN b) else (1, 0)
def digs (r d : Nat) : Nat → List UInt8
  | 0 => []
  | k + 1 => dgB (r * 10 / d) :: digs (r * 10 % d) d k
theorem digs_len (d : Nat) : ∀ (k r : Nat), (digs r d k).length = k
  | 0, _ => rfl
  | k + 1, r => by rw [digs, List.length_cons, digs_len d k]
theorem digs_pos {r d k : Nat} (h : 0 < k) : digs r d k = dgB (r * 10 / d) :: digs (r * 10 % d) d (k - 1) := by
  obtain ⟨j, rfl⟩ : ∃ j, k = j + 1 := ⟨k - 1, by omega⟩
  rfl
def rouB (n d k : Nat) : List UInt8 := decB (n / d) ++ (if k = 0 then [] else 46 :: digs (n % d) d k)
def rouF (a b : List Nat) (k : Int) : Int × List UInt8 := if chkF a b then (if k < 0 ∨ 30 < k then (3, []) else (0, rouB (valN a) (valN b) k.toNat)) else (1, [])
theorem dig_lt {r d : Nat} (h : r < d) : r * 10 / d < 10 := (Nat.div_lt_iff_lt_mul (by omega)).2 (by omega)
theorem dg_u8' {q : Nat} (h : q < 10) : IntKind.u8.wrap (48 + IntKind.u8.wrap (q : Int)) = ((dgB q).toNat : Int) := by
  have : q = 0 ∨ q = 1 ∨ q = 2 ∨ q = 3 ∨ q = 4 ∨ q = 5 ∨ q = 6 ∨ q = 7 ∨ q = 8 ∨ q = 9 := by omega
  rcases this with rfl | rfl | rfl | rfl | rfl | rfl | rfl | rfl | rfl | rfl <;> decide
theorem decB_ne (n : Nat) : decB n ≠ [] := by
  unfold decB
  split
  · simp
  · rename_i h
    intro e
    have := numB_dec n
    rw [e] at this
    exact h this.symm
section
variable {M : Mem} {K : AV → Hp → Mem → Prop} {u1 u2 : Value} {l1 l2 : List Nat}
theorem ffloor_ok (ha : IsF M u1 u2 l1 l2) (hK : ∀ w M', Mem.le M M' → IsL M' u32V w (ofN (floF l1 l2).2) → K (.ext (.tuple #[w, .int .i64 (floF l1 l2).1])) [] M') : CallS Tryd.prog 40 [.ext (.agg #[u1, u2])] [] M [] K := by
  refine inlS (cs := []) Tryd.mixed Tryd.func40 rfl (by kernel_rfl) 0 rfl rfl ?_
  simp only [Tryd.f40]
  unfold floF at hK
  (replace hb0 := true_and True); refine Go1.mk ?_; repeat' ((first | (with_reducible refine Go1.go ?_) | ((with_reducible first | refine brv_mk ?_ ?_ | refine gsplitD ?_ ?_ | refine gsplitG ?_ ?_) <;> intro h <;> (try simp only [Bool.not_eq_true', Bool.not_eq_false'] at h) <;> replace hb0 := h) | ((first | (with_reducible refine isCall (f := 16) ?_; refine callA_nil (by kernel_rfl) ?_) | (with_reducible refine isCall0 (f := 16) ?_; refine callA0_nil (by kernel_rfl) ?_)); refine (fcheck_ok ha.n ha.d ha.on ha.od ha.bn ha.bd (fun M1 m1 => Stop.mk ?_))) | (refine And.intro ?ob ?_; case ob => ((try simp only [sxO, ne_eq, maxLen] at *); omega)) | fail) <;> (try simp (config := { maxSteps := 1000000 }) only [hb0, ha.n.one, ha.d.one, ↓hold_pre, awayP, runOps, regK, step1, newK, genR, appR, obl, buildR, Value.cells, closeK, keepH, outV, retK, ret1, retC, RetV, Option.getD, runD, stepD, afterK, undef, simprocAttr, sxB, ↓sxD, sxE, sxTab]))
  have m1 : Mem.le M M1 := m1
  have ha1 := ha.le m1
  refine Stop.go ?_
  cases hc : chkF l1 l2 with
  | false =>
    rw [hc] at hK
    (replace hb0 := true_and True); refine Go1.mk ?_; repeat' ((first | (with_reducible refine Go1.go ?_) | ((with_reducible first | refine brv_mk ?_ ?_ | refine gsplitD ?_ ?_ | refine gsplitG ?_ ?_) <;> intro h <;> (try simp only [Bool.not_eq_true', Bool.not_eq_false'] at h) <;> replace hb0 := h) | (refine And.intro ?ob ?_; case ob => ((try simp only [sxO, ne_eq, maxLen] at *); omega)) | fail) <;> (try simp (config := { maxSteps := 1000000 }) only [hb0, ha1.n.one, ha1.d.one, ↓hold_pre, awayP, runOps, regK, step1, newK, genR, appR, obl, buildR, Value.cells, closeK, keepH, outV, retK, ret1, retC, RetV, Option.getD, runD, stepD, afterK, undef, simprocAttr, sxB, ↓sxD, sxE, sxTab]))
    exact hK _ _ m1 (by simp only [Bool.false_eq_true, if_false, ofN_zero]; exact isL_nil _ _ _)
  | true =>
  rw [hc, if_pos rfl] at hK
  obtain ⟨n, d, hn, hd, e1, e2, q1, q2, q3⟩ := ha1.num hc
  rw [e1, e2] at hK
  (replace hb0 := true_and True); refine Go1.mk ?_; repeat' ((first | (with_reducible refine Go1.go ?_) | ((with_reducible first | refine brv_mk ?_ ?_ | refine gsplitD ?_ ?_ | refine gsplitG ?_ ?_) <;> intro h <;> (try simp only [Bool.not_eq_true', Bool.not_eq_false'] at h) <;> replace hb0 := h) | ((first | (with_reducible refine isCall (f := 77) ?_; refine callA_nil (by kernel_rfl) ?_) | (with_reducible refine isCall0 (f := 77) ?_; refine callA0_nil (by kernel_rfl) ?_)); refine (divide_ok u1 u2 n d hn hd (by omega) (by omega) q3 (fun q r M2 a1 a2 a3 _ _ => Stop.mk ?_))) | (refine And.intro ?ob ?_; case ob => ((try simp only [sxO, ne_eq, maxLen] at *); omega)) | fail) <;> (try simp (config := { maxSteps := 1000000 }) only [hb0, hn.one, hd.one, ↓hold_pre, awayP, runOps, regK, step1, newK, genR, appR, obl, buildR, Value.cells, closeK, keepH, outV, retK, ret1, retC, RetV, Option.getD, runD, stepD, afterK, undef, simprocAttr, sxB, ↓sxD, sxE, sxTab]))
  have a1 : Mem.le M1 M2 := a1
  refine Stop.go ?_
  (replace hb0 := true_and True); refine Go1.mk ?_; repeat' ((first | (with_reducible refine Go1.go ?_) | ((with_reducible first | refine brv_mk ?_ ?_ | refine gsplitD ?_ ?_ | refine gsplitG ?_ ?_) <;> intro h <;> (try simp only [Bool.not_eq_true', Bool.not_eq_false'] at h) <;> replace hb0 := h) | (refine And.intro ?ob ?_; case ob => ((try simp only [sxO, ne_eq, maxLen] at *); omega)) | fail) <;> (try simp (config := { maxSteps := 1000000 }) only [hb0, a2.one, a3.one, ↓hold_pre, awayP, runOps, regK, step1, newK, genR, appR, obl, buildR, Value.cells, closeK, keepH, outV, retK, ret1, retC, RetV, Option.getD, runD, stepD, afterK, undef, simprocAttr, sxB, ↓sxD, sxE, sxTab]))
  exact hK _ _ (m1.trans a1) a2
def roaSt (M : Mem) (u1 u2 w : Value) (k : Nat) (q : List UInt8) : St := { env := [(10, .own 10 0), (8, .ext (.string (bs q))), (7, .ext w), (2, .own 2 0), (1, .ext (.int .i64 (k : Int)))], hp := bldH 10 90 (.ext (.pointer none)) [] ++ [(2, 25, [.ext u1, .ext u2])], M := M, kb := 0, fx := [] }
def robSt (M : Mem) (u1 u2 w : Value) (k i : Nat) (p : AV) (o : List UInt8) : St := { env := [(11, .ext (.int .i64 (i : Int))), (10, .own 10 0), (7, .ext w), (2, .own 2 0), (1, .ext (.int .i64 (k : Int)))], hp := bldH 10 90 p o ++ [(2, 25, [.ext u1, .ext u2])], M := M, kb := 0, fx := [] }
theorem fround_ok (k : Int) (ha : IsF M u1 u2 l1 l2) (hK : ∀ M', Mem.le M M' → K (.ext (.tuple #[.string (bs (rouF l1 l2 k).2), .int .i64 (rouF l1 l2 k).1])) [] M') : CallS Tryd.prog 43 [.ext (.agg #[u1, u2]), .ext (.int .i64 k)] [] M [] K := by
  refine inlS (cs := [10]) Tryd.mixed Tryd.func43 rfl (by kernel_rfl) 0 rfl rfl ?_
  simp only [Tryd.f43]
  unfold rouF at hK
  (replace hb0 := true_and True); refine Go1.mk ?_; repeat' ((first | (with_reducible refine Go1.go ?_) | ((with_reducible first | refine brv_mk ?_ ?_ | refine gsplitD ?_ ?_ | refine gsplitG ?_ ?_) <;> intro h <;> (try simp only [Bool.not_eq_true', Bool.not_eq_false'] at h) <;> replace hb0 := h) | ((first | (with_reducible refine isCall (f := 16) ?_; refine callA_nil (by kernel_rfl) ?_) | (with_reducible refine isCall0 (f := 16) ?_; refine callA0_nil (by kernel_rfl) ?_)); refine (fcheck_ok ha.n ha.d ha.on ha.od ha.bn ha.bd (fun M1 m1 => Stop.mk ?_))) | (refine And.intro ?ob ?_; case ob => ((try simp only [sxO, ne_eq, maxLen] at *); omega)) | fail) <;> (try simp (config := { maxSteps := 1000000 }) only [hb0, ha.n.one, ha.d.one, bs_mk, bs_app, bs_ext, bs_size, bs_toList, bs_at, bs_cells, List.take_length, imp_ga, guard_pk, guard_pk2, ↓hold_pre, awayP, runOps, regK, step1, newK, genR, appR, obl, buildR, Value.cells, closeK, keepH, outV, retK, ret1, retC, RetV, Option.getD, runD, stepD, afterK, undef, simprocAttr, sxB, ↓sxD, sxE, sxTab]))
  have m1 : Mem.le M M1 := m1
  have ha1 := ha.le m1
  refine Stop.go ?_
  cases hc : chkF l1 l2 with
  | false =>
    rw [hc] at hK
    (replace hb0 := true_and True); refine Go1.mk ?_; repeat' ((first | (with_reducible refine Go1.go ?_) | ((with_reducible first | refine brv_mk ?_ ?_ | refine gsplitD ?_ ?_ | refine gsplitG ?_ ?_) <;> intro h <;> (try simp only [Bool.not_eq_true', Bool.not_eq_false'] at h) <;> replace hb0 := h) | (refine And.intro ?ob ?_; case ob => ((try simp only [sxO, ne_eq, maxLen] at *); omega)) | fail) <;> (try simp (config := { maxSteps := 1000000 }) only [hb0, ha1.n.one, ha1.d.one, bs_mk, bs_app, bs_ext, bs_size, bs_toList, bs_at, bs_cells, List.take_length, imp_ga, guard_pk, guard_pk2, ↓hold_pre, awayP, runOps, regK, step1, newK, genR, appR, obl, buildR, Value.cells, closeK, keepH, outV, retK, ret1, retC, RetV, Option.getD, runD, stepD, afterK, undef, simprocAttr, sxB, ↓sxD, sxE, sxTab]))
    exact hK _ m1
  | true =>
  rw [hc, if_pos rfl] at hK
  obtain ⟨n, d, hn, hd, e1, e2, q1, q2, q3⟩ := ha1.num hc
  rw [e1, e2] at hK
  by_cases hr : k < 0 ∨ 30 < k
  · rw [if_pos hr] at hK
    by_cases h0 : k < 0
    · have d1 : decide (k < 0) = true := by rw [decide_eq_true_eq]; exact h0
      (replace hb0 := true_and True); refine Go1.mk ?_; repeat' ((first | (with_reducible refine Go1.go ?_) | ((with_reducible first | refine brv_mk ?_ ?_ | refine gsplitD ?_ ?_ | refine gsplitG ?_ ?_) <;> intro h <;> (try simp only [Bool.not_eq_true', Bool.not_eq_false'] at h) <;> replace hb0 := h) | (refine And.intro ?ob ?_; case ob => ((try simp only [sxO, ne_eq, maxLen] at *); omega)) | fail) <;> (try simp (config := { maxSteps := 1000000 }) only [hb0, hn.one, hd.one, d1, bs_mk, bs_app, bs_ext, bs_size, bs_toList, bs_at, bs_cells, List.take_length, imp_ga, guard_pk, guard_pk2, ↓hold_pre, awayP, runOps, regK, step1, newK, genR, appR, obl, buildR, Value.cells, closeK, keepH, outV, retK, ret1, retC, RetV, Option.getD, runD, stepD, afterK, undef, simprocAttr, sxB, ↓sxD, sxE, sxTab]))
      exact hK _ m1
    · have d1 : decide (k < 0) = false := by rw [decide_eq_false_iff_not]; exact h0
      have d2 : decide (30 < k) = true := by rw [decide_eq_true_eq]; omega
      (replace hb0 := true_and True); refine Go1.mk ?_; repeat' ((first | (with_reducible refine Go1.go ?_) | ((with_reducible first | refine brv_mk ?_ ?_ | refine gsplitD ?_ ?_ | refine gsplitG ?_ ?_) <;> intro h <;> (try simp only [Bool.not_eq_true', Bool.not_eq_false'] at h) <;> replace hb0 := h) | (refine And.intro ?ob ?_; case ob => ((try simp only [sxO, ne_eq, maxLen] at *); omega)) | fail) <;> (try simp (config := { maxSteps := 1000000 }) only [hb0, hn.one, hd.one, d1, d2, bs_mk, bs_app, bs_ext, bs_size, bs_toList, bs_at, bs_cells, List.take_length, imp_ga, guard_pk, guard_pk2, ↓hold_pre, awayP, runOps, regK, step1, newK, genR, appR, obl, buildR, Value.cells, closeK, keepH, outV, retK, ret1, retC, RetV, Option.getD, runD, stepD, afterK, undef, simprocAttr, sxB, ↓sxD, sxE, sxTab]))
      exact hK _ m1
  rw [if_neg hr] at hK
  have d1 : decide (k < 0) = false := by rw [decide_eq_false_iff_not]; omega
  have d2 : decide (30 < k) = false := by rw [decide_eq_false_iff_not]; omega
  obtain ⟨j, rfl⟩ := Int.eq_ofNat_of_zero_le (show 0 ≤ k by omega)
  rw [Int.toNat_natCast] at hK
  have hql : (ofN (n / d)).length ≤ 128 := Nat.le_trans (len_mono (Nat.div_le_self n d)) q1
  have hqb := decB_128 hql
  (replace hb0 := true_and True); refine Go1.mk ?_; repeat' ((first | (with_reducible refine Go1.go ?_) | ((with_reducible first | refine brv_mk ?_ ?_ | refine gsplitD ?_ ?_ | refine gsplitG ?_ ?_) <;> intro h <;> (try simp only [Bool.not_eq_true', Bool.not_eq_false'] at h) <;> replace hb0 := h) | ((first | (with_reducible refine isCall (f := 77) ?_; refine callA_nil (by kernel_rfl) ?_) | (with_reducible refine isCall0 (f := 77) ?_; refine callA0_nil (by kernel_rfl) ?_)); refine (divide_ok u1 u2 n d hn hd (by omega) (by omega) q3 (fun q r M2 a1 a2 a3 _ _ => Stop.mk ?_))) | (refine And.intro ?ob ?_; case ob => ((try simp only [sxO, ne_eq, maxLen] at *); omega)) | fail) <;> (try simp (config := { maxSteps := 1000000 }) only [hb0, hn.one, hd.one, d1, d2, bs_mk, bs_app, bs_ext, bs_size, bs_toList, bs_at, bs_cells, List.take_length, imp_ga, guard_pk, guard_pk2, ↓hold_pre, awayP, runOps, regK, step1, newK, genR, appR, obl, buildR, Value.cells, closeK, keepH, outV, retK, ret1, retC, RetV, Option.getD, runD, stepD, afterK, undef, simprocAttr, sxB, ↓sxD, sxE, sxTab]))
  have a1 : Mem.le M1 M2 := a1
  have hn := hn.le a1
  have hd := hd.le a1
  refine Stop.go ?_
  (replace hb0 := true_and True); refine Go1.mk ?_; repeat' ((first | (with_reducible refine Go1.go ?_) | ((with_reducible first | refine brv_mk ?_ ?_ | refine gsplitD ?_ ?_ | refine gsplitG ?_ ?_) <;> intro h <;> (try simp only [Bool.not_eq_true', Bool.not_eq_false'] at h) <;> replace hb0 := h) | ((first | (with_reducible refine isCall (f := 79) ?_; refine callA_nil (by kernel_rfl) ?_) | (with_reducible refine isCall0 (f := 79) ?_; refine callA0_nil (by kernel_rfl) ?_)); refine (fmt_ok q _ a2 (okN_ofN _) (by omega) (fun M3 b1 => Stop.mk ?_))) | (refine And.intro ?ob ?_; case ob => ((try simp only [sxO, ne_eq, maxLen] at *); omega)) | fail) <;> (try simp (config := { maxSteps := 1000000 }) only [hb0, hn.one, hd.one, a2.one, a3.one, bs_mk, bs_app, bs_ext, bs_size, bs_toList, bs_at, bs_cells, List.take_length, imp_ga, guard_pk, guard_pk2, ↓hold_pre, awayP, runOps, regK, step1, newK, genR, appR, obl, buildR, Value.cells, closeK, keepH, outV, retK, ret1, retC, RetV, Option.getD, runD, stepD, afterK, undef, simprocAttr, sxB, ↓sxD, sxE, sxTab]))
  rw [fmtR_128 hql]
  have b1 : Mem.le M2 M3 := b1
  have hd := hd.le b1
  have a3 := a3.le b1
  have hM := (m1.trans a1).trans b1
  refine Stop.go ?_
  by_cases hj : j = 0
  · subst hj
    have d3 : decide (((0 : Nat) : Int) = 0) = true := by decide
    (replace hb0 := true_and True); refine Go1.mk ?_; repeat' ((first | (with_reducible refine Go1.go ?_) | ((with_reducible first | refine brv_mk ?_ ?_ | refine gsplitD ?_ ?_ | refine gsplitG ?_ ?_) <;> intro h <;> (try simp only [Bool.not_eq_true', Bool.not_eq_false'] at h) <;> replace hb0 := h) | (refine And.intro ?ob ?_; case ob => ((try simp only [sxO, ne_eq, maxLen] at *); omega)) | fail) <;> (try simp (config := { maxSteps := 1000000 }) only [hb0, hn.one, hd.one, d3, bs_mk, bs_app, bs_ext, bs_size, bs_toList, bs_at, bs_cells, List.take_length, imp_ga, guard_pk, guard_pk2, ↓hold_pre, awayP, runOps, regK, step1, newK, genR, appR, obl, buildR, Value.cells, closeK, keepH, outV, retK, ret1, retC, RetV, Option.getD, runD, stepD, afterK, undef, simprocAttr, sxB, ↓sxD, sxE, sxTab]))
    rw [show rouB n d 0 = decB (n / d) by simp [rouB]] at hK
    exact hK _ hM
  have d3 : decide ((j : Int) = 0) = false := by rw [decide_eq_false_iff_not]; omega
  (replace hb0 := true_and True); refine Go1.mk ?_; repeat' ((first | (with_reducible refine Go1.go ?_) | ((with_reducible first | refine brv_mk ?_ ?_ | refine gsplitD ?_ ?_ | refine gsplitG ?_ ?_) <;> intro h <;> (try simp only [Bool.not_eq_true', Bool.not_eq_false'] at h) <;> replace hb0 := h) | (refine And.intro ?ob ?_; case ob => ((try simp only [sxO, ne_eq, maxLen] at *); omega)) | fail) <;> (try simp (config := { maxSteps := 1000000 }) only [hb0, hn.one, hd.one, d3, bs_mk, bs_app, bs_ext, bs_size, bs_toList, bs_at, bs_cells, List.take_length, imp_ga, guard_pk, guard_pk2, ↓hold_pre, awayP, runOps, regK, step1, newK, genR, appR, obl, buildR, Value.cells, closeK, keepH, outV, retK, ret1, retC, RetV, Option.getD, runD, stepD, afterK, undef, simprocAttr, sxB, ↓sxD, sxE, sxTab]))
  refine ⟨fun z => z = roaSt M3 u1 u2 r j (decB (n / d)), ?_, ?_⟩
  · (replace hb0 := true_and True); refine Go1.mk ?_; repeat' ((first | (with_reducible refine Go1.go ?_) | ((with_reducible first | refine brv_mk ?_ ?_ | refine gsplitD ?_ ?_ | refine gsplitG ?_ ?_) <;> intro h <;> (try simp only [Bool.not_eq_true', Bool.not_eq_false'] at h) <;> replace hb0 := h) | (refine And.intro ?ob ?_; case ob => ((try simp only [sxO, ne_eq, maxLen] at *); omega)) | fail) <;> (try simp (config := { maxSteps := 1000000 }) only [hb0, hn.one, hd.one, bs_mk, bs_app, bs_ext, bs_size, bs_toList, bs_at, bs_cells, List.take_length, imp_ga, guard_pk, guard_pk2, ↓hold_pre, awayP, runOps, regK, step1, newK, genR, appR, obl, buildR, Value.cells, closeK, keepH, outV, retK, ret1, retC, RetV, Option.getD, runD, stepD, afterK, undef, simprocAttr, sxB, ↓sxD, sxE, sxTab]))
    exact ⟨roaSt M3 u1 u2 r j (decB (n / d)), (le_nilH 10 1 90 5 91 [.ext (.pointer none), .ext (.slice none 0 0)] 1 rfl rfl (.inl rfl)).trans (le_sub ⟨rfl, rfl, rfl, rfl, rfl, trivial⟩ ⟨rfl, rfl, rfl, trivial⟩ rfl rfl rfl (keepLt0 _)), rfl⟩
  rintro z rfl
  have hmod := Nat.mod_lt n q3
  (replace hb0 := true_and True); refine Go1.mk ?_; repeat' ((first | (with_reducible refine Go1.go ?_) | ((with_reducible first | refine brv_mk ?_ ?_ | refine gsplitD ?_ ?_ | refine gsplitG ?_ ?_) <;> intro h <;> (try simp only [Bool.not_eq_true', Bool.not_eq_false'] at h) <;> replace hb0 := h) | ((with_reducible refine isCall (f := 80) ?_); refine callKm [90] rfl (by rfl) (by simp [hasK]) ?_) | ((with_reducible refine isCallS (f := 80) ?_); refine (wstr_ok 10 90 _ [] (decB (n / d)) (by decide) (by decide) (by omega) (by simp) ?_)) | ((with_reducible refine isCall (f := 81) ?_); refine callKm [90] rfl (by rfl) (by simp [hasK]) ?_) | ((with_reducible refine isCallS (f := 81) ?_); refine (wbyte_ok 10 90 _ (decB (n / d)) 46 _ rfl (by decide) (by omega) (by simp) ?_)) | (refine And.intro ?ob ?_; case ob => ((try simp only [sxO, ne_eq, maxLen] at *); omega)) | fail) <;> (try simp (config := { maxSteps := 1000000 }) only [hb0, roaSt, bldH, hd.one, a3.one, cE_ment, cE_kill, hasK_nil, bs_mk, bs_app, bs_ext, bs_size, bs_toList, bs_at, bs_cells, List.take_length, imp_ga, guard_pk, guard_pk2, ↓hold_pre, awayP, runOps, regK, step1, newK, genR, appR, obl, buildR, Value.cells, closeK, keepH, outV, retK, ret1, retC, RetV, Option.getD, runD, stepD, afterK, undef, simprocAttr, sxB, ↓sxD, sxE, sxTab]))
  refine ⟨fun m z => ∃ M' w r i o, m = j - i ∧ i ≤ j ∧ Mem.le M M' ∧ Mem.le M3 M' ∧ IsL M' u32V w (ofN r) ∧ r < d ∧ o ++ digs r d (j - i) = rouB n d j ∧ z = robSt M' u1 u2 w j i (.own 10 0) o,
    ⟨j, robSt M3 u1 u2 r j 0 (.own 10 0) (decB (n / d) ++ [46]), le_sub ⟨rfl, rfl, rfl, rfl, rfl, trivial⟩ ⟨rfl, rfl, rfl, trivial⟩ rfl rfl rfl (keepLt0 _), ⟨M3, r, n % d, 0, _, by omega, by omega, hM, Mem.le.refl _, a3, hmod, by unfold rouB; rw [if_neg hj]; simp, rfl⟩⟩, ?_⟩
  have hd3 := hd
  clear hn hd a2 a3 hM
  rintro m z ⟨M4, w, r, i, o, rfl, hi, hM, hM3, hw, hrd, ho, rfl⟩
  have hd := hd3.le hM3
  have hol : o.length ≤ 6000 := by
    have := congrArg List.length ho
    unfold rouB at this
    rw [if_neg hj, List.length_append, List.length_append, List.length_cons, digs_len, digs_len] at this
    omega
  by_cases hlt : i = j
  · subst hlt
    have d4 : decide ((i : Int) = (i : Int)) = true := by simp
    rw [Nat.sub_self, digs, List.append_nil] at ho
    have hne : o ≠ [] := by
      rw [ho]; unfold rouB
      have := decB_ne (n / d)
      simp [this]
    rw [← ho] at hK
    (replace hb0 := true_and True); refine Go1.mk ?_; repeat' ((first | (with_reducible refine Go1.go ?_) | ((with_reducible first | refine brv_mk ?_ ?_ | refine gsplitD ?_ ?_ | refine gsplitG ?_ ?_) <;> intro h <;> (try simp only [Bool.not_eq_true', Bool.not_eq_false'] at h) <;> replace hb0 := h) | ((with_reducible refine isCall (f := 83) ?_); refine callKm [90] rfl (by rfl) (by simp [hasK]) ?_) | ((with_reducible refine isCallS (f := 83) ?_); refine (string_ok 10 90 _ o (by decide) (by simp) hne (by omega) ?_)) | (refine And.intro ?ob ?_; case ob => ((try simp only [sxO, ne_eq, maxLen] at *); omega)) | fail) <;> (try simp (config := { maxSteps := 1000000 }) only [hb0, robSt, bldH, hd.one, hw.one, d4, cE_ment, cE_kill, hasK_nil, bs_mk, bs_app, bs_ext, bs_size, bs_toList, bs_at, bs_cells, List.take_length, imp_ga, guard_pk, guard_pk2, ↓hold_pre, awayP, runOps, regK, step1, newK, genR, appR, obl, buildR, Value.cells, closeK, keepH, outV, retK, ret1, retC, RetV, Option.getD, runD, stepD, afterK, undef, simprocAttr, sxB, ↓sxD, sxE, sxTab]))
    exact hK _ hM
  have d4 : decide ((i : Int) = (j : Int)) = false := by rw [decide_eq_false_iff_not]; omega
  have hrl : (ofN r).length ≤ 128 := Nat.le_trans (len_mono (Nat.le_of_lt hrd)) q2
  have t1 := mul_len r 10
  have h10 : (ofN 10).length ≤ 1 := by rw [ofN_small (by decide) (by decide)]; decide
  have hdg := dig_lt hrd
  have hnr := Nat.mod_lt (r * 10) q3
  have wi : IntKind.i64.wrap ((i : Int) + 1) = ((i + 1 : Nat) : Int) := succ_i (by omega)
  rw [digs_pos (by omega)] at ho
  have ho2 : (o ++ [dgB (r * 10 / d)]) ++ digs (r * 10 % d) d (j - (i + 1)) = rouB n d j := by
    rw [← ho, show j - (i + 1) = j - i - 1 by omega]; simp
  (replace hb0 := true_and True); refine Go1.mk ?_; repeat' ((first | (with_reducible refine Go1.go ?_) | ((with_reducible first | refine brv_mk ?_ ?_ | refine gsplitD ?_ ?_ | refine gsplitG ?_ ?_) <;> intro h <;> (try simp only [Bool.not_eq_true', Bool.not_eq_false'] at h) <;> replace hb0 := h) | ((first | (with_reducible refine isCall (f := 82) ?_; refine callA_nil (by kernel_rfl) ?_) | (with_reducible refine isCall0 (f := 82) ?_; refine callA0_nil (by kernel_rfl) ?_)); refine (of_ok 10 (by decide) (fun w1 N1 c1 c2 c3 => Stop.mk ?_))) | ((with_reducible refine isDraw [some 53, some 54, some 55, some 56, some 57, some 58, some 52, some 59, some 60, some 12, some 13] (by decide) ?_); refine draw_rule [(0, []), (3, []), (4, []), (1, [4]), (2, [4]), (5, []), (6, []), (7, []), (8, []), (9, []), (10, [])] [[], [], [0, 1], [], [3], [0, 1, 2, 3, 4], [0, 1, 2, 3, 4, 5], [0, 1, 2, 3, 4, 5, 6], [0, 1, 2, 3, 4, 5, 6], [0, 1, 2, 3, 4, 5, 6, 7], [0, 1, 2, 3, 4, 5, 6, 7, 8, 9]] [53, 54, 55, 56, 57, 59, 60, 12] [] (by kernel_rfl) (by kernel_rfl) (by kernel_rfl) (by kernel_rfl) (by exact trivial) ?_) | (refine And.intro ?ob ?_; case ob => ((try simp only [sxO, ne_eq, maxLen] at *); omega)) | fail) <;> (try simp (config := { maxSteps := 1000000 }) only [hb0, robSt, bldH, hd.one, hw.one, d4, cE_ment, cE_kill, hasK_nil, bs_mk, bs_app, bs_ext, bs_size, bs_toList, bs_at, bs_cells, List.take_length, imp_ga, guard_pk, guard_pk2, ↓hold_pre, awayP, runOps, regK, step1, newK, genR, appR, obl, buildR, Value.cells, closeK, keepH, outV, retK, ret1, retC, RetV, Option.getD, runD, stepD, afterK, undef, simprocAttr, sxB, ↓sxD, sxE, sxTab]))
  have c1 : Mem.le M4 N1 := c1
  have hd := hd.le c1
  have hw := hw.le c1
  refine Stop.go ?_
  (replace hb0 := true_and True); refine Go1.mk ?_; repeat' ((first | (with_reducible refine Go1.go ?_) | ((with_reducible first | refine brv_mk ?_ ?_ | refine gsplitD ?_ ?_ | refine gsplitG ?_ ?_) <;> intro h <;> (try simp only [Bool.not_eq_true', Bool.not_eq_false'] at h) <;> replace hb0 := h) | ((first | (with_reducible refine isCall (f := 64) ?_; refine callA_nil (by kernel_rfl) ?_) | (with_reducible refine isCall0 (f := 64) ?_; refine callA0_nil (by kernel_rfl) ?_)); refine (mul_ok w w1 r 10 hw c2 (by omega) (by omega) (fun w2 N2 e1 e2 e3 => Stop.mk ?_))) | ((with_reducible refine isDraw [some 53, some 54, some 55, some 56, some 57, some 58, some 52, some 59, some 60, some 12, some 13] (by decide) ?_); refine draw_rule [(0, []), (3, []), (4, []), (1, [4]), (2, [4]), (5, []), (6, []), (7, []), (8, []), (9, []), (10, [])] [[], [], [0, 1], [], [3], [0, 1, 2, 3, 4], [0, 1, 2, 3, 4, 5], [0, 1, 2, 3, 4, 5, 6], [0, 1, 2, 3, 4, 5, 6], [0, 1, 2, 3, 4, 5, 6, 7], [0, 1, 2, 3, 4, 5, 6, 7, 8, 9]] [53, 54, 55, 56, 57, 59, 60, 12] [] (by kernel_rfl) (by kernel_rfl) (by kernel_rfl) (by kernel_rfl) (by exact trivial) ?_) | (refine And.intro ?ob ?_; case ob => ((try simp only [sxO, ne_eq, maxLen] at *); omega)) | fail) <;> (try simp (config := { maxSteps := 1000000 }) only [hb0, hd.one, hw.one, c2.one, cE_ment, cE_kill, hasK_nil, bs_mk, bs_app, bs_ext, bs_size, bs_toList, bs_at, bs_cells, List.take_length, imp_ga, guard_pk, guard_pk2, ↓hold_pre, awayP, runOps, regK, step1, newK, genR, appR, obl, buildR, Value.cells, closeK, keepH, outV, retK, ret1, retC, RetV, Option.getD, runD, stepD, afterK, undef, simprocAttr, sxB, ↓sxD, sxE, sxTab]))
  have e1 : Mem.le N1 N2 := e1
  have hd := hd.le e1
  refine Stop.go ?_
  (replace hb0 := true_and True); refine Go1.mk ?_; repeat' ((first | (with_reducible refine Go1.go ?_) | ((with_reducible first | refine brv_mk ?_ ?_ | refine gsplitD ?_ ?_ | refine gsplitG ?_ ?_) <;> intro h <;> (try simp only [Bool.not_eq_true', Bool.not_eq_false'] at h) <;> replace hb0 := h) | ((first | (with_reducible refine isCall (f := 77) ?_; refine callA_nil (by kernel_rfl) ?_) | (with_reducible refine isCall0 (f := 77) ?_; refine callA0_nil (by kernel_rfl) ?_)); refine (divide_ok w2 u2 _ d e2 hd (by omega) (by omega) q3 (fun w3 w4 N3 f1 f2 f3 _ _ => Stop.mk ?_))) | ((with_reducible refine isDraw [some 53, some 54, some 55, some 56, some 57, some 58, some 52, some 59, some 60, some 12, some 13] (by decide) ?_); refine draw_rule [(0, []), (3, []), (4, []), (1, [4]), (2, [4]), (5, []), (6, []), (7, []), (8, []), (9, []), (10, [])] [[], [], [0, 1], [], [3], [0, 1, 2, 3, 4], [0, 1, 2, 3, 4, 5], [0, 1, 2, 3, 4, 5, 6], [0, 1, 2, 3, 4, 5, 6], [0, 1, 2, 3, 4, 5, 6, 7], [0, 1, 2, 3, 4, 5, 6, 7, 8, 9]] [53, 54, 55, 56, 57, 59, 60, 12] [] (by kernel_rfl) (by kernel_rfl) (by kernel_rfl) (by kernel_rfl) (by exact trivial) ?_) | (refine And.intro ?ob ?_; case ob => ((try simp only [sxO, ne_eq, maxLen] at *); omega)) | fail) <;> (try simp (config := { maxSteps := 1000000 }) only [hb0, hd.one, e2.one, cE_ment, cE_kill, hasK_nil, bs_mk, bs_app, bs_ext, bs_size, bs_toList, bs_at, bs_cells, List.take_length, imp_ga, guard_pk, guard_pk2, ↓hold_pre, awayP, runOps, regK, step1, newK, genR, appR, obl, buildR, Value.cells, closeK, keepH, outV, retK, ret1, retC, RetV, Option.getD, runD, stepD, afterK, undef, simprocAttr, sxB, ↓sxD, sxE, sxTab]))
  have f1 : Mem.le N2 N3 := f1
  have hd := hd.le f1
  have hN := ((c1.trans e1).trans f1)
  generalize hq : r * 10 / d = q at *
  generalize hr2 : r * 10 % d = r2 at *
  refine Stop.go ?_
  by_cases hq0 : q = 0
  · subst hq0
    have f2 : IsL N3 u32V w3 [] := by rw [ofN_zero] at f2; exact f2
    have d5 : decide (((([] : List Nat).length : Nat) : Int) = 0) = true := by decide
    (replace hb0 := true_and True); refine Go1.mk ?_; repeat' ((first | (with_reducible refine Go1.go ?_) | ((with_reducible first | refine brv_mk ?_ ?_ | refine gsplitD ?_ ?_ | refine gsplitG ?_ ?_) <;> intro h <;> (try simp only [Bool.not_eq_true', Bool.not_eq_false'] at h) <;> replace hb0 := h) | ((with_reducible refine isCall (f := 81) ?_); refine callKm [90] rfl (by rfl) (by simp [hasK]) ?_) | ((with_reducible refine isCallS (f := 81) ?_); refine (wbyte_ok 10 90 _ o (dgB 0) _ rfl (by decide) (by omega) (by simp) ?_)) | (refine And.intro ?ob ?_; case ob => ((try simp only [sxO, ne_eq, maxLen] at *); omega)) | fail) <;> (try simp (config := { maxSteps := 1000000 }) only [hb0, bldH, hd.one, f2.one, f2.len, f2.sl, f3.one, d5, wi, cE_ment, cE_kill, hasK_nil, bs_mk, bs_app, bs_ext, bs_size, bs_toList, bs_at, bs_cells, List.take_length, imp_ga, guard_pk, guard_pk2, ↓hold_pre, awayP, runOps, regK, step1, newK, genR, appR, obl, buildR, Value.cells, closeK, keepH, outV, retK, ret1, retC, RetV, Option.getD, runD, stepD, afterK, undef, simprocAttr, sxB, ↓sxD, sxE, sxTab]))
    exact ⟨j - (i + 1), robSt N3 u1 u2 w4 j (i + 1) (.own 10 0) (o ++ [dgB 0]), by omega, le_sub ⟨rfl, rfl, rfl, rfl, rfl, trivial⟩ ⟨rfl, rfl, rfl, trivial⟩ rfl rfl rfl (keepLt0 _), N3, w4, r2, i + 1, _, rfl, by omega, hM.trans hN, hM3.trans hN, f3, hnr, ho2, rfl⟩
  · have f2 : IsL N3 u32V w3 [q] := by rw [ofN_small (by omega) (by omega)] at f2; exact f2
    have d5 : decide ((([q].length : Nat) : Int) = 0) = false := by simp
    have hyi := f2.idx (P := Tryd.prog) (T := 70) tk70 tz70 (by simp) (show 0 < [q].length by simp)
    have hu8 := dg_u8' hdg
    (replace hb0 := true_and True); refine Go1.mk ?_; repeat' ((first | (with_reducible refine Go1.go ?_) | ((with_reducible first | refine brv_mk ?_ ?_ | refine gsplitD ?_ ?_ | refine gsplitG ?_ ?_) <;> intro h <;> (try simp only [Bool.not_eq_true', Bool.not_eq_false'] at h) <;> replace hb0 := h) | ((with_reducible refine isCall (f := 81) ?_); refine callKm [90] rfl (by rfl) (by simp [hasK]) ?_) | ((with_reducible refine isCallS (f := 81) ?_); refine (wbyte_ok 10 90 _ o (dgB q) _ hu8 (by decide) (by omega) (by simp) ?_)) | (refine And.intro ?ob ?_; case ob => ((try simp only [sxO, ne_eq, maxLen] at *); omega)) | fail) <;> (try simp (config := { maxSteps := 1000000 }) only [hb0, u32V, bldH, hd.one, f2.one, f2.len, f2.sl, f3.one, d5, hyi, wi, Int.natCast_zero, Int.cast_ofNat_Int, cE_ment, cE_kill, hasK_nil, bs_mk, bs_app, bs_ext, bs_size, bs_toList, bs_at, bs_cells, List.take_length, imp_ga, guard_pk, guard_pk2, ↓hold_pre, awayP, runOps, regK, step1, newK, genR, appR, obl, buildR, Value.cells, closeK, keepH, outV, retK, ret1, retC, RetV, Option.getD, runD, stepD, afterK, undef, simprocAttr, sxB, ↓sxD, sxE, sxTab]))
    exact ⟨j - (i + 1), robSt N3 u1 u2 w4 j (i + 1) (.own 10 0) (o ++ [dgB q]), by omega, le_sub ⟨rfl, rfl, rfl, rfl, rfl, trivial⟩ ⟨rfl, rfl, rfl, trivial⟩ rfl rfl rfl (keepLt0 _), N3, w4, r2, i + 1, _, rfl, by omega, hM.trans hN, hM3.trans hN, f3, hnr, ho2, rfl⟩
end
end Go.Proofs.YtamghpnjdohnjaaDoor.Sx
namespace Go.Proofs.YtamghpnjdohnjaaDoor.Sx
open Go Go.RowKit
set_option linter.unusedVariables false
set_option linter.unusedSimpArgs false
set_option maxRecDepth 100000
set_option maxHeartbeats 8000000
attribute [local congr] fin_congr finG_congr stepG_congr step1_congr runOps_congr brv_congr obl_congr condK_congr LoopK_congr seqK_congr CutK_congr vc_congr DrawK_congr regK_congr CallK_congr AskK_congr newK_congr retC_congr ret1_congr retK_congr outV_congr closeK_congr genR_congr appR_congr finD_congr finGD_congr stepGD_congr stepD_congr CallK0_congr runD_congr okR_congr CallS_congr vcX_congr
attribute [local congr] Stop_congr
theorem dec_128 {n : Nat} (h : (ofN n).length ≤ 128) : (dec n).length < 100000 := by
  obtain ⟨k, hk⟩ : ∃ k, k = 128 := ⟨_, rfl⟩
  rw [← hk] at h
  have h1 := ofN_len_lt h
  rw [wN_pow2] at h1
  have := dec_short2 _ _ h1
  omega
section
variable {M : Mem} {K : AV → Hp → Mem → Prop} {u1 u2 : Value} {l1 l2 : List Nat}
end
end Go.Proofs.YtamghpnjdohnjaaDoor.Sx
namespace Go.Proofs.YtamghpnjdohnjaaDoor.Sx
open Go Go.RowKit
set_option linter.unusedVariables false
set_option linter.unusedSimpArgs false
set_option maxRecDepth 100000
set_option maxHeartbeats 8000000
attribute [local congr] fin_congr finG_congr stepG_congr step1_congr runOps_congr brv_congr obl_congr condK_congr LoopK_congr seqK_congr CutK_congr vc_congr DrawK_congr regK_congr CallK_congr AskK_congr newK_congr retC_congr ret1_congr retK_congr outV_congr closeK_congr genR_congr appR_congr finD_congr finGD_congr stepGD_congr stepD_congr CallK0_congr runD_congr okR_congr CallS_congr vcX_congr
attribute [local congr] Stop_congr
theorem dg_sub64 {b : UInt8} (h : dgT b = true) : IntKind.u64.wrap (IntKind.u8.wrap ((b.toNat : Int) - 48)) = ((dgV b : Nat) : Int) := by
  obtain ⟨h1, h2⟩ := dg_sub h
  rw [h1, wrap64_id (by omega)]
theorem updM_le2 {M : Mem} {b : Nat} {o : Obj} (h : M b = none) : Mem.le M (updM M b o) := fun x y hx => by
  by_cases e : x = b
  · subst e; rw [h] at hx; cases hx
  · rw [updM_ne e]; exact hx
section
variable {M : Mem} {K : AV → Hp → Mem → Prop}
def npaSt (M : Mem) (l : List UInt8) : St := { env := [(0, .ext (.string (bs l)))], hp := [], M := M, kb := 0, fx := [] }
def npbSt (M : Mem) (r : List UInt8) (w : Value) : St := { env := [(4, .ext w), (0, .ext (.string (bs r)))], hp := [], M := M, kb := 0, fx := [] }
def npcSt (M : Mem) (r : List UInt8) (w : Value) (n : Nat) (b cap j part power : Nat) : St := { env := [(43, .ext (.int .i64 (j : Int))), (42, .ext (.int .i64 (n : Int))), (41, .ext (.slice (some ⟨b, 0, none⟩) n cap)), (7, .ext (.int .u64 (power : Int))), (6, .ext (.int .u64 (part : Int))), (5, .ext (.int .i64 (n : Int))), (4, .ext w), (0, .ext (.string (bs r)))], hp := [], M := M, kb := 0, fx := [] }
theorem nparse_ok (l : List UInt8) (hl : l.length < 1000000000) (hK : NatR M K (parR l)) : CallS Tryd.prog 86 [.ext (.string (bs l))] [] M [] K := by
  refine inlS (cs := [5]) Tryd.mixed Tryd.func86 rfl (by kernel_rfl) 0 rfl rfl ?_
  simp only [Tryd.f86]
  unfold parR at hK
  by_cases h13 : 1300 < l.length
  · have d1 : decide ((1300 : Int) < (l.length : Int)) = true := by rw [decide_eq_true_eq]; omega
    rw [if_pos h13] at hK
    (replace hb0 := true_and True); refine Go1.mk ?_; repeat' ((first | (with_reducible refine Go1.go ?_) | ((with_reducible first | refine brv_mk ?_ ?_ | refine gsplitD ?_ ?_ | refine gsplitG ?_ ?_) <;> intro h <;> (try simp only [Bool.not_eq_true', Bool.not_eq_false'] at h) <;> replace hb0 := h) | (refine And.intro ?ob ?_; case ob => ((try simp only [sxO, ne_eq, maxLen] at *); omega)) | fail) <;> (try simp (config := { maxSteps := 1000000 }) only [hb0, d1, bs_mk, bs_app, bs_ext, bs_size, bs_toList, bs_at, bs_cells, List.take_length, imp_ga, guard_pk, guard_pk2, ↓hold_pre, awayP, runOps, regK, step1, newK, genR, appR, obl, buildR, Value.cells, closeK, keepH, outV, retK, ret1, retC, RetV, Option.getD, runD, stepD, afterK, undef, simprocAttr, sxB, ↓sxD, sxE, sxTab]))
    exact NatR.err _ hK
  have d1 : decide ((1300 : Int) < (l.length : Int)) = false := by rw [decide_eq_false_iff_not]; omega
  rw [if_neg h13] at hK
  (replace hb0 := true_and True); refine Go1.mk ?_; repeat' ((first | (with_reducible refine Go1.go ?_) | ((with_reducible first | refine brv_mk ?_ ?_ | refine gsplitD ?_ ?_ | refine gsplitG ?_ ?_) <;> intro h <;> (try simp only [Bool.not_eq_true', Bool.not_eq_false'] at h) <;> replace hb0 := h) | (refine And.intro ?ob ?_; case ob => ((try simp only [sxO, ne_eq, maxLen] at *); omega)) | fail) <;> (try simp (config := { maxSteps := 1000000 }) only [hb0, d1, bs_mk, bs_app, bs_ext, bs_size, bs_toList, bs_at, bs_cells, List.take_length, imp_ga, guard_pk, guard_pk2, ↓hold_pre, awayP, runOps, regK, step1, newK, genR, appR, obl, buildR, Value.cells, closeK, keepH, outV, retK, ret1, retC, RetV, Option.getD, runD, stepD, afterK, undef, simprocAttr, sxB, ↓sxD, sxE, sxTab]))
  refine ⟨fun z => ¬ (l = [] ∨ (1 < l.length ∧ l.getD 0 0 = 48)) ∧ l.all dgT = true ∧ z = npaSt M l, ?_, ?_⟩
  · by_cases hne : l = []
    · subst hne
      have e1 : (([] : List UInt8) == []) = true := rfl
      (replace hb0 := true_and True); refine Go1.mk ?_; repeat' ((first | (with_reducible refine Go1.go ?_) | ((with_reducible first | refine brv_mk ?_ ?_ | refine gsplitD ?_ ?_ | refine gsplitG ?_ ?_) <;> intro h <;> (try simp only [Bool.not_eq_true', Bool.not_eq_false'] at h) <;> replace hb0 := h) | (refine And.intro ?ob ?_; case ob => ((try simp only [sxO, ne_eq, maxLen] at *); omega)) | fail) <;> (try simp (config := { maxSteps := 1000000 }) only [hb0, e1, bs_mk, bs_app, bs_ext, bs_size, bs_toList, bs_at, bs_cells, List.take_length, imp_ga, guard_pk, guard_pk2, ↓hold_pre, awayP, runOps, regK, step1, newK, genR, appR, obl, buildR, Value.cells, closeK, keepH, outV, retK, ret1, retC, RetV, Option.getD, runD, stepD, afterK, undef, simprocAttr, sxB, ↓sxD, sxE, sxTab]))
      exact NatR.err _ hK
    have e1 : (l == []) = false := by simpa using hne
    have d0 : (0 : Int) < (l.length : Int) := by
      have := List.length_pos_iff.2 hne
      omega
    by_cases h1 : 1 < l.length
    · have d2 : decide ((1 : Int) < (l.length : Int)) = true := by rw [decide_eq_true_eq]; omega
      by_cases hz : l.getD 0 0 = 48
      · have d4 : decide (((l.getD 0 0).toNat : Int) = 48) = true := by rw [hz]; rfl
        rw [if_pos (.inr ⟨h1, hz⟩)] at hK
        (replace hb0 := true_and True); refine Go1.mk ?_; repeat' ((first | (with_reducible refine Go1.go ?_) | ((with_reducible first | refine brv_mk ?_ ?_ | refine gsplitD ?_ ?_ | refine gsplitG ?_ ?_) <;> intro h <;> (try simp only [Bool.not_eq_true', Bool.not_eq_false'] at h) <;> replace hb0 := h) | (refine And.intro ?ob ?_; case ob => ((try simp only [sxO, ne_eq, maxLen] at *); omega)) | fail) <;> (try simp (config := { maxSteps := 1000000 }) only [hb0, e1, d0, d2, d4, bs_mk, bs_app, bs_ext, bs_size, bs_toList, bs_at, bs_cells, List.take_length, imp_ga, guard_pk, guard_pk2, ↓hold_pre, awayP, runOps, regK, step1, newK, genR, appR, obl, buildR, Value.cells, closeK, keepH, outV, retK, ret1, retC, RetV, Option.getD, runD, stepD, afterK, undef, simprocAttr, sxB, ↓sxD, sxE, sxTab]))
        exact NatR.err _ hK
      · have d4 : decide (((l.getD 0 0).toNat : Int) = 48) = false := by
          rw [decide_eq_false_iff_not]
          intro e
          exact hz (UInt8.toNat_inj.1 (show (l.getD 0 0).toNat = (48 : UInt8).toNat by rw [show (48 : UInt8).toNat = 48 from rfl]; omega))
        have hh : ¬ (l = [] ∨ (1 < l.length ∧ l.getD 0 0 = 48)) := fun h => by
          rcases h with h | h
          · exact hne h
          · exact hz h.2
        rw [if_neg hh] at hK
        (replace hb0 := true_and True); refine Go1.mk ?_; repeat' ((first | (with_reducible refine Go1.go ?_) | ((with_reducible first | refine brv_mk ?_ ?_ | refine gsplitD ?_ ?_ | refine gsplitG ?_ ?_) <;> intro h <;> (try simp only [Bool.not_eq_true', Bool.not_eq_false'] at h) <;> replace hb0 := h) | ((first | (with_reducible refine isCall (f := 111) ?_; refine callA_nil (by kernel_rfl) ?_) | (with_reducible refine isCall0 (f := 111) ?_; refine callA0_nil (by kernel_rfl) ?_)); refine (strTrim_ok l hl (fun r hr => Stop.mk ?_))) | (refine And.intro ?ob ?_; case ob => ((try simp only [sxO, ne_eq, maxLen] at *); omega)) | fail) <;> (try simp (config := { maxSteps := 1000000 }) only [hb0, e1, d0, d2, d4, bs_mk, bs_app, bs_ext, bs_size, bs_toList, bs_at, bs_cells, List.take_length, imp_ga, guard_pk, guard_pk2, ↓hold_pre, awayP, runOps, regK, step1, newK, genR, appR, obl, buildR, Value.cells, closeK, keepH, outV, retK, ret1, retC, RetV, Option.getD, runD, stepD, afterK, undef, simprocAttr, sxB, ↓sxD, sxE, sxTab]))
        refine Stop.go ?_
        by_cases hr0 : r = []
        · have e2 : (r == []) = true := by simpa using hr0
          (replace hb0 := true_and True); refine Go1.mk ?_; repeat' ((first | (with_reducible refine Go1.go ?_) | ((with_reducible first | refine brv_mk ?_ ?_ | refine gsplitD ?_ ?_ | refine gsplitG ?_ ?_) <;> intro h <;> (try simp only [Bool.not_eq_true', Bool.not_eq_false'] at h) <;> replace hb0 := h) | (refine And.intro ?ob ?_; case ob => ((try simp only [sxO, ne_eq, maxLen] at *); omega)) | fail) <;> (try simp (config := { maxSteps := 1000000 }) only [hb0, e2, bs_mk, bs_app, bs_ext, bs_size, bs_toList, bs_at, bs_cells, List.take_length, imp_ga, guard_pk, guard_pk2, ↓hold_pre, awayP, runOps, regK, step1, newK, genR, appR, obl, buildR, Value.cells, closeK, keepH, outV, retK, ret1, retC, RetV, Option.getD, runD, stepD, afterK, undef, simprocAttr, sxB, ↓sxD, sxE, sxTab]))
          exact ⟨npaSt M l, le_sub ⟨rfl, trivial⟩ trivial rfl rfl rfl (keepLt0 _), hh, List.all_eq_true.2 (hr.1 hr0), rfl⟩
        · have e2 : (r == []) = false := by simpa using hr0
          rw [if_neg (fun h => hr0 (hr.2 (List.all_eq_true.1 h)))] at hK
          (replace hb0 := true_and True); refine Go1.mk ?_; repeat' ((first | (with_reducible refine Go1.go ?_) | ((with_reducible first | refine brv_mk ?_ ?_ | refine gsplitD ?_ ?_ | refine gsplitG ?_ ?_) <;> intro h <;> (try simp only [Bool.not_eq_true', Bool.not_eq_false'] at h) <;> replace hb0 := h) | (refine And.intro ?ob ?_; case ob => ((try simp only [sxO, ne_eq, maxLen] at *); omega)) | fail) <;> (try simp (config := { maxSteps := 1000000 }) only [hb0, e2, bs_mk, bs_app, bs_ext, bs_size, bs_toList, bs_at, bs_cells, List.take_length, imp_ga, guard_pk, guard_pk2, ↓hold_pre, awayP, runOps, regK, step1, newK, genR, appR, obl, buildR, Value.cells, closeK, keepH, outV, retK, ret1, retC, RetV, Option.getD, runD, stepD, afterK, undef, simprocAttr, sxB, ↓sxD, sxE, sxTab]))
          exact NatR.err _ hK
    · have d2 : decide ((1 : Int) < (l.length : Int)) = false := by rw [decide_eq_false_iff_not]; omega
      have hh : ¬ (l = [] ∨ (1 < l.length ∧ l.getD 0 0 = 48)) := fun h => by
        rcases h with h | h
        · exact hne h
        · exact h1 h.1
      rw [if_neg hh] at hK
      (replace hb0 := true_and True); refine Go1.mk ?_; repeat' ((first | (with_reducible refine Go1.go ?_) | ((with_reducible first | refine brv_mk ?_ ?_ | refine gsplitD ?_ ?_ | refine gsplitG ?_ ?_) <;> intro h <;> (try simp only [Bool.not_eq_true', Bool.not_eq_false'] at h) <;> replace hb0 := h) | ((first | (with_reducible refine isCall (f := 111) ?_; refine callA_nil (by kernel_rfl) ?_) | (with_reducible refine isCall0 (f := 111) ?_; refine callA0_nil (by kernel_rfl) ?_)); refine (strTrim_ok l hl (fun r hr => Stop.mk ?_))) | (refine And.intro ?ob ?_; case ob => ((try simp only [sxO, ne_eq, maxLen] at *); omega)) | fail) <;> (try simp (config := { maxSteps := 1000000 }) only [hb0, e1, d0, d2, bs_mk, bs_app, bs_ext, bs_size, bs_toList, bs_at, bs_cells, List.take_length, imp_ga, guard_pk, guard_pk2, ↓hold_pre, awayP, runOps, regK, step1, newK, genR, appR, obl, buildR, Value.cells, closeK, keepH, outV, retK, ret1, retC, RetV, Option.getD, runD, stepD, afterK, undef, simprocAttr, sxB, ↓sxD, sxE, sxTab]))
      refine Stop.go ?_
      by_cases hr0 : r = []
      · have e2 : (r == []) = true := by simpa using hr0
        (replace hb0 := true_and True); refine Go1.mk ?_; repeat' ((first | (with_reducible refine Go1.go ?_) | ((with_reducible first | refine brv_mk ?_ ?_ | refine gsplitD ?_ ?_ | refine gsplitG ?_ ?_) <;> intro h <;> (try simp only [Bool.not_eq_true', Bool.not_eq_false'] at h) <;> replace hb0 := h) | (refine And.intro ?ob ?_; case ob => ((try simp only [sxO, ne_eq, maxLen] at *); omega)) | fail) <;> (try simp (config := { maxSteps := 1000000 }) only [hb0, e2, bs_mk, bs_app, bs_ext, bs_size, bs_toList, bs_at, bs_cells, List.take_length, imp_ga, guard_pk, guard_pk2, ↓hold_pre, awayP, runOps, regK, step1, newK, genR, appR, obl, buildR, Value.cells, closeK, keepH, outV, retK, ret1, retC, RetV, Option.getD, runD, stepD, afterK, undef, simprocAttr, sxB, ↓sxD, sxE, sxTab]))
        exact ⟨npaSt M l, le_sub ⟨rfl, trivial⟩ trivial rfl rfl rfl (keepLt0 _), hh, List.all_eq_true.2 (hr.1 hr0), rfl⟩
      · have e2 : (r == []) = false := by simpa using hr0
        rw [if_neg (fun h => hr0 (hr.2 (List.all_eq_true.1 h)))] at hK
        (replace hb0 := true_and True); refine Go1.mk ?_; repeat' ((first | (with_reducible refine Go1.go ?_) | ((with_reducible first | refine brv_mk ?_ ?_ | refine gsplitD ?_ ?_ | refine gsplitG ?_ ?_) <;> intro h <;> (try simp only [Bool.not_eq_true', Bool.not_eq_false'] at h) <;> replace hb0 := h) | (refine And.intro ?ob ?_; case ob => ((try simp only [sxO, ne_eq, maxLen] at *); omega)) | fail) <;> (try simp (config := { maxSteps := 1000000 }) only [hb0, e2, bs_mk, bs_app, bs_ext, bs_size, bs_toList, bs_at, bs_cells, List.take_length, imp_ga, guard_pk, guard_pk2, ↓hold_pre, awayP, runOps, regK, step1, newK, genR, appR, obl, buildR, Value.cells, closeK, keepH, outV, retK, ret1, retC, RetV, Option.getD, runD, stepD, afterK, undef, simprocAttr, sxB, ↓sxD, sxE, sxTab]))
        exact NatR.err _ hK
  rintro z ⟨hh, hall, rfl⟩
  rw [if_neg hh, if_pos hall] at hK
  have hall := List.all_eq_true.1 hall
  (replace hb0 := true_and True); refine Go1.mk ?_; repeat' ((first | (with_reducible refine Go1.go ?_) | ((with_reducible first | refine brv_mk ?_ ?_ | refine gsplitD ?_ ?_ | refine gsplitG ?_ ?_) <;> intro h <;> (try simp only [Bool.not_eq_true', Bool.not_eq_false'] at h) <;> replace hb0 := h) | (refine And.intro ?ob ?_; case ob => ((try simp only [sxO, ne_eq, maxLen] at *); omega)) | fail) <;> (try simp (config := { maxSteps := 1000000 }) only [hb0, npaSt, bs_mk, bs_app, bs_ext, bs_size, bs_toList, bs_at, bs_cells, List.take_length, imp_ga, guard_pk, guard_pk2, ↓hold_pre, awayP, runOps, regK, step1, newK, genR, appR, obl, buildR, Value.cells, closeK, keepH, outV, retK, ret1, retC, RetV, Option.getD, runD, stepD, afterK, undef, simprocAttr, sxB, ↓sxD, sxE, sxTab]))
  refine ⟨fun d z => ∃ M' w p r, d = r.length ∧ p ++ r = l ∧ Mem.le M M' ∧ IsL M' u32V w (ofN (numB p)) ∧ FreshS M w ∧ z = npbSt M' r w,
    ⟨l.length, npbSt M l (.slice none 0 0), le_sub ⟨rfl, rfl, trivial⟩ trivial rfl rfl rfl (keepLt0 _), ⟨M, _, [], l, rfl, rfl, Mem.le.refl _, by rw [show numB [] = 0 from rfl, ofN_zero]; exact isL_nil _ _ _, freshS_nil _ _, rfl⟩⟩, ?_⟩
  rintro d z ⟨M1, w, p, r, rfl, hpr, hM1, hw, hwf, rfl⟩
  have hll : p.length + r.length = l.length := by rw [← hpr, List.length_append]
  have hp : ∀ b ∈ p, dgT b = true := fun b hb => hall b (by rw [← hpr]; simp [hb])
  have hr : ∀ b ∈ r, dgT b = true := fun b hb => hall b (by rw [← hpr]; simp [hb])
  have hwl := ten_len (numB_len hp)
  by_cases hr0 : r.length = 0
  · have hrn : r = [] := List.length_eq_zero_iff.1 hr0
    subst hrn
    rw [List.append_nil] at hpr
    subst hpr
    obtain ⟨k1, k2⟩ := hK.lim hM1 hw hwf
    have n0 : ([] : List UInt8).length = 0 := rfl
    have d2 : decide ((0 : Int) < ((0 : Nat) : Int)) = false := by decide
    by_cases h : (ofN (numB p)).length ≤ 128
    · (replace hb0 := true_and True); refine Go1.mk ?_; repeat' ((first | (with_reducible refine Go1.go ?_) | ((with_reducible first | refine brv_mk ?_ ?_ | refine gsplitD ?_ ?_ | refine gsplitG ?_ ?_) <;> intro h <;> (try simp only [Bool.not_eq_true', Bool.not_eq_false'] at h) <;> replace hb0 := h) | ((first | (with_reducible refine isCall (f := 112) ?_; refine callA_nil (by kernel_rfl) ?_) | (with_reducible refine isCall0 (f := 112) ?_; refine callA0_nil (by kernel_rfl) ?_)); refine (limit_ok w _ hw (fun _ => Stop.mk ?_) (fun h2 => absurd h (by omega)))) | (refine And.intro ?ob ?_; case ob => ((try simp only [sxO, ne_eq, maxLen] at *); omega)) | fail) <;> (try simp (config := { maxSteps := 1000000 }) only [hb0, npbSt, hw.one, n0, d2, bs_mk, bs_app, bs_ext, bs_size, bs_toList, bs_at, bs_cells, List.take_length, imp_ga, guard_pk, guard_pk2, ↓hold_pre, awayP, runOps, regK, step1, newK, genR, appR, obl, buildR, Value.cells, closeK, keepH, outV, retK, ret1, retC, RetV, Option.getD, runD, stepD, afterK, undef, simprocAttr, sxB, ↓sxD, sxE, sxTab]))
      refine Stop.go ?_
      (replace hb0 := true_and True); refine Go1.mk ?_; repeat' ((first | (with_reducible refine Go1.go ?_) | ((with_reducible first | refine brv_mk ?_ ?_ | refine gsplitD ?_ ?_ | refine gsplitG ?_ ?_) <;> intro h <;> (try simp only [Bool.not_eq_true', Bool.not_eq_false'] at h) <;> replace hb0 := h) | (refine And.intro ?ob ?_; case ob => ((try simp only [sxO, ne_eq, maxLen] at *); omega)) | fail) <;> (try simp (config := { maxSteps := 1000000 }) only [hb0, hw.one, bs_mk, bs_app, bs_ext, bs_size, bs_toList, bs_at, bs_cells, List.take_length, imp_ga, guard_pk, guard_pk2, ↓hold_pre, awayP, runOps, regK, step1, newK, genR, appR, obl, buildR, Value.cells, closeK, keepH, outV, retK, ret1, retC, RetV, Option.getD, runD, stepD, afterK, undef, simprocAttr, sxB, ↓sxD, sxE, sxTab]))
      exact k1 h
    · (replace hb0 := true_and True); refine Go1.mk ?_; repeat' ((first | (with_reducible refine Go1.go ?_) | ((with_reducible first | refine brv_mk ?_ ?_ | refine gsplitD ?_ ?_ | refine gsplitG ?_ ?_) <;> intro h <;> (try simp only [Bool.not_eq_true', Bool.not_eq_false'] at h) <;> replace hb0 := h) | ((first | (with_reducible refine isCall (f := 112) ?_; refine callA_nil (by kernel_rfl) ?_) | (with_reducible refine isCall0 (f := 112) ?_; refine callA0_nil (by kernel_rfl) ?_)); refine (limit_ok w _ hw (fun h2 => absurd h2 h) (fun _ => Stop.mk ?_))) | (refine And.intro ?ob ?_; case ob => ((try simp only [sxO, ne_eq, maxLen] at *); omega)) | fail) <;> (try simp (config := { maxSteps := 1000000 }) only [hb0, npbSt, hw.one, n0, d2, bs_mk, bs_app, bs_ext, bs_size, bs_toList, bs_at, bs_cells, List.take_length, imp_ga, guard_pk, guard_pk2, ↓hold_pre, awayP, runOps, regK, step1, newK, genR, appR, obl, buildR, Value.cells, closeK, keepH, outV, retK, ret1, retC, RetV, Option.getD, runD, stepD, afterK, undef, simprocAttr, sxB, ↓sxD, sxE, sxTab]))
      refine Stop.go ?_
      (replace hb0 := true_and True); refine Go1.mk ?_; repeat' ((first | (with_reducible refine Go1.go ?_) | ((with_reducible first | refine brv_mk ?_ ?_ | refine gsplitD ?_ ?_ | refine gsplitG ?_ ?_) <;> intro h <;> (try simp only [Bool.not_eq_true', Bool.not_eq_false'] at h) <;> replace hb0 := h) | (refine And.intro ?ob ?_; case ob => ((try simp only [sxO, ne_eq, maxLen] at *); omega)) | fail) <;> (try simp (config := { maxSteps := 1000000 }) only [hb0, bs_mk, bs_app, bs_ext, bs_size, bs_toList, bs_at, bs_cells, List.take_length, imp_ga, guard_pk, guard_pk2, ↓hold_pre, awayP, runOps, regK, step1, newK, genR, appR, obl, buildR, Value.cells, closeK, keepH, outV, retK, ret1, retC, RetV, Option.getD, runD, stepD, afterK, undef, simprocAttr, sxB, ↓sxD, sxE, sxTab]))
      exact k2 (by omega)
  obtain ⟨n, hn⟩ : ∃ n, n = (r.length - 1) % 9 + 1 := ⟨_, rfl⟩
  have hn9 : n ≤ 9 := by omega
  have hnr : n ≤ r.length := by omega
  have d2 : decide ((0 : Int) < (r.length : Int)) = true := by rw [decide_eq_true_eq]; omega
  have w1 : IntKind.i64.wrap ((r.length : Int) - 1) = ((r.length - 1 : Nat) : Int) := pred_i (by omega) (by omega)
  have w2 : ((r.length - 1 : Nat) : Int).tmod 9 = (((r.length - 1) % 9 : Nat) : Int) := by rw [show (9 : Int) = ((9 : Nat) : Int) from rfl, ← Int.ofNat_tmod]
  have w3 : IntKind.i64.wrap ((((r.length - 1) % 9 : Nat) : Int) + 1) = (n : Int) := by rw [succ_i (by omega), ← hn]
  have a1 : (0 : Int) ≤ (n : Int) := by omega
  have a2 : (n : Int) ≤ (r.length : Int) := by omega
  have n9 : ((9 : Int) ≠ 0) = True := by decide
  (replace hb0 := true_and True); refine Go1.mk ?_; repeat' ((first | (with_reducible refine Go1.go ?_) | ((with_reducible first | refine brv_mk ?_ ?_ | refine gsplitD ?_ ?_ | refine gsplitG ?_ ?_) <;> intro h <;> (try simp only [Bool.not_eq_true', Bool.not_eq_false'] at h) <;> replace hb0 := h) | (refine And.intro ?ob ?_; case ob => ((try simp only [sxO, ne_eq, maxLen] at *); omega)) | fail) <;> (try simp (config := { maxSteps := 1000000 }) only [hb0, npbSt, hw.one, d2, w1, w2, w3, a1, a2, List.drop_zero, bs_mk, bs_app, bs_ext, bs_size, bs_toList, bs_at, bs_cells, List.take_length, imp_ga, guard_pk, guard_pk2, ↓hold_pre, awayP, runOps, regK, step1, newK, genR, appR, obl, buildR, Value.cells, closeK, keepH, outV, retK, ret1, retC, RetV, Option.getD, runD, stepD, afterK, undef, simprocAttr, sxB, ↓sxD, sxE, sxTab]))
  obtain ⟨g, hg⟩ : ∃ g, g = r.take n := ⟨_, rfl⟩
  have hgl : g.length = n := by rw [hg, List.length_take]; omega
  have hgd : ∀ b ∈ g, dgT b = true := fun b hb => hr b (List.mem_of_mem_take (hg ▸ hb))
  refine ask_bytesOf (E := 5) (l := g) rfl (by kernel_rfl) (by kernel_rfl) (by kernel_rfl) (by rw [hg]; rfl) (fun b ob cap hb hbuf hcap => ?_)
  have hb : M1 b = none := hb
  have hbuf : BufM (updM M1 b ob) b 5 g := hbuf
  have hM2 : Mem.le M1 (updM M1 b ob) := updM_le2 hb
  generalize updM M1 b ob = M2 at *
  have hw2 := hw.le hM2
  (replace hb0 := true_and True); refine Go1.mk ?_; repeat' ((first | (with_reducible refine Go1.go ?_) | ((with_reducible first | refine brv_mk ?_ ?_ | refine gsplitD ?_ ?_ | refine gsplitG ?_ ?_) <;> intro h <;> (try simp only [Bool.not_eq_true', Bool.not_eq_false'] at h) <;> replace hb0 := h) | (refine And.intro ?ob ?_; case ob => ((try simp only [sxO, ne_eq, maxLen] at *); omega)) | fail) <;> (try simp (config := { maxSteps := 1000000 }) only [hb0, St.put, hgl, bs_mk, bs_app, bs_ext, bs_size, bs_toList, bs_at, bs_cells, List.take_length, imp_ga, guard_pk, guard_pk2, ↓hold_pre, awayP, runOps, regK, step1, newK, genR, appR, obl, buildR, Value.cells, closeK, keepH, outV, retK, ret1, retC, RetV, Option.getD, runD, stepD, afterK, undef, simprocAttr, sxB, ↓sxD, sxE, sxTab]))
  refine ⟨fun d z => ∃ j, j ≤ n ∧ d = n - j ∧ z = npcSt M2 r w n b cap j (numB (g.take j)) (10 ^ j), ⟨n, npcSt M2 r w n b cap 0 0 1, le_sub ⟨rfl, rfl, rfl, rfl, rfl, rfl, rfl, rfl, trivial⟩ trivial rfl rfl rfl (keepLt0 _) (fun _ h => by cases h), ⟨0, by omega, by omega, rfl⟩⟩, ?_⟩
  rintro d z ⟨j, hj, rfl, rfl⟩
  have hgj : ∀ b ∈ g.take j, dgT b = true := fun b hb => hgd b (List.mem_of_mem_take hb)
  have hpj := numB_len hgj
  rw [List.length_take, Nat.min_eq_left (by omega)] at hpj
  have h10 : 10 ^ j ≤ 1000000000 := Nat.le_trans (Nat.pow_le_pow_right (by decide) (show j ≤ 9 by omega)) (by decide)
  by_cases hlt : j < n
  · have d3 : decide ((j : Int) < (n : Int)) = true := by rw [decide_eq_true_eq]; omega
    have hjg : j < g.length := by omega
    have b1 : (0 : Int) ≤ (j : Int) := by omega
    have b2 : (j : Int) < (n : Int) := by omega
    have hat := hbuf.at (P := Tryd.prog) (n := n) (cap := cap) tk5 tz5 hjg
    have htk : g.take (j + 1) = g.take j ++ [g[j]] := by rw [List.take_add_one, List.getElem?_eq_getElem hjg]; rfl
    have hc := hgd _ (List.getElem_mem hjg)
    generalize g[j] = c at *
    have hx1 := dg_sub64 hc
    have hdc := (dg_sub hc).2
    have v1 : IntKind.u64.wrap (10 * ((numB (g.take j) : Nat) : Int)) = ((10 * numB (g.take j) : Nat) : Int) := by rw [show (10 : Int) * ((numB (g.take j) : Nat) : Int) = ((10 * numB (g.take j) : Nat) : Int) by omega, wrap64_id (by omega)]
    have v2 : IntKind.u64.wrap (((10 * numB (g.take j) : Nat) : Int) + ((dgV c : Nat) : Int)) = ((numB (g.take (j + 1)) : Nat) : Int) := by rw [htk, numB_snoc, show ((10 * numB (g.take j) : Nat) : Int) + ((dgV c : Nat) : Int) = ((10 * numB (g.take j) + dgV c : Nat) : Int) by omega, wrap64_id (by omega)]
    have v3 : IntKind.u64.wrap (10 * ((10 ^ j : Nat) : Int)) = ((10 ^ (j + 1) : Nat) : Int) := by rw [Nat.pow_succ, show (10 : Int) * ((10 ^ j : Nat) : Int) = ((10 ^ j * 10 : Nat) : Int) by omega, wrap64_id (by omega)]
    have v4 : IntKind.i64.wrap ((j : Int) + 1) = ((j + 1 : Nat) : Int) := succ_i (by omega)
    generalize numB (g.take j) = pj at *
    generalize hq1 : numB (g.take (j + 1)) = pj1 at *
    generalize hq2 : 10 ^ (j + 1) = tj1 at *
    generalize 10 ^ j = tj at *
    (replace hb0 := true_and True); refine Go1.mk ?_; repeat' ((first | (with_reducible refine Go1.go ?_) | ((with_reducible first | refine brv_mk ?_ ?_ | refine gsplitD ?_ ?_ | refine gsplitG ?_ ?_) <;> intro h <;> (try simp only [Bool.not_eq_true', Bool.not_eq_false'] at h) <;> replace hb0 := h) | (refine And.intro ?ob ?_; case ob => ((try simp only [sxO, ne_eq, maxLen] at *); omega)) | fail) <;> (try simp (config := { maxSteps := 1000000 }) only [hb0, npcSt, d3, b1, b2, hat, u8V, hx1, v1, v2, v3, v4, bs_mk, bs_app, bs_ext, bs_size, bs_toList, bs_at, bs_cells, List.take_length, imp_ga, guard_pk, guard_pk2, ↓hold_pre, awayP, runOps, regK, step1, newK, genR, appR, obl, buildR, Value.cells, closeK, keepH, outV, retK, ret1, retC, RetV, Option.getD, runD, stepD, afterK, undef, simprocAttr, sxB, ↓sxD, sxE, sxTab]))
    exact ⟨n - (j + 1), npcSt M2 r w n b cap (j + 1) pj1 tj1, by omega, le_sub ⟨rfl, rfl, rfl, rfl, rfl, rfl, rfl, rfl, trivial⟩ trivial rfl rfl rfl (keepLt0 _), j + 1, by omega, rfl, by rw [hq1, hq2]; rfl⟩
  obtain rfl : j = n := by omega
  have d3 : decide ((j : Int) < (j : Int)) = false := by simp
  rw [show g.take j = g by rw [← hgl]; exact List.take_length] at hpj ⊢
  have hnum : numB (p ++ g) = numB p * 10 ^ j + numB g := by rw [numB_app, hgl]
  have hrd : g ++ r.drop j = r := by rw [hg]; exact List.take_append_drop _ _
  have hpg : ∀ b ∈ p ++ g, dgT b = true := fun b hb => by
    rcases List.mem_append.1 hb with h | h
    · exact hp b h
    · exact hgd b h
  have hsum := ten_len (numB_len hpg)
  have hmul : (ofN (numB p * 10 ^ j)).length ≤ p.length + j := ten_len (by
    have := numB_len hp
    rw [Nat.pow_add]
    exact (Nat.mul_lt_mul_right (Nat.pow_pos (by decide))).2 this)
  have hpw : (ofN (10 ^ j)).length ≤ j + 1 := ten_len (Nat.pow_lt_pow_right (by decide) (by omega))
  have hgw : (ofN (numB g)).length ≤ j := ten_len hpj
  generalize 10 ^ j = tj at *
  generalize hpgv : numB g = pj at *
  (replace hb0 := true_and True); refine Go1.mk ?_; repeat' ((first | (with_reducible refine Go1.go ?_) | ((with_reducible first | refine brv_mk ?_ ?_ | refine gsplitD ?_ ?_ | refine gsplitG ?_ ?_) <;> intro h <;> (try simp only [Bool.not_eq_true', Bool.not_eq_false'] at h) <;> replace hb0 := h) | ((first | (with_reducible refine isCall (f := 82) ?_; refine callA_nil (by kernel_rfl) ?_) | (with_reducible refine isCall0 (f := 82) ?_; refine callA0_nil (by kernel_rfl) ?_)); refine (of_ok tj (by omega) (fun w4 M4 c1 c2 c3 => Stop.mk ?_))) | ((with_reducible refine isDraw [some 56, some 57, some 58, some 59, some 60, some 61, some 62, some 63, some 64, some 65, some 4, some 0] (by decide) ?_); refine draw_rule [(0, []), (1, []), (4, []), (7, []), (8, []), (9, []), (2, []), (3, []), (5, []), (6, []), (10, []), (11, [])] [[], [], [1], [0, 1, 2], [], [0, 1, 2, 3, 4], [0, 1, 2, 3, 4, 5], [], [], [7, 8], [0, 1, 2, 3, 4, 5, 6], [0, 1, 2, 3, 4, 5, 6, 7, 8, 9, 10]] [56, 57, 58, 59, 60, 61, 62, 63, 64, 65] [4] (by kernel_rfl) (by kernel_rfl) (by kernel_rfl) (by kernel_rfl) (by exact ⟨rfl, trivial⟩) ?_) | (refine And.intro ?ob ?_; case ob => ((try simp only [sxO, ne_eq, maxLen] at *); omega)) | fail) <;> (try simp (config := { maxSteps := 1000000 }) only [hb0, npcSt, hw2.one, d3, bs_mk, bs_app, bs_ext, bs_size, bs_toList, bs_at, bs_cells, List.take_length, imp_ga, guard_pk, guard_pk2, ↓hold_pre, awayP, runOps, regK, step1, newK, genR, appR, obl, buildR, Value.cells, closeK, keepH, outV, retK, ret1, retC, RetV, Option.getD, runD, stepD, afterK, undef, simprocAttr, sxB, ↓sxD, sxE, sxTab]))
  have c1 : Mem.le M2 M4 := c1
  have hw4 := hw2.le c1
  refine Stop.go ?_
  (replace hb0 := true_and True); refine Go1.mk ?_; repeat' ((first | (with_reducible refine Go1.go ?_) | ((with_reducible first | refine brv_mk ?_ ?_ | refine gsplitD ?_ ?_ | refine gsplitG ?_ ?_) <;> intro h <;> (try simp only [Bool.not_eq_true', Bool.not_eq_false'] at h) <;> replace hb0 := h) | ((first | (with_reducible refine isCall (f := 64) ?_; refine callA_nil (by kernel_rfl) ?_) | (with_reducible refine isCall0 (f := 64) ?_; refine callA0_nil (by kernel_rfl) ?_)); refine (mul_ok w w4 _ _ hw4 c2 (by omega) (by omega) (fun w5 M5 e1 e2 e3 => Stop.mk ?_))) | ((with_reducible refine isDraw [some 56, some 57, some 58, some 59, some 60, some 61, some 62, some 63, some 64, some 65, some 4, some 0] (by decide) ?_); refine draw_rule [(0, []), (1, []), (4, []), (7, []), (8, []), (9, []), (2, []), (3, []), (5, []), (6, []), (10, []), (11, [])] [[], [], [1], [0, 1, 2], [], [0, 1, 2, 3, 4], [0, 1, 2, 3, 4, 5], [], [], [7, 8], [0, 1, 2, 3, 4, 5, 6], [0, 1, 2, 3, 4, 5, 6, 7, 8, 9, 10]] [56, 57, 58, 59, 60, 61, 62, 63, 64, 65] [4] (by kernel_rfl) (by kernel_rfl) (by kernel_rfl) (by kernel_rfl) (by exact ⟨rfl, trivial⟩) ?_) | (refine And.intro ?ob ?_; case ob => ((try simp only [sxO, ne_eq, maxLen] at *); omega)) | fail) <;> (try simp (config := { maxSteps := 1000000 }) only [hb0, hw4.one, c2.one, bs_mk, bs_app, bs_ext, bs_size, bs_toList, bs_at, bs_cells, List.take_length, imp_ga, guard_pk, guard_pk2, ↓hold_pre, awayP, runOps, regK, step1, newK, genR, appR, obl, buildR, Value.cells, closeK, keepH, outV, retK, ret1, retC, RetV, Option.getD, runD, stepD, afterK, undef, simprocAttr, sxB, ↓sxD, sxE, sxTab]))
  have e1 : Mem.le M4 M5 := e1
  refine Stop.go ?_
  (replace hb0 := true_and True); refine Go1.mk ?_; repeat' ((first | (with_reducible refine Go1.go ?_) | ((with_reducible first | refine brv_mk ?_ ?_ | refine gsplitD ?_ ?_ | refine gsplitG ?_ ?_) <;> intro h <;> (try simp only [Bool.not_eq_true', Bool.not_eq_false'] at h) <;> replace hb0 := h) | ((first | (with_reducible refine isCall (f := 82) ?_; refine callA_nil (by kernel_rfl) ?_) | (with_reducible refine isCall0 (f := 82) ?_; refine callA0_nil (by kernel_rfl) ?_)); refine (of_ok pj (by omega) (fun w6 M6 f1 f2 f3 => Stop.mk ?_))) | ((with_reducible refine isDraw [some 56, some 57, some 58, some 59, some 60, some 61, some 62, some 63, some 64, some 65, some 4, some 0] (by decide) ?_); refine draw_rule [(0, []), (1, []), (4, []), (7, []), (8, []), (9, []), (2, []), (3, []), (5, []), (6, []), (10, []), (11, [])] [[], [], [1], [0, 1, 2], [], [0, 1, 2, 3, 4], [0, 1, 2, 3, 4, 5], [], [], [7, 8], [0, 1, 2, 3, 4, 5, 6], [0, 1, 2, 3, 4, 5, 6, 7, 8, 9, 10]] [56, 57, 58, 59, 60, 61, 62, 63, 64, 65] [4] (by kernel_rfl) (by kernel_rfl) (by kernel_rfl) (by kernel_rfl) (by exact ⟨rfl, trivial⟩) ?_) | (refine And.intro ?ob ?_; case ob => ((try simp only [sxO, ne_eq, maxLen] at *); omega)) | fail) <;> (try simp (config := { maxSteps := 1000000 }) only [hb0, e2.one, bs_mk, bs_app, bs_ext, bs_size, bs_toList, bs_at, bs_cells, List.take_length, imp_ga, guard_pk, guard_pk2, ↓hold_pre, awayP, runOps, regK, step1, newK, genR, appR, obl, buildR, Value.cells, closeK, keepH, outV, retK, ret1, retC, RetV, Option.getD, runD, stepD, afterK, undef, simprocAttr, sxB, ↓sxD, sxE, sxTab]))
  have f1 : Mem.le M5 M6 := f1
  have e2' := e2.le f1
  refine Stop.go ?_
  (replace hb0 := true_and True); refine Go1.mk ?_; repeat' ((first | (with_reducible refine Go1.go ?_) | ((with_reducible first | refine brv_mk ?_ ?_ | refine gsplitD ?_ ?_ | refine gsplitG ?_ ?_) <;> intro h <;> (try simp only [Bool.not_eq_true', Bool.not_eq_false'] at h) <;> replace hb0 := h) | ((first | (with_reducible refine isCall (f := 63) ?_; refine callA_nil (by kernel_rfl) ?_) | (with_reducible refine isCall0 (f := 63) ?_; refine callA0_nil (by kernel_rfl) ?_)); refine (add_ok w5 w6 _ _ e2' f2 (by omega) (by omega) (fun w7 M7 h1 h2 h3 => Stop.mk ?_))) | ((with_reducible refine isDraw [some 56, some 57, some 58, some 59, some 60, some 61, some 62, some 63, some 64, some 65, some 4, some 0] (by decide) ?_); refine draw_rule [(0, []), (1, []), (4, []), (7, []), (8, []), (9, []), (2, []), (3, []), (5, []), (6, []), (10, []), (11, [])] [[], [], [1], [0, 1, 2], [], [0, 1, 2, 3, 4], [0, 1, 2, 3, 4, 5], [], [], [7, 8], [0, 1, 2, 3, 4, 5, 6], [0, 1, 2, 3, 4, 5, 6, 7, 8, 9, 10]] [56, 57, 58, 59, 60, 61, 62, 63, 64, 65] [4] (by kernel_rfl) (by kernel_rfl) (by kernel_rfl) (by kernel_rfl) (by exact ⟨rfl, trivial⟩) ?_) | (refine And.intro ?ob ?_; case ob => ((try simp only [sxO, ne_eq, maxLen] at *); omega)) | fail) <;> (try simp (config := { maxSteps := 1000000 }) only [hb0, e2'.one, f2.one, bs_mk, bs_app, bs_ext, bs_size, bs_toList, bs_at, bs_cells, List.take_length, imp_ga, guard_pk, guard_pk2, ↓hold_pre, awayP, runOps, regK, step1, newK, genR, appR, obl, buildR, Value.cells, closeK, keepH, outV, retK, ret1, retC, RetV, Option.getD, runD, stepD, afterK, undef, simprocAttr, sxB, ↓sxD, sxE, sxTab]))
  have h1 : Mem.le M6 M7 := h1
  rw [← hnum] at h2
  have t1 : r.take r.length = r := List.take_length
  have a3 : (r.length : Int) ≤ (r.length : Int) := by omega
  refine Stop.go ?_
  (replace hb0 := true_and True); refine Go1.mk ?_; repeat' ((first | (with_reducible refine Go1.go ?_) | ((with_reducible first | refine brv_mk ?_ ?_ | refine gsplitD ?_ ?_ | refine gsplitG ?_ ?_) <;> intro h <;> (try simp only [Bool.not_eq_true', Bool.not_eq_false'] at h) <;> replace hb0 := h) | (refine And.intro ?ob ?_; case ob => ((try simp only [sxO, ne_eq, maxLen] at *); omega)) | fail) <;> (try simp (config := { maxSteps := 1000000 }) only [hb0, h2.one, a1, a2, a3, t1, bs_mk, bs_app, bs_ext, bs_size, bs_toList, bs_at, bs_cells, List.take_length, imp_ga, guard_pk, guard_pk2, ↓hold_pre, awayP, runOps, regK, step1, newK, genR, appR, obl, buildR, Value.cells, closeK, keepH, outV, retK, ret1, retC, RetV, Option.getD, runD, stepD, afterK, undef, simprocAttr, sxB, ↓sxD, sxE, sxTab]))
  have hML : Mem.le M M6 := (((hM1.trans hM2).trans c1).trans e1).trans f1
  exact ⟨(r.drop j).length, npbSt M7 (r.drop j) w7, by rw [List.length_drop]; omega, le_sub ⟨rfl, rfl, trivial⟩ trivial rfl rfl rfl (keepLt0 _), M7, w7, p ++ g, r.drop j, rfl, by rw [List.append_assoc, hrd]; exact hpr, hML.trans h1, h2, h3.le hML, rfl⟩
end
end Go.Proofs.YtamghpnjdohnjaaDoor.Sx
namespace Go.Proofs
open Go.Shelf
def Tryd.lays219_ren : Go.Shelf.Ren := ⟨fun | 219 => 123 | 217 => 130 | 225 => 131 | 224 => 132 | 267 => 133 | 266 => 137 | 314 => 138 | n => n, fun | 9 => 9 | 3 => 3 | 4 => 4 | 5 => 5 | 46 => 105 | 146 => 142 | 51 => 70 | n => n, fun | 1 => 0 | n => n⟩
theorem Tryd.lays219 : Go.Proofs.Lays.n219 Tryd.prog Tryd.lays219_ren := {
  mixed := by kernel_rfl
  f217 := Tryd.func130.trans (congrArg some (by kernel_rfl))
  f219 := Tryd.func123.trans (congrArg some (by kernel_rfl))
  f224 := Tryd.func132.trans (congrArg some (by kernel_rfl))
  f225 := Tryd.func131.trans (congrArg some (by kernel_rfl))
  f266 := Tryd.func137.trans (congrArg some (by kernel_rfl))
  f267 := Tryd.func133.trans (congrArg some (by kernel_rfl))
  f314 := Tryd.func138.trans (congrArg some (by kernel_rfl))
  t3 := Tryd.underlying3
  a3 := Tryd.isAgg3
  z3 := Tryd.sizeOf3
  v3 := Tryd.zeroValue3
  t4 := Tryd.underlying4
  a4 := Tryd.isAgg4
  z4 := Tryd.sizeOf4
  v4 := Tryd.zeroValue4
  t5 := Tryd.underlying5
  a5 := Tryd.isAgg5
  z5 := Tryd.sizeOf5
  v5 := Tryd.zeroValue5
  t9 := Tryd.underlying9
  a9 := Tryd.isAgg9
  z9 := Tryd.sizeOf9
  v9 := Tryd.zeroValue9
  t46 := Tryd.underlying105
  a46 := Tryd.isAgg105
  z46 := Tryd.sizeOf105
  v46 := Tryd.zeroValue105
  t51 := Tryd.underlying70
  a51 := Tryd.isAgg70
  z51 := Tryd.sizeOf70
  v51 := Tryd.zeroValue70
  t146 := Tryd.underlying142
  a146 := Tryd.isAgg142
  z146 := Tryd.sizeOf142
  v146 := Tryd.zeroValue142
  g1 := by kernel_rfl }
open Go.RowKit Go.Lib in
theorem Tryd.stringslite_Index_one (s : ByteArray) (c : UInt8) (w : World) :
    Calls Tryd.prog 123 #[.string s, .string ⟨#[c]⟩] w fun e w' => e = .returned (.int .i64 (Lib.indexByte s.data.toList c)) ∧ w' = w := Any.stringslite_Index_one Tryd.lays219 s c w
def Tryd.lays144_ren : Go.Shelf.Ren := ⟨fun | 144 => 87 | 143 => 113 | 219 => 123 | 217 => 130 | 225 => 131 | 224 => 132 | 267 => 133 | 266 => 137 | 314 => 138 | n => n, fun | 9 => 9 | 4 => 4 | 3 => 3 | 5 => 5 | 46 => 105 | 146 => 142 | 51 => 70 | n => n, fun | 1 => 0 | n => n⟩
theorem Tryd.lays144 : Go.Proofs.Lays.n144 Tryd.prog Tryd.lays144_ren := {
  mixed := by kernel_rfl
  f143 := Tryd.func113.trans (congrArg some (by kernel_rfl))
  f144 := Tryd.func87.trans (congrArg some (by kernel_rfl))
  f217 := Tryd.func130.trans (congrArg some (by kernel_rfl))
  f219 := Tryd.func123.trans (congrArg some (by kernel_rfl))
  f224 := Tryd.func132.trans (congrArg some (by kernel_rfl))
  f225 := Tryd.func131.trans (congrArg some (by kernel_rfl))
  f266 := Tryd.func137.trans (congrArg some (by kernel_rfl))
  f267 := Tryd.func133.trans (congrArg some (by kernel_rfl))
  f314 := Tryd.func138.trans (congrArg some (by kernel_rfl))
  t3 := Tryd.underlying3
  a3 := Tryd.isAgg3
  z3 := Tryd.sizeOf3
  v3 := Tryd.zeroValue3
  t4 := Tryd.underlying4
  a4 := Tryd.isAgg4
  z4 := Tryd.sizeOf4
  v4 := Tryd.zeroValue4
  t5 := Tryd.underlying5
  a5 := Tryd.isAgg5
  z5 := Tryd.sizeOf5
  v5 := Tryd.zeroValue5
  t9 := Tryd.underlying9
  a9 := Tryd.isAgg9
  z9 := Tryd.sizeOf9
  v9 := Tryd.zeroValue9
  t46 := Tryd.underlying105
  a46 := Tryd.isAgg105
  z46 := Tryd.sizeOf105
  v46 := Tryd.zeroValue105
  t51 := Tryd.underlying70
  a51 := Tryd.isAgg70
  z51 := Tryd.sizeOf70
  v51 := Tryd.zeroValue70
  t146 := Tryd.underlying142
  a146 := Tryd.isAgg142
  z146 := Tryd.sizeOf142
  v146 := Tryd.zeroValue142
  g1 := by kernel_rfl }
open Go.RowKit Go.Lib in
theorem Tryd.strings_Contains_one (s : ByteArray) (c : UInt8) (w : World) :
    Calls Tryd.prog 87 #[.string s, .string ⟨#[c]⟩] w fun e w' => e = .returned (.bool (decide (0 ≤ Lib.indexByte s.data.toList c))) ∧ w' = w := Any.strings_Contains_one Tryd.lays144 s c w
end Go.Proofs
namespace Go.Proofs.YtamghpnjdohnjaaDoor.Sx
open Go Go.RowKit
set_option linter.unusedVariables false
set_option linter.unusedSimpArgs false
set_option maxRecDepth 100000
set_option maxHeartbeats 8000000
attribute [local congr] fin_congr finG_congr stepG_congr step1_congr runOps_congr brv_congr obl_congr condK_congr LoopK_congr seqK_congr CutK_congr vc_congr DrawK_congr regK_congr CallK_congr AskK_congr newK_congr retC_congr ret1_congr retK_congr outV_congr closeK_congr genR_congr appR_congr finD_congr finGD_congr stepGD_congr stepD_congr CallK0_congr runD_congr okR_congr CallS_congr vcX_congr
attribute [local congr] Stop_congr
def fstP (l : List UInt8) : List UInt8 := l.takeWhile (· != 47)
def rstP (l : List UInt8) : List UInt8 := l.dropWhile (· != 47)
def sndP (l : List UInt8) : List UInt8 := if rstP l = [] then [49] else (rstP l).drop 1
def mkP (e f : Int × List Nat) (more : Bool) : Int × Nat × Nat := if e.1 = 6 ∨ f.1 = 6 ∨ more = true then (6, 0, 0) else if e.1 ≠ 0 then (e.1, 0, 0) else if f.1 ≠ 0 then (f.1, 0, 0) else makF e.2 f.2
def parF (l : List UInt8) : Int × Nat × Nat := if 2601 < l.length then (2, 0, 0) else mkP (parR (fstP l)) (parR (sndP l)) ((sndP l).contains 47)
theorem fst_app {a t : List UInt8} (h : ∀ b ∈ a, b ≠ 47) : fstP (a ++ 47 :: t) = a ∧ rstP (a ++ 47 :: t) = 47 :: t := by
  unfold fstP rstP
  induction a with
  | nil => simp
  | cons c r ih =>
    have hc := h c List.mem_cons_self
    have ih := ih fun b hb => h b (List.mem_cons_of_mem _ hb)
    have e : (c != 47) = true := by simpa using hc
    rw [List.cons_append, List.takeWhile_cons, List.dropWhile_cons, e, if_pos rfl, if_pos rfl, ih.1, ih.2]
    exact ⟨rfl, rfl⟩
theorem fst_all {a : List UInt8} (h : ∀ b ∈ a, b ≠ 47) : fstP a = a ∧ rstP a = [] := by
  unfold fstP rstP
  induction a with
  | nil => simp
  | cons c r ih =>
    have hc := h c List.mem_cons_self
    have ih := ih fun b hb => h b (List.mem_cons_of_mem _ hb)
    have e : (c != 47) = true := by simpa using hc
    rw [List.takeWhile_cons, List.dropWhile_cons, e, if_pos rfl, if_pos rfl, ih.1, ih.2]
    exact ⟨rfl, rfl⟩
theorem ix47 : ∀ l : List UInt8, (∃ t, l = fstP l ++ 47 :: t ∧ rstP l = 47 :: t ∧ Lib.indexByte l 47 = ((fstP l).length : Int)) ∨ (fstP l = l ∧ rstP l = [] ∧ Lib.indexByte l 47 = -1)
  | [] => .inr ⟨rfl, rfl, rfl⟩
  | b :: r => by
    by_cases hb : b = 47
    · subst hb
      exact .inl ⟨r, by simp [fstP], by simp [rstP], by simp [fstP, Lib.indexByte]⟩
    · have e : (b != 47) = true := by simpa using hb
      have e2 : (b == 47) = false := by simpa using hb
      have f1 : fstP (b :: r) = b :: fstP r := by unfold fstP; rw [List.takeWhile_cons, e]; rfl
      have f2 : rstP (b :: r) = rstP r := by unfold rstP; rw [List.dropWhile_cons, e]; rfl
      rcases ix47 r with ⟨t, h1, h2, h3⟩ | ⟨h1, h2, h3⟩
      · refine .inl ⟨t, by rw [f1, List.cons_append, ← h1], by rw [f2, h2], ?_⟩
        rw [Lib.indexByte, e2, h3, f1, List.length_cons]
        have : ((((fstP r).length : Nat) : Int) == -1) = false := by rw [beq_eq_false_iff_ne]; omega
        rw [this]; simp
      · refine .inr ⟨by rw [f1, h1], by rw [f2, h2], ?_⟩
        rw [Lib.indexByte, e2, h3]; rfl
theorem ix_has (l : List UInt8) : decide (0 ≤ Lib.indexByte l 47) = l.contains 47 := by
  induction l with
  | nil => rfl
  | cons b r ih =>
    rw [Lib.indexByte, List.contains_cons]
    by_cases hb : b = 47
    · subst hb; rfl
    · have e2 : (b == 47) = false := by simpa using hb
      have e3 : ((47 : UInt8) == b) = false := by simpa using Ne.symm hb
      rw [e2, e3, Bool.false_or, ← ih]
      rcases ix47 r with ⟨t, _, _, h3⟩ | ⟨_, _, h3⟩
      · rw [h3]
        have : ((((fstP r).length : Nat) : Int) == -1) = false := by rw [beq_eq_false_iff_ne]; omega
        rw [this]; simp only [Bool.false_eq_true, if_false]
        rw [decide_eq_true (by omega), decide_eq_true (by omega)]
      · rw [h3]; rfl
theorem parR_fine (l : List UInt8) : okN (parR l).2 ∧ (parR l).2.length ≤ 128 ∧ ((parR l).1 = 0 ∨ (parR l).1 = 2 ∨ (parR l).1 = 6) := by
  unfold parR limR
  split
  · simp [okN]
  · split
    · simp [okN]
    · split
      · split
        · exact ⟨okN_ofN _, by assumption, .inl rfl⟩
        · simp [okN]
      · simp [okN]
section
variable {M : Mem} {K : AV → Hp → Mem → Prop}
theorem sIx_ok (l : List UInt8) (hK : K (.ext (.int .i64 (Lib.indexByte l 47))) [] M) : CallS Tryd.prog 123 [.ext (.string (bs l)), .ext (.string (bs [47]))] [] M [] K :=
  callS_of (us := [.string (bs l), .string (bs [47])]) (fun w => (Tryd.stringslite_Index_one (bs l) 47 w).mono fun e w' h => ⟨h.1, h.2 ▸ Below.refl _ _⟩) hK
theorem sHas_ok (l : List UInt8) (hK : K (.ext (.bool (l.contains 47))) [] M) : CallS Tryd.prog 87 [.ext (.string (bs l)), .ext (.string (bs [47]))] [] M [] K :=
  callS_of (us := [.string (bs l), .string (bs [47])]) (v := .bool (l.contains 47)) (fun w => (Tryd.strings_Contains_one (bs l) 47 w).mono fun e w' h => ⟨by rw [← ix_has]; exact h.1, h.2 ▸ Below.refl _ _⟩) hK
theorem sCut_ok (l : List UInt8) (hl : l.length < 1000000000) (hK : K (.ext (.tuple #[.string (bs (fstP l)), .string (bs ((rstP l).drop 1)), .bool (!(decide (rstP l = [])))])) [] M) : CallS Tryd.prog 110 [.ext (.string (bs l)), .ext (.string (bs [47]))] [] M [] K := by
  refine inlS (cs := []) Tryd.mixed Tryd.func110 rfl (by kernel_rfl) 0 rfl rfl ?_
  simp only [Tryd.f110]
  rcases ix47 l with ⟨t, h1, h2, h3⟩ | ⟨h1, h2, h3⟩
  · rw [h2, List.drop_one, List.tail_cons, decide_eq_false (by simp)] at hK
    clear h2
    generalize fstP l = p at *
    subst h1
    have hL : (p ++ 47 :: t).length = p.length + 1 + t.length := by rw [List.length_append, List.length_cons]; omega
    have d1 : decide ((0 : Int) ≤ (p.length : Int)) = true := by rw [decide_eq_true_eq]; omega
    have a1 : (0 : Int) ≤ (p.length : Int) := by omega
    have a2 : (p.length : Int) ≤ ((p.length + 1 + t.length : Nat) : Int) := by omega
    have n1 : ((([47] : List UInt8).length : Nat) : Int) = 1 := rfl
    have w1 : IntKind.i64.wrap ((p.length : Int) + 1) = ((p.length + 1 : Nat) : Int) := succ_i (by omega)
    have a3 : (0 : Int) ≤ ((p.length + 1 : Nat) : Int) := by omega
    have a4 : ((p.length + 1 : Nat) : Int) ≤ ((p.length + 1 + t.length : Nat) : Int) := by omega
    have e1 : ((p ++ 47 :: t).take p.length).drop 0 = p := by simp
    have e1' : (p ++ 47 :: t).take p.length = p := by simp
    have e2 : ((p ++ 47 :: t).take (p.length + 1 + t.length)).drop (p.length + 1) = t := by
      rw [← hL, List.take_length, List.drop_append]; simp
    (replace hb0 := true_and True); refine Go1.mk ?_; repeat' ((first | (with_reducible refine Go1.go ?_) | ((with_reducible first | refine brv_mk ?_ ?_ | refine gsplitD ?_ ?_ | refine gsplitG ?_ ?_) <;> intro h <;> (try simp only [Bool.not_eq_true', Bool.not_eq_false'] at h) <;> replace hb0 := h) | ((first | (with_reducible refine isCall (f := 123) ?_; refine callA_nil (by kernel_rfl) ?_) | (with_reducible refine isCall0 (f := 123) ?_; refine callA0_nil (by kernel_rfl) ?_)); refine (sIx_ok (p ++ 47 :: t) ?_)) | ((with_reducible refine isDraw [some 13, some 14, some 15, some 16, some 17, some 18, some 19, some 20, some 21, some 4, some 5, some 6] (by decide) ?_); refine draw_rule [(0, []), (1, []), (2, []), (3, []), (4, []), (5, []), (6, []), (7, []), (8, []), (9, []), (10, []), (11, [])] [[], [], [0, 1], [], [], [], [5], [4, 5, 6], [3, 4, 5, 6, 7], [0, 1, 2], [0, 1, 2, 3, 4, 5, 6, 7, 8, 9], [0, 1, 2, 3, 4, 5, 6, 7, 8, 9, 10]] [13, 14, 15, 16, 17, 18, 19, 20, 21, 4] [] (by kernel_rfl) (by kernel_rfl) (by kernel_rfl) (by kernel_rfl) (by exact trivial) ?_) | (refine And.intro ?ob ?_; case ob => ((try simp only [sxO, ne_eq, maxLen] at *); omega)) | fail) <;> (try simp (config := { maxSteps := 1000000 }) only [hb0, d1, a1, a2, a3, a4, hL, n1, w1, h3, e1, e1', e2, List.drop_zero, bs_mk, bs_app, bs_ext, bs_size, bs_toList, bs_at, bs_cells, List.take_length, imp_ga, guard_pk, guard_pk2, ↓hold_pre, awayP, runOps, regK, step1, newK, genR, appR, obl, buildR, Value.cells, closeK, keepH, outV, retK, ret1, retC, RetV, Option.getD, runD, stepD, afterK, undef, simprocAttr, sxB, ↓sxD, sxE, sxTab]))
    exact hK
  · have d1 : decide ((0 : Int) ≤ (-1 : Int)) = false := by decide
    rw [h1, h2] at hK
    (replace hb0 := true_and True); refine Go1.mk ?_; repeat' ((first | (with_reducible refine Go1.go ?_) | ((with_reducible first | refine brv_mk ?_ ?_ | refine gsplitD ?_ ?_ | refine gsplitG ?_ ?_) <;> intro h <;> (try simp only [Bool.not_eq_true', Bool.not_eq_false'] at h) <;> replace hb0 := h) | ((first | (with_reducible refine isCall (f := 123) ?_; refine callA_nil (by kernel_rfl) ?_) | (with_reducible refine isCall0 (f := 123) ?_; refine callA0_nil (by kernel_rfl) ?_)); refine (sIx_ok l ?_)) | (refine And.intro ?ob ?_; case ob => ((try simp only [sxO, ne_eq, maxLen] at *); omega)) | fail) <;> (try simp (config := { maxSteps := 1000000 }) only [hb0, d1, h3, bs_mk, bs_app, bs_ext, bs_size, bs_toList, bs_at, bs_cells, List.take_length, imp_ga, guard_pk, guard_pk2, ↓hold_pre, awayP, runOps, regK, step1, newK, genR, appR, obl, buildR, Value.cells, closeK, keepH, outV, retK, ret1, retC, RetV, Option.getD, runD, stepD, afterK, undef, simprocAttr, sxB, ↓sxD, sxE, sxTab]))
    exact hK
end
end Go.Proofs.YtamghpnjdohnjaaDoor.Sx
namespace Go.Proofs.YtamghpnjdohnjaaDoor.Sx
open Go Go.RowKit
set_option linter.unusedVariables false
set_option linter.unusedSimpArgs false
set_option maxRecDepth 100000
set_option maxHeartbeats 8000000
attribute [local congr] fin_congr finG_congr stepG_congr step1_congr runOps_congr brv_congr obl_congr condK_congr LoopK_congr seqK_congr CutK_congr vc_congr DrawK_congr regK_congr CallK_congr AskK_congr newK_congr retC_congr ret1_congr retK_congr outV_congr closeK_congr genR_congr appR_congr finD_congr finGD_congr stepGD_congr stepD_congr CallK0_congr runD_congr okR_congr CallS_congr vcX_congr
attribute [local congr] Stop_congr
theorem fst_len (l : List UInt8) : (fstP l).length ≤ l.length := by
  unfold fstP
  exact (List.takeWhile_sublist _).length_le
theorem rst_len (l : List UInt8) : (rstP l).length ≤ l.length := by
  unfold rstP
  exact (List.dropWhile_sublist _).length_le
theorem snd_len (l : List UInt8) : (sndP l).length ≤ l.length + 1 := by
  unfold sndP
  have := rst_len l
  split
  · simp
  · rw [List.length_drop]; omega
section
variable {M : Mem} {K : AV → Hp → Mem → Prop}
theorem strCut_ok (l : List UInt8) (hl : l.length < 1000000000) (hK : K (.ext (.tuple #[.string (bs (fstP l)), .string (bs ((rstP l).drop 1)), .bool (!(decide (rstP l = [])))])) [] M) : CallS Tryd.prog 85 [.ext (.string (bs l)), .ext (.string (bs [47]))] [] M [] K := by
  refine inlS (cs := []) Tryd.mixed Tryd.func85 rfl (by kernel_rfl) 0 rfl rfl ?_
  simp only [Tryd.f85]
  (replace hb0 := true_and True); refine Go1.mk ?_; repeat' ((first | (with_reducible refine Go1.go ?_) | ((with_reducible first | refine brv_mk ?_ ?_ | refine gsplitD ?_ ?_ | refine gsplitG ?_ ?_) <;> intro h <;> (try simp only [Bool.not_eq_true', Bool.not_eq_false'] at h) <;> replace hb0 := h) | ((first | (with_reducible refine isCall (f := 110) ?_; refine callA_nil (by kernel_rfl) ?_) | (with_reducible refine isCall0 (f := 110) ?_; refine callA0_nil (by kernel_rfl) ?_)); refine (sCut_ok l hl ?_)) | (refine And.intro ?ob ?_; case ob => ((try simp only [sxO, ne_eq, maxLen] at *); omega)) | fail) <;> (try simp (config := { maxSteps := 1000000 }) only [hb0, bs_mk, bs_app, bs_ext, bs_size, bs_toList, bs_at, bs_cells, List.take_length, imp_ga, guard_pk, guard_pk2, ↓hold_pre, awayP, runOps, regK, step1, newK, genR, appR, obl, buildR, Value.cells, closeK, keepH, outV, retK, ret1, retC, RetV, Option.getD, runD, stepD, afterK, undef, simprocAttr, sxB, ↓sxD, sxE, sxTab]))
  exact hK
def fpSt (M : Mem) (a b : List UInt8) : St := { env := [(5, .ext (.string (bs b))), (4, .ext (.string (bs a))), (2, .own 2 0)], hp := [(2, 25, [.ext (.slice none 0 0), .ext (.slice none 0 0)])], M := M, kb := 0, fx := [] }
theorem fparse_ok (l : List UInt8) (hl : l.length < 1000000) (hK : FracK M K (parF l)) : CallS Tryd.prog 47 [.ext (.string (bs l))] [] M [] K := by
  refine inlS (cs := [6]) Tryd.mixed Tryd.func47 rfl (by kernel_rfl) 0 rfl rfl ?_
  simp only [Tryd.f47]
  unfold parF at hK
  by_cases h26 : 2601 < l.length
  · have d1 : decide ((2601 : Int) < (l.length : Int)) = true := by rw [decide_eq_true_eq]; omega
    rw [if_pos h26] at hK
    (replace hb0 := true_and True); refine Go1.mk ?_; repeat' ((first | (with_reducible refine Go1.go ?_) | ((with_reducible first | refine brv_mk ?_ ?_ | refine gsplitD ?_ ?_ | refine gsplitG ?_ ?_) <;> intro h <;> (try simp only [Bool.not_eq_true', Bool.not_eq_false'] at h) <;> replace hb0 := h) | (refine And.intro ?ob ?_; case ob => ((try simp only [sxO, ne_eq, maxLen] at *); omega)) | fail) <;> (try simp (config := { maxSteps := 1000000 }) only [hb0, d1, bs_mk, bs_app, bs_ext, bs_size, bs_toList, bs_at, bs_cells, List.take_length, imp_ga, guard_pk, guard_pk2, ↓hold_pre, awayP, runOps, regK, step1, newK, genR, appR, obl, buildR, Value.cells, closeK, keepH, outV, retK, ret1, retC, RetV, Option.getD, runD, stepD, afterK, undef, simprocAttr, sxB, ↓sxD, sxE, sxTab]))
    exact hK.err _ (Mem.le.refl _)
  have d1 : decide ((2601 : Int) < (l.length : Int)) = false := by rw [decide_eq_false_iff_not]; omega
  rw [if_neg h26] at hK
  have hsl := snd_len l
  have hfl := fst_len l
  (replace hb0 := true_and True); refine Go1.mk ?_; repeat' ((first | (with_reducible refine Go1.go ?_) | ((with_reducible first | refine brv_mk ?_ ?_ | refine gsplitD ?_ ?_ | refine gsplitG ?_ ?_) <;> intro h <;> (try simp only [Bool.not_eq_true', Bool.not_eq_false'] at h) <;> replace hb0 := h) | ((first | (with_reducible refine isCall (f := 85) ?_; refine callA_nil (by kernel_rfl) ?_) | (with_reducible refine isCall0 (f := 85) ?_; refine callA0_nil (by kernel_rfl) ?_)); refine (strCut_ok l (by omega) (Stop.mk ?_))) | (refine And.intro ?ob ?_; case ob => ((try simp only [sxO, ne_eq, maxLen] at *); omega)) | fail) <;> (try simp (config := { maxSteps := 1000000 }) only [hb0, d1, bs_mk, bs_app, bs_ext, bs_size, bs_toList, bs_at, bs_cells, List.take_length, imp_ga, guard_pk, guard_pk2, ↓hold_pre, awayP, runOps, regK, step1, newK, genR, appR, obl, buildR, Value.cells, closeK, keepH, outV, retK, ret1, retC, RetV, Option.getD, runD, stepD, afterK, undef, simprocAttr, sxB, ↓sxD, sxE, sxTab]))
  refine Stop.go ?_
  (replace hb0 := true_and True); refine Go1.mk ?_; repeat' ((first | (with_reducible refine Go1.go ?_) | ((with_reducible first | refine brv_mk ?_ ?_ | refine gsplitD ?_ ?_ | refine gsplitG ?_ ?_) <;> intro h <;> (try simp only [Bool.not_eq_true', Bool.not_eq_false'] at h) <;> replace hb0 := h) | (refine And.intro ?ob ?_; case ob => ((try simp only [sxO, ne_eq, maxLen] at *); omega)) | fail) <;> (try simp (config := { maxSteps := 1000000 }) only [hb0, bs_mk, bs_app, bs_ext, bs_size, bs_toList, bs_at, bs_cells, List.take_length, imp_ga, guard_pk, guard_pk2, ↓hold_pre, awayP, runOps, regK, step1, newK, genR, appR, obl, buildR, Value.cells, closeK, keepH, outV, retK, ret1, retC, RetV, Option.getD, runD, stepD, afterK, undef, simprocAttr, sxB, ↓sxD, sxE, sxTab]))
  refine ⟨fun z => z = fpSt M (fstP l) (sndP l), ?_, ?_⟩
  · by_cases h0 : rstP l = []
    · have e1 : decide (rstP l = []) = true := decide_eq_true h0
      have e2 : sndP l = [49] := by unfold sndP; rw [if_pos h0]
      (replace hb0 := true_and True); refine Go1.mk ?_; repeat' ((first | (with_reducible refine Go1.go ?_) | ((with_reducible first | refine brv_mk ?_ ?_ | refine gsplitD ?_ ?_ | refine gsplitG ?_ ?_) <;> intro h <;> (try simp only [Bool.not_eq_true', Bool.not_eq_false'] at h) <;> replace hb0 := h) | (refine And.intro ?ob ?_; case ob => ((try simp only [sxO, ne_eq, maxLen] at *); omega)) | fail) <;> (try simp (config := { maxSteps := 1000000 }) only [hb0, e1, bs_mk, bs_app, bs_ext, bs_size, bs_toList, bs_at, bs_cells, List.take_length, imp_ga, guard_pk, guard_pk2, ↓hold_pre, awayP, runOps, regK, step1, newK, genR, appR, obl, buildR, Value.cells, closeK, keepH, outV, retK, ret1, retC, RetV, Option.getD, runD, stepD, afterK, undef, simprocAttr, sxB, ↓sxD, sxE, sxTab]))
      exact ⟨fpSt M (fstP l) (sndP l), le_sub ⟨by rw [e2]; rfl, rfl, rfl, trivial⟩ ⟨rfl, trivial⟩ rfl rfl rfl (keepLt0 _), rfl⟩
    · have e1 : decide (rstP l = []) = false := decide_eq_false h0
      have e2 : sndP l = (rstP l).drop 1 := by unfold sndP; rw [if_neg h0]
      (replace hb0 := true_and True); refine Go1.mk ?_; repeat' ((first | (with_reducible refine Go1.go ?_) | ((with_reducible first | refine brv_mk ?_ ?_ | refine gsplitD ?_ ?_ | refine gsplitG ?_ ?_) <;> intro h <;> (try simp only [Bool.not_eq_true', Bool.not_eq_false'] at h) <;> replace hb0 := h) | (refine And.intro ?ob ?_; case ob => ((try simp only [sxO, ne_eq, maxLen] at *); omega)) | fail) <;> (try simp (config := { maxSteps := 1000000 }) only [hb0, e1, bs_mk, bs_app, bs_ext, bs_size, bs_toList, bs_at, bs_cells, List.take_length, imp_ga, guard_pk, guard_pk2, ↓hold_pre, awayP, runOps, regK, step1, newK, genR, appR, obl, buildR, Value.cells, closeK, keepH, outV, retK, ret1, retC, RetV, Option.getD, runD, stepD, afterK, undef, simprocAttr, sxB, ↓sxD, sxE, sxTab]))
      exact ⟨fpSt M (fstP l) (sndP l), le_sub ⟨by rw [e2]; rfl, rfl, rfl, trivial⟩ ⟨rfl, trivial⟩ rfl rfl rfl (keepLt0 _), rfl⟩
  rintro z rfl
  generalize fstP l = a at *
  generalize sndP l = b at *
  obtain ⟨o1, s1, _⟩ := parR_fine a
  obtain ⟨o2, s2, _⟩ := parR_fine b
  unfold mkP at hK
  (replace hb0 := true_and True); refine Go1.mk ?_; repeat' ((first | (with_reducible refine Go1.go ?_) | ((with_reducible first | refine brv_mk ?_ ?_ | refine gsplitD ?_ ?_ | refine gsplitG ?_ ?_) <;> intro h <;> (try simp only [Bool.not_eq_true', Bool.not_eq_false'] at h) <;> replace hb0 := h) | ((first | (with_reducible refine isCall (f := 86) ?_; refine callA_nil (by kernel_rfl) ?_) | (with_reducible refine isCall0 (f := 86) ?_; refine callA0_nil (by kernel_rfl) ?_)); refine (nparse_ok a (by omega) (fun w1 M1 a1 a2 _ => Stop.mk ?_))) | (refine And.intro ?ob ?_; case ob => ((try simp only [sxO, ne_eq, maxLen] at *); omega)) | fail) <;> (try simp (config := { maxSteps := 1000000 }) only [hb0, fpSt, bs_mk, bs_app, bs_ext, bs_size, bs_toList, bs_at, bs_cells, List.take_length, imp_ga, guard_pk, guard_pk2, ↓hold_pre, awayP, runOps, regK, step1, newK, genR, appR, obl, buildR, Value.cells, closeK, keepH, outV, retK, ret1, retC, RetV, Option.getD, runD, stepD, afterK, undef, simprocAttr, sxB, ↓sxD, sxE, sxTab]))
  have a1 : Mem.le M M1 := a1
  refine Stop.go ?_
  (replace hb0 := true_and True); refine Go1.mk ?_; repeat' ((first | (with_reducible refine Go1.go ?_) | ((with_reducible first | refine brv_mk ?_ ?_ | refine gsplitD ?_ ?_ | refine gsplitG ?_ ?_) <;> intro h <;> (try simp only [Bool.not_eq_true', Bool.not_eq_false'] at h) <;> replace hb0 := h) | ((first | (with_reducible refine isCall (f := 86) ?_; refine callA_nil (by kernel_rfl) ?_) | (with_reducible refine isCall0 (f := 86) ?_; refine callA0_nil (by kernel_rfl) ?_)); refine (nparse_ok b (by omega) (fun w2 M2 b1 b2 _ => Stop.mk ?_))) | (refine And.intro ?ob ?_; case ob => ((try simp only [sxO, ne_eq, maxLen] at *); omega)) | fail) <;> (try simp (config := { maxSteps := 1000000 }) only [hb0, a2.one, bs_mk, bs_app, bs_ext, bs_size, bs_toList, bs_at, bs_cells, List.take_length, imp_ga, guard_pk, guard_pk2, ↓hold_pre, awayP, runOps, regK, step1, newK, genR, appR, obl, buildR, Value.cells, closeK, keepH, outV, retK, ret1, retC, RetV, Option.getD, runD, stepD, afterK, undef, simprocAttr, sxB, ↓sxD, sxE, sxTab]))
  have b1 : Mem.le M1 M2 := b1
  have a2 := a2.le b1
  have hM := a1.trans b1
  generalize parR a = e at *
  generalize parR b = f at *
  obtain ⟨e, x⟩ := e
  obtain ⟨f, y⟩ := f
  refine Stop.go ?_
  simp only at hK a2 b2 o1 o2 s1 s2
  by_cases c1 : e = 6
  · have d2 : decide (e = 6) = true := decide_eq_true c1
    rw [if_pos (.inl c1)] at hK
    (replace hb0 := true_and True); refine Go1.mk ?_; repeat' ((first | (with_reducible refine Go1.go ?_) | ((with_reducible first | refine brv_mk ?_ ?_ | refine gsplitD ?_ ?_ | refine gsplitG ?_ ?_) <;> intro h <;> (try simp only [Bool.not_eq_true', Bool.not_eq_false'] at h) <;> replace hb0 := h) | (refine And.intro ?ob ?_; case ob => ((try simp only [sxO, ne_eq, maxLen] at *); omega)) | fail) <;> (try simp (config := { maxSteps := 1000000 }) only [hb0, a2.one, b2.one, d2, bs_mk, bs_app, bs_ext, bs_size, bs_toList, bs_at, bs_cells, List.take_length, imp_ga, guard_pk, guard_pk2, ↓hold_pre, awayP, runOps, regK, step1, newK, genR, appR, obl, buildR, Value.cells, closeK, keepH, outV, retK, ret1, retC, RetV, Option.getD, runD, stepD, afterK, undef, simprocAttr, sxB, ↓sxD, sxE, sxTab]))
    exact hK.err _ hM
  have d2 : decide (e = 6) = false := decide_eq_false c1
  by_cases c2 : f = 6
  · have d3 : decide (f = 6) = true := decide_eq_true c2
    rw [if_pos (.inr (.inl c2))] at hK
    (replace hb0 := true_and True); refine Go1.mk ?_; repeat' ((first | (with_reducible refine Go1.go ?_) | ((with_reducible first | refine brv_mk ?_ ?_ | refine gsplitD ?_ ?_ | refine gsplitG ?_ ?_) <;> intro h <;> (try simp only [Bool.not_eq_true', Bool.not_eq_false'] at h) <;> replace hb0 := h) | (refine And.intro ?ob ?_; case ob => ((try simp only [sxO, ne_eq, maxLen] at *); omega)) | fail) <;> (try simp (config := { maxSteps := 1000000 }) only [hb0, a2.one, b2.one, d2, d3, bs_mk, bs_app, bs_ext, bs_size, bs_toList, bs_at, bs_cells, List.take_length, imp_ga, guard_pk, guard_pk2, ↓hold_pre, awayP, runOps, regK, step1, newK, genR, appR, obl, buildR, Value.cells, closeK, keepH, outV, retK, ret1, retC, RetV, Option.getD, runD, stepD, afterK, undef, simprocAttr, sxB, ↓sxD, sxE, sxTab]))
    exact hK.err _ hM
  have d3 : decide (f = 6) = false := decide_eq_false c2
  cases hc : b.contains 47 with
  | true =>
    rw [if_pos (.inr (.inr hc))] at hK
    (replace hb0 := true_and True); refine Go1.mk ?_; repeat' ((first | (with_reducible refine Go1.go ?_) | ((with_reducible first | refine brv_mk ?_ ?_ | refine gsplitD ?_ ?_ | refine gsplitG ?_ ?_) <;> intro h <;> (try simp only [Bool.not_eq_true', Bool.not_eq_false'] at h) <;> replace hb0 := h) | ((first | (with_reducible refine isCall (f := 87) ?_; refine callA_nil (by kernel_rfl) ?_) | (with_reducible refine isCall0 (f := 87) ?_; refine callA0_nil (by kernel_rfl) ?_)); refine (sHas_ok b ?_)) | (refine And.intro ?ob ?_; case ob => ((try simp only [sxO, ne_eq, maxLen] at *); omega)) | fail) <;> (try simp (config := { maxSteps := 1000000 }) only [hb0, a2.one, b2.one, d2, d3, hc, bs_mk, bs_app, bs_ext, bs_size, bs_toList, bs_at, bs_cells, List.take_length, imp_ga, guard_pk, guard_pk2, ↓hold_pre, awayP, runOps, regK, step1, newK, genR, appR, obl, buildR, Value.cells, closeK, keepH, outV, retK, ret1, retC, RetV, Option.getD, runD, stepD, afterK, undef, simprocAttr, sxB, ↓sxD, sxE, sxTab]))
    exact hK.err _ hM
  | false =>
  rw [if_neg (by rw [hc]; simp [c1, c2])] at hK
  by_cases c3 : e = 0
  case neg =>
    have d4 : decide (e = 0) = false := decide_eq_false c3
    rw [if_pos c3] at hK
    (replace hb0 := true_and True); refine Go1.mk ?_; repeat' ((first | (with_reducible refine Go1.go ?_) | ((with_reducible first | refine brv_mk ?_ ?_ | refine gsplitD ?_ ?_ | refine gsplitG ?_ ?_) <;> intro h <;> (try simp only [Bool.not_eq_true', Bool.not_eq_false'] at h) <;> replace hb0 := h) | ((first | (with_reducible refine isCall (f := 87) ?_; refine callA_nil (by kernel_rfl) ?_) | (with_reducible refine isCall0 (f := 87) ?_; refine callA0_nil (by kernel_rfl) ?_)); refine (sHas_ok b ?_)) | (refine And.intro ?ob ?_; case ob => ((try simp only [sxO, ne_eq, maxLen] at *); omega)) | fail) <;> (try simp (config := { maxSteps := 1000000 }) only [hb0, a2.one, b2.one, d2, d3, d4, hc, bs_mk, bs_app, bs_ext, bs_size, bs_toList, bs_at, bs_cells, List.take_length, imp_ga, guard_pk, guard_pk2, ↓hold_pre, awayP, runOps, regK, step1, newK, genR, appR, obl, buildR, Value.cells, closeK, keepH, outV, retK, ret1, retC, RetV, Option.getD, runD, stepD, afterK, undef, simprocAttr, sxB, ↓sxD, sxE, sxTab]))
    exact hK.err _ hM
  have d4 : decide (e = 0) = true := decide_eq_true c3
  rw [if_neg (fun h => h c3)] at hK
  by_cases c4 : f = 0
  case neg =>
    have d5 : decide (f = 0) = false := decide_eq_false c4
    rw [if_pos c4] at hK
    (replace hb0 := true_and True); refine Go1.mk ?_; repeat' ((first | (with_reducible refine Go1.go ?_) | ((with_reducible first | refine brv_mk ?_ ?_ | refine gsplitD ?_ ?_ | refine gsplitG ?_ ?_) <;> intro h <;> (try simp only [Bool.not_eq_true', Bool.not_eq_false'] at h) <;> replace hb0 := h) | ((first | (with_reducible refine isCall (f := 87) ?_; refine callA_nil (by kernel_rfl) ?_) | (with_reducible refine isCall0 (f := 87) ?_; refine callA0_nil (by kernel_rfl) ?_)); refine (sHas_ok b ?_)) | (refine And.intro ?ob ?_; case ob => ((try simp only [sxO, ne_eq, maxLen] at *); omega)) | fail) <;> (try simp (config := { maxSteps := 1000000 }) only [hb0, a2.one, b2.one, d2, d3, d4, d5, hc, bs_mk, bs_app, bs_ext, bs_size, bs_toList, bs_at, bs_cells, List.take_length, imp_ga, guard_pk, guard_pk2, ↓hold_pre, awayP, runOps, regK, step1, newK, genR, appR, obl, buildR, Value.cells, closeK, keepH, outV, retK, ret1, retC, RetV, Option.getD, runD, stepD, afterK, undef, simprocAttr, sxB, ↓sxD, sxE, sxTab]))
    exact hK.err _ hM
  have d5 : decide (f = 0) = true := decide_eq_true c4
  rw [if_neg (fun h => h c4)] at hK
  (replace hb0 := true_and True); refine Go1.mk ?_; repeat' ((first | (with_reducible refine Go1.go ?_) | ((with_reducible first | refine brv_mk ?_ ?_ | refine gsplitD ?_ ?_ | refine gsplitG ?_ ?_) <;> intro h <;> (try simp only [Bool.not_eq_true', Bool.not_eq_false'] at h) <;> replace hb0 := h) | ((first | (with_reducible refine isCall (f := 87) ?_; refine callA_nil (by kernel_rfl) ?_) | (with_reducible refine isCall0 (f := 87) ?_; refine callA0_nil (by kernel_rfl) ?_)); refine (sHas_ok b ?_)) | ((first | (with_reducible refine isCall (f := 10) ?_; refine callA_nil (by kernel_rfl) ?_) | (with_reducible refine isCall0 (f := 10) ?_; refine callA0_nil (by kernel_rfl) ?_)); refine (fmake_ok a2 b2 o1 o2 (by omega) (by omega) (fun w3 w4 M3 e1 e2 e3 e4 e5 => Stop.mk ?_))) | (refine And.intro ?ob ?_; case ob => ((try simp only [sxO, ne_eq, maxLen] at *); omega)) | fail) <;> (try simp (config := { maxSteps := 1000000 }) only [hb0, a2.one, b2.one, d2, d3, d4, d5, hc, bs_mk, bs_app, bs_ext, bs_size, bs_toList, bs_at, bs_cells, List.take_length, imp_ga, guard_pk, guard_pk2, ↓hold_pre, awayP, runOps, regK, step1, newK, genR, appR, obl, buildR, Value.cells, closeK, keepH, outV, retK, ret1, retC, RetV, Option.getD, runD, stepD, afterK, undef, simprocAttr, sxB, ↓sxD, sxE, sxTab]))
  have e1 : Mem.le M2 M3 := e1
  refine Stop.go ?_
  (replace hb0 := true_and True); refine Go1.mk ?_; repeat' ((first | (with_reducible refine Go1.go ?_) | ((with_reducible first | refine brv_mk ?_ ?_ | refine gsplitD ?_ ?_ | refine gsplitG ?_ ?_) <;> intro h <;> (try simp only [Bool.not_eq_true', Bool.not_eq_false'] at h) <;> replace hb0 := h) | (refine And.intro ?ob ?_; case ob => ((try simp only [sxO, ne_eq, maxLen] at *); omega)) | fail) <;> (try simp (config := { maxSteps := 1000000 }) only [hb0, e2.one, e3.one, bs_mk, bs_app, bs_ext, bs_size, bs_toList, bs_at, bs_cells, List.take_length, imp_ga, guard_pk, guard_pk2, ↓hold_pre, awayP, runOps, regK, step1, newK, genR, appR, obl, buildR, Value.cells, closeK, keepH, outV, retK, ret1, retC, RetV, Option.getD, runD, stepD, afterK, undef, simprocAttr, sxB, ↓sxD, sxE, sxTab]))
  exact hK _ _ _ (hM.trans e1) e2 e3 (e4.le hM) (e5.le hM)
structure PartI (l : List UInt8) (i : Nat) (Q : List (List UInt8)) (x : List UInt8) : Prop where
  eq : Q.flatMap (· ++ [47]) ++ x = l.take i
  no : ∀ q ∈ Q, ∀ b ∈ q, b ≠ 47
  nx : ∀ b ∈ x, b ≠ 47
  ln : Q.length ≤ i
end
end Go.Proofs.YtamghpnjdohnjaaDoor.Sx
namespace Go.Proofs.YtamghpnjdohnjaaDoor.Sx
open Go Go.RowKit
set_option linter.unusedVariables false
set_option linter.unusedSimpArgs false
set_option maxRecDepth 100000
set_option maxHeartbeats 8000000
attribute [local congr] fin_congr finG_congr stepG_congr step1_congr runOps_congr brv_congr obl_congr condK_congr LoopK_congr seqK_congr CutK_congr vc_congr DrawK_congr regK_congr CallK_congr AskK_congr newK_congr retC_congr ret1_congr retK_congr outV_congr closeK_congr genR_congr appR_congr finD_congr finGD_congr stepGD_congr stepD_congr CallK0_congr runD_congr okR_congr CallS_congr vcX_congr
attribute [local congr] Stop_congr
section
variable {M : Mem} {K : AV → Hp → Mem → Prop} {u1 u2 v1 v2 : Value} {l1 l2 k1 k2 : List Nat}
end
end Go.Proofs.YtamghpnjdohnjaaDoor.Sx
namespace Go.Proofs.YtamghpnjdohnjaaDoor.Sx
open Go Go.RowKit
set_option linter.unusedVariables false
set_option linter.unusedSimpArgs false
set_option maxRecDepth 100000
set_option maxHeartbeats 8000000
attribute [local congr] fin_congr finG_congr stepG_congr step1_congr runOps_congr brv_congr obl_congr condK_congr LoopK_congr seqK_congr CutK_congr vc_congr DrawK_congr regK_congr CallK_congr AskK_congr newK_congr retC_congr ret1_congr retK_congr outV_congr closeK_congr genR_congr appR_congr finD_congr finGD_congr stepGD_congr stepD_congr CallK0_congr runD_congr okR_congr CallS_congr vcX_congr
attribute [local congr] Stop_congr
section
variable {M : Mem} {K : AV → Hp → Mem → Prop}
end
end Go.Proofs.YtamghpnjdohnjaaDoor.Sx
namespace Go.Proofs.YtamghpnjdohnjaaDoor.Sx
open Go Go.RowKit
set_option linter.unusedVariables false
set_option linter.unusedSimpArgs false
set_option maxRecDepth 100000
set_option maxHeartbeats 8000000
attribute [local congr] fin_congr finG_congr stepG_congr step1_congr runOps_congr brv_congr obl_congr condK_congr LoopK_congr seqK_congr CutK_congr vc_congr DrawK_congr regK_congr CallK_congr AskK_congr newK_congr retC_congr ret1_congr retK_congr outV_congr closeK_congr genR_congr appR_congr finD_congr finGD_congr stepGD_congr stepD_congr CallK0_congr runD_congr okR_congr CallS_congr vcX_congr
attribute [local congr] Stop_congr
theorem parR_dec8 {n : Nat} (h : (ofN n).length ≤ 8) : parR (decB n) = (0, ofN n) := by
  have hl : limR n = (0, ofN n) := by unfold limR; rw [if_pos (by omega)]
  by_cases h0 : n = 0
  · subst h0
    have e : decB 0 = [48] := rfl
    rw [e]
    unfold parR
    rw [if_neg (by decide), if_neg (by simp), if_pos (by decide), show numB [48] = 0 from rfl]
    exact hl
  have hlt := ofN_len_lt h
  rw [wN_pow2] at hlt
  have hd := dec_short2 _ _ hlt
  have e : decB n = dec n := by unfold decB; rw [if_neg h0]
  have hne : dec n ≠ [] := fun e => by
    have := numB_dec n
    rw [e] at this
    exact h0 this.symm
  rw [e]
  unfold parR
  rw [if_neg (by omega), if_neg ?_, if_pos ?_, numB_dec]
  · exact hl
  · exact List.all_eq_true.2 fun b hb => dgT_is.2 (dec_is n b hb)
  · rintro (h1 | ⟨_, h1⟩)
    · exact hne h1
    · cases hc : dec n with
      | nil => exact hne hc
      | cons c t =>
        rw [hc] at h1
        exact dec_head (n := n) c (by rw [hc]; rfl) h1
theorem decB_47 (n : Nat) : ∀ b ∈ decB n, b ≠ 47 := fun b hb e => by
  subst e
  unfold decB at hb
  split at hb
  · simp at hb
  · have := (dec_is n _ hb).1
    simp at this
theorem decB_8 {n : Nat} (h : (ofN n).length ≤ 8) : (decB n).length ≤ 256 := by
  have hlt := ofN_len_lt h
  rw [wN_pow2] at hlt
  have := dec_short2 _ _ hlt
  unfold decB
  split
  · simp
  · omega
theorem back_is {n d : Nat} (h1 : (ofN n).length ≤ 8) (h2 : (ofN d).length ≤ 8) (hd : 0 < d) (hg : Nat.gcd n d = 1) : parF (fmtF (ofN n) (ofN d)).2 = (0, n, d) ∧ (fmtF (ofN n) (ofN d)).1 = 0 ∧ (fmtF (ofN n) (ofN d)).2.length ≤ 1000 := by
  have hc : chkF (ofN n) (ofN d) = true := by
    unfold chkF
    rw [chkN_ofN (by omega), chkN_ofN (by omega), valN_ofN, valN_ofN, decide_eq_false (by omega), hg]
    rfl
  have l1 := decB_8 h1
  have l2 := decB_8 h2
  have hm : makF (ofN n) (ofN d) = (0, n, d) := by
    unfold makF
    rw [chkN_ofN (by omega), chkN_ofN (by omega), Bool.and_self, if_pos rfl, valN_ofN, valN_ofN, if_neg (by omega), exF_is (by omega) (by omega), hg, Nat.div_one, Nat.div_one]
  have h1' : parR [49] = (0, ofN 1) := by
    have : decB 1 = [49] := by decide +kernel
    rw [← this]
    exact parR_dec8 (by rw [ofN_1]; decide)
  unfold fmtF
  rw [hc, if_pos rfl, valN_ofN, valN_ofN]
  by_cases hd1 : d = 1
  · rw [if_pos hd1]
    refine ⟨?_, rfl, by simp only; omega⟩
    obtain ⟨f1, f2⟩ := fst_all (decB_47 n)
    unfold parF
    simp only
    rw [if_neg (by omega), f1]
    have e : sndP (decB n) = [49] := by unfold sndP; rw [if_pos f2]
    rw [e, parR_dec8 h1, h1']
    unfold mkP
    rw [if_neg (by simp), if_neg (by simp), if_neg (by simp)]
    simp only
    rw [hd1] at hm
    rw [hm, hd1]
  · rw [if_neg hd1]
    refine ⟨?_, rfl, by simp only [List.length_append, List.length_cons]; omega⟩
    obtain ⟨f1, f2⟩ := fst_app (a := decB n) (t := decB d) (decB_47 n)
    unfold parF
    simp only
    rw [if_neg (by simp only [List.length_append, List.length_cons]; omega), f1]
    have e : sndP (decB n ++ 47 :: decB d) = decB d := by unfold sndP; rw [f2, if_neg (by simp)]; rfl
    have hno : (decB d).contains 47 = false := by simpa using fun h => decB_47 d 47 h rfl
    rw [e, parR_dec8 h1, parR_dec8 h2, hno]
    unfold mkP
    rw [if_neg (by simp), if_neg (by simp), if_neg (by simp)]
    exact hm
theorem digs_snoc (d : Nat) : ∀ (k r : Nat), ∃ x, digs r d (k + 1) = digs r d k ++ [x]
  | 0, r => ⟨_, rfl⟩
  | k + 1, r => by
    obtain ⟨x, hx⟩ := digs_snoc d k (r * 10 % d)
    exact ⟨x, by rw [digs, hx]; rfl⟩
theorem rou_next (n d k : Nat) : ∃ x, rouB n d (k + 1) = (rouB n d k ++ (if k = 0 then [46] else [])) ++ [x] := by
  obtain ⟨x, hx⟩ := digs_snoc d k (n % d)
  refine ⟨x, ?_⟩
  unfold rouB
  rw [if_neg (by omega), hx]
  by_cases h : k = 0
  · subst h; simp [digs]
  · rw [if_neg h, if_neg h]; simp
theorem rouF_is {a b : List Nat} (hc : chkF a b = true) {k : Nat} (hk : k ≤ 30) : rouF a b (k : Int) = (0, rouB (valN a) (valN b) k) := by
  unfold rouF
  rw [hc, if_pos rfl, if_neg (by omega), Int.toNat_natCast]
theorem rouB_len {n d k : Nat} (h : (ofN n).length ≤ 8) : (rouB n d k).length ≤ 300 + k := by
  have := decB_8 (n := n / d) (Nat.le_trans (len_mono (Nat.div_le_self n d)) h)
  unfold rouB
  rw [List.length_append]
  split
  · simp; omega
  · rw [List.length_cons, digs_len]; omega
theorem mod30 (z : Int) : ∃ k : Nat, k < 30 ∧ IntKind.i64.wrap (z.tmod 30 + 30) = z.tmod 30 + 30 ∧ (z.tmod 30 + 30).tmod 30 = (k : Int) := by
  have h3 : z.tmod 30 < 30 := Int.tmod_lt_of_pos z (by omega)
  have h4 : -30 < z.tmod 30 := by
    have := Int.neg_tmod z 30
    have h5 := Int.tmod_lt_of_pos (-z) (show (0 : Int) < 30 by omega)
    omega
  obtain ⟨m, hm⟩ : ∃ m : Nat, z.tmod 30 + 30 = (m : Int) := ⟨(z.tmod 30 + 30).toNat, by omega⟩
  refine ⟨m % 30, Nat.mod_lt _ (by decide), wrap_id (by omega) (by omega), ?_⟩
  rw [hm, show (30 : Int) = ((30 : Nat) : Int) from rfl, ← Int.ofNat_tmod]
section
variable {M : Mem} {K : AV → Hp → Mem → Prop}
theorem rfmt1_ok (u : Value) (q : Nat) (hu : IsL M u32V u (ofN q)) (hq : (ofN q).length ≤ 128) (hK : ∀ M', Mem.le M M' → K (.ext (.tuple #[.string (bs (decB q)), .int .i64 0])) [] M') : CallS Tryd.prog 49 [.ext u] [] M [] K := by
  refine inlS (cs := []) Tryd.mixed Tryd.func49 rfl (by kernel_rfl) 0 rfl rfl ?_
  simp only [Tryd.f49]
  have hc := chkN_ofN hq
  (replace hb0 := true_and True); refine Go1.mk ?_; repeat' ((first | (with_reducible refine Go1.go ?_) | ((with_reducible first | refine brv_mk ?_ ?_ | refine gsplitD ?_ ?_ | refine gsplitG ?_ ?_) <;> intro h <;> (try simp only [Bool.not_eq_true', Bool.not_eq_false'] at h) <;> replace hb0 := h) | ((first | (with_reducible refine isCall (f := 52) ?_; refine callA_nil (by kernel_rfl) ?_) | (with_reducible refine isCall0 (f := 52) ?_; refine callA0_nil (by kernel_rfl) ?_)); refine (rcheck_ok u _ hu (by omega) ?_)) | ((first | (with_reducible refine isCall (f := 84) ?_; refine callA_nil (by kernel_rfl) ?_) | (with_reducible refine isCall0 (f := 84) ?_; refine callA0_nil (by kernel_rfl) ?_)); refine (rdigits_ok u q hu (by omega) (dec_128 hq) (fun M' h1 => Stop.mk ?_))) | (refine And.intro ?ob ?_; case ob => ((try simp only [sxO, ne_eq, maxLen] at *); omega)) | fail) <;> (try simp (config := { maxSteps := 1000000 }) only [hb0, hu.one, hc, bs_mk, bs_app, bs_ext, bs_size, bs_toList, bs_at, bs_cells, List.take_length, imp_ga, guard_pk, guard_pk2, ↓hold_pre, awayP, runOps, regK, step1, newK, genR, appR, obl, buildR, Value.cells, closeK, keepH, outV, retK, ret1, retC, RetV, Option.getD, runD, stepD, afterK, undef, simprocAttr, sxB, ↓sxD, sxE, sxTab]))
  refine Stop.go ?_
  (replace hb0 := true_and True); refine Go1.mk ?_; repeat' ((first | (with_reducible refine Go1.go ?_) | ((with_reducible first | refine brv_mk ?_ ?_ | refine gsplitD ?_ ?_ | refine gsplitG ?_ ?_) <;> intro h <;> (try simp only [Bool.not_eq_true', Bool.not_eq_false'] at h) <;> replace hb0 := h) | (refine And.intro ?ob ?_; case ob => ((try simp only [sxO, ne_eq, maxLen] at *); omega)) | fail) <;> (try simp (config := { maxSteps := 1000000 }) only [hb0, bs_mk, bs_app, bs_ext, bs_size, bs_toList, bs_at, bs_cells, List.take_length, imp_ga, guard_pk, guard_pk2, ↓hold_pre, awayP, runOps, regK, step1, newK, genR, appR, obl, buildR, Value.cells, closeK, keepH, outV, retK, ret1, retC, RetV, Option.getD, runD, stepD, afterK, undef, simprocAttr, sxB, ↓sxD, sxE, sxTab]))
  exact hK _ h1
def fbSt (M : Mem) (a1 a2 : Value) (k : Nat) (t v w d : List UInt8) : St := { env := [(20, .ext (.int .i64 0)), (19, .ext (.string (bs d))), (18, .ext (.int .i64 0)), (16, .ext (.int .i64 0)), (15, .ext (.string (bs w))), (14, .ext (.string (bs v))), (13, .ext (.string (bs t))), (11, .ext (.int .i64 0)), (9, .ext (.int .i64 0))], hp := [], M := M, kb := 0, fx := [] }
theorem fback_ok (u v : Value) (i1 i2 : List Int) (z : Int) (hu : IsL M (intVk .u32) u i1) (hv : IsL M (intVk .u32) v i2) (o1 : ∀ x ∈ i1, (Lit.int .u32 x).wf = true) (o2 : ∀ x ∈ i2, (Lit.int .u32 x).wf = true)
    (hK : ∀ M', Mem.le M M' → K (.ext (.bool true)) [] M') : CallS Tryd.prog 9 [.ext u, .ext v, .ext (.int .i64 z)] [] M [] K := by
  obtain ⟨hu, o1⟩ := nats_of hu o1
  obtain ⟨hv, o2⟩ := nats_of hv o2
  generalize i1.map Int.toNat = i1 at *
  generalize i2.map Int.toNat = i2 at *
  refine inlS (cs := [14]) Tryd.mixed Tryd.func9 rfl (by kernel_rfl) 0 rfl rfl ?_
  simp only [Tryd.f9]
  (replace hb0 := true_and True); refine Go1.mk ?_; repeat' ((first | (with_reducible refine Go1.go ?_) | ((with_reducible first | refine brv_mk ?_ ?_ | refine gsplitD ?_ ?_ | refine gsplitG ?_ ?_) <;> intro h <;> (try simp only [Bool.not_eq_true', Bool.not_eq_false'] at h) <;> replace hb0 := h) | ((first | (with_reducible refine isCall (f := 19) ?_; refine callA_nil (by kernel_rfl) ?_) | (with_reducible refine isCall0 (f := 19) ?_; refine callA0_nil (by kernel_rfl) ?_)); refine (frac_ok u v i1 i2 0 hu hv o1 o2 (fun a1 a2 M1 la ld m1 ha b1 b2 hc => Stop.mk ?_))) | (refine And.intro ?ob ?_; case ob => ((try simp only [sxO, ne_eq, maxLen] at *); omega)) | fail) <;> (try simp (config := { maxSteps := 1000000 }) only [hb0, hu.one, hv.one, bs_mk, bs_app, bs_ext, bs_size, bs_toList, bs_at, bs_cells, List.take_length, imp_ga, guard_pk, guard_pk2, ↓hold_pre, awayP, runOps, regK, step1, newK, genR, appR, obl, buildR, Value.cells, closeK, keepH, outV, retK, ret1, retC, RetV, Option.getD, runD, stepD, afterK, undef, simprocAttr, sxB, ↓sxD, sxE, sxTab]))
  have m1 : Mem.le M M1 := m1
  have hc := hc (by decide)
  obtain ⟨e1, e2, _, _, h0, hg⟩ := chkF_ok ha.on ha.od hc
  have c1 := ha.n
  have c2 := ha.d
  rw [e1] at c1 b1
  rw [e2] at c2 b2
  have hrF := fun (k : Nat) (hk : k ≤ 30) => rouF_is hc hk
  rw [e1, e2] at hrF
  simp only [valN_ofN] at hrF
  have hflo : floF (ofN (valN la)) (ofN (valN ld)) = (0, valN la / valN ld) := by
    unfold floF
    rw [← e1, ← e2, hc, if_pos rfl]
  clear e1 e2 ha hc hu hv
  generalize valN la = n at *
  generalize valN ld = d at *
  obtain ⟨hb1, hb2, hb3⟩ := back_is b1 b2 h0 hg
  have hF : IsF M1 a1 a2 (ofN n) (ofN d) := ⟨c1, c2, okN_ofN _, okN_ofN _, by omega, by omega⟩
  clear c1 c2
  obtain ⟨k, hk, wk, tk⟩ := mod30 z
  have wk2 : IntKind.i64.wrap ((k : Int) + 1) = ((k + 1 : Nat) : Int) := succ_i (by omega)
  have r1 := hrF k (by omega)
  have r2 := hrF (k + 1) (by omega)
  have r3 : rouF (ofN n) (ofN d) 0 = (0, rouB n d 0) := hrF 0 (by omega)
  have lk := rouB_len (d := d) (k := k) b1
  have lk2 := rouB_len (d := d) (k := k + 1) b1
  have hql : (ofN (n / d)).length ≤ 128 := Nat.le_trans (len_mono (Nat.div_le_self n d)) (by omega)
  have e30 : ((30 : Int) = 0) = False := by decide
  refine Stop.go ?_
  (replace hb0 := true_and True); refine Go1.mk ?_; repeat' ((first | (with_reducible refine Go1.go ?_) | ((with_reducible first | refine brv_mk ?_ ?_ | refine gsplitD ?_ ?_ | refine gsplitG ?_ ?_) <;> intro h <;> (try simp only [Bool.not_eq_true', Bool.not_eq_false'] at h) <;> replace hb0 := h) | ((first | (with_reducible refine isCall (f := 45) ?_; refine callA_nil (by kernel_rfl) ?_) | (with_reducible refine isCall0 (f := 45) ?_; refine callA0_nil (by kernel_rfl) ?_)); refine (ffmt_ok hF (fun M2 m2 => Stop.mk ?_))) | (refine And.intro ?ob ?_; case ob => ((try simp only [sxO, ne_eq, maxLen] at *); omega)) | fail) <;> (try simp (config := { maxSteps := 1000000 }) only [hb0, hF.n.one, hF.d.one, bs_mk, bs_app, bs_ext, bs_size, bs_toList, bs_at, bs_cells, List.take_length, imp_ga, guard_pk, guard_pk2, ↓hold_pre, awayP, runOps, regK, step1, newK, genR, appR, obl, buildR, Value.cells, closeK, keepH, outV, retK, ret1, retC, RetV, Option.getD, runD, stepD, afterK, undef, simprocAttr, sxB, ↓sxD, sxE, sxTab]))
  have m2 : Mem.le M1 M2 := m2
  have hF := hF.le m2
  refine Stop.go ?_
  (replace hb0 := true_and True); refine Go1.mk ?_; repeat' ((first | (with_reducible refine Go1.go ?_) | ((with_reducible first | refine brv_mk ?_ ?_ | refine gsplitD ?_ ?_ | refine gsplitG ?_ ?_) <;> intro h <;> (try simp only [Bool.not_eq_true', Bool.not_eq_false'] at h) <;> replace hb0 := h) | ((first | (with_reducible refine isCall (f := 47) ?_; refine callA_nil (by kernel_rfl) ?_) | (with_reducible refine isCall0 (f := 47) ?_; refine callA0_nil (by kernel_rfl) ?_)); refine (fparse_ok _ (by omega) (fun x1 x2 M3 m3 g1 g2 _ _ => Stop.mk ?_))) | (refine And.intro ?ob ?_; case ob => ((try simp only [sxO, ne_eq, maxLen] at *); omega)) | fail) <;> (try simp (config := { maxSteps := 1000000 }) only [hb0, hF.n.one, hF.d.one, hb2, bs_mk, bs_app, bs_ext, bs_size, bs_toList, bs_at, bs_cells, List.take_length, imp_ga, guard_pk, guard_pk2, ↓hold_pre, awayP, runOps, regK, step1, newK, genR, appR, obl, buildR, Value.cells, closeK, keepH, outV, retK, ret1, retC, RetV, Option.getD, runD, stepD, afterK, undef, simprocAttr, sxB, ↓sxD, sxE, sxTab]))
  have m3 : Mem.le M2 M3 := m3
  have hF := hF.le m3
  rw [hb1] at g1 g2 ⊢
  have g1 : IsL M3 u32V x1 (ofN n) := g1
  have g2 : IsL M3 u32V x2 (ofN d) := g2
  refine Stop.go ?_
  (replace hb0 := true_and True); refine Go1.mk ?_; repeat' ((first | (with_reducible refine Go1.go ?_) | ((with_reducible first | refine brv_mk ?_ ?_ | refine gsplitD ?_ ?_ | refine gsplitG ?_ ?_) <;> intro h <;> (try simp only [Bool.not_eq_true', Bool.not_eq_false'] at h) <;> replace hb0 := h) | ((first | (with_reducible refine isCall (f := 32) ?_; refine callA_nil (by kernel_rfl) ?_) | (with_reducible refine isCall0 (f := 32) ?_; refine callA0_nil (by kernel_rfl) ?_)); refine (sameFrac_ok hF.n hF.d g1 g2 (by omega) (by omega) ?_)) | ((first | (with_reducible refine isCall (f := 43) ?_; refine callA_nil (by kernel_rfl) ?_) | (with_reducible refine isCall0 (f := 43) ?_; refine callA0_nil (by kernel_rfl) ?_)); refine (fround_ok (k : Int) hF (fun M4 m4 => Stop.mk ?_))) | (refine And.intro ?ob ?_; case ob => ((try simp only [sxO, ne_eq, maxLen] at *); omega)) | fail) <;> (try simp (config := { maxSteps := 1000000 }) only [hb0, hF.n.one, hF.d.one, g1.one, g2.one, hb2, wk, tk, bs_mk, bs_app, bs_ext, bs_size, bs_toList, bs_at, bs_cells, List.take_length, imp_ga, guard_pk, guard_pk2, ↓hold_pre, awayP, runOps, regK, step1, newK, genR, appR, obl, buildR, Value.cells, closeK, keepH, outV, retK, ret1, retC, RetV, Option.getD, runD, stepD, afterK, undef, simprocAttr, sxB, ↓sxD, sxE, sxTab]))
  have m4 : Mem.le M3 M4 := m4
  have hF := hF.le m4
  rw [r1]
  refine Stop.go ?_
  (replace hb0 := true_and True); refine Go1.mk ?_; repeat' ((first | (with_reducible refine Go1.go ?_) | ((with_reducible first | refine brv_mk ?_ ?_ | refine gsplitD ?_ ?_ | refine gsplitG ?_ ?_) <;> intro h <;> (try simp only [Bool.not_eq_true', Bool.not_eq_false'] at h) <;> replace hb0 := h) | ((first | (with_reducible refine isCall (f := 43) ?_; refine callA_nil (by kernel_rfl) ?_) | (with_reducible refine isCall0 (f := 43) ?_; refine callA0_nil (by kernel_rfl) ?_)); refine (fround_ok ((k + 1 : Nat) : Int) hF (fun M5 m5 => Stop.mk ?_))) | (refine And.intro ?ob ?_; case ob => ((try simp only [sxO, ne_eq, maxLen] at *); omega)) | fail) <;> (try simp (config := { maxSteps := 1000000 }) only [hb0, hF.n.one, hF.d.one, wk2, bs_mk, bs_app, bs_ext, bs_size, bs_toList, bs_at, bs_cells, List.take_length, imp_ga, guard_pk, guard_pk2, ↓hold_pre, awayP, runOps, regK, step1, newK, genR, appR, obl, buildR, Value.cells, closeK, keepH, outV, retK, ret1, retC, RetV, Option.getD, runD, stepD, afterK, undef, simprocAttr, sxB, ↓sxD, sxE, sxTab]))
  have m5 : Mem.le M4 M5 := m5
  have hF := hF.le m5
  rw [r2]
  refine Stop.go ?_
  (replace hb0 := true_and True); refine Go1.mk ?_; repeat' ((first | (with_reducible refine Go1.go ?_) | ((with_reducible first | refine brv_mk ?_ ?_ | refine gsplitD ?_ ?_ | refine gsplitG ?_ ?_) <;> intro h <;> (try simp only [Bool.not_eq_true', Bool.not_eq_false'] at h) <;> replace hb0 := h) | ((first | (with_reducible refine isCall (f := 43) ?_; refine callA_nil (by kernel_rfl) ?_) | (with_reducible refine isCall0 (f := 43) ?_; refine callA0_nil (by kernel_rfl) ?_)); refine (fround_ok 0 hF (fun M6 m6 => Stop.mk ?_))) | (refine And.intro ?ob ?_; case ob => ((try simp only [sxO, ne_eq, maxLen] at *); omega)) | fail) <;> (try simp (config := { maxSteps := 1000000 }) only [hb0, hF.n.one, hF.d.one, bs_mk, bs_app, bs_ext, bs_size, bs_toList, bs_at, bs_cells, List.take_length, imp_ga, guard_pk, guard_pk2, ↓hold_pre, awayP, runOps, regK, step1, newK, genR, appR, obl, buildR, Value.cells, closeK, keepH, outV, retK, ret1, retC, RetV, Option.getD, runD, stepD, afterK, undef, simprocAttr, sxB, ↓sxD, sxE, sxTab]))
  have m6 : Mem.le M5 M6 := m6
  have hF := hF.le m6
  rw [r3]
  refine Stop.go ?_
  (replace hb0 := true_and True); refine Go1.mk ?_; repeat' ((first | (with_reducible refine Go1.go ?_) | ((with_reducible first | refine brv_mk ?_ ?_ | refine gsplitD ?_ ?_ | refine gsplitG ?_ ?_) <;> intro h <;> (try simp only [Bool.not_eq_true', Bool.not_eq_false'] at h) <;> replace hb0 := h) | ((first | (with_reducible refine isCall (f := 40) ?_; refine callA_nil (by kernel_rfl) ?_) | (with_reducible refine isCall0 (f := 40) ?_; refine callA0_nil (by kernel_rfl) ?_)); refine (ffloor_ok hF (fun w M7 m7 hw => Stop.mk ?_))) | (refine And.intro ?ob ?_; case ob => ((try simp only [sxO, ne_eq, maxLen] at *); omega)) | fail) <;> (try simp (config := { maxSteps := 1000000 }) only [hb0, hF.n.one, hF.d.one, bs_mk, bs_app, bs_ext, bs_size, bs_toList, bs_at, bs_cells, List.take_length, imp_ga, guard_pk, guard_pk2, ↓hold_pre, awayP, runOps, regK, step1, newK, genR, appR, obl, buildR, Value.cells, closeK, keepH, outV, retK, ret1, retC, RetV, Option.getD, runD, stepD, afterK, undef, simprocAttr, sxB, ↓sxD, sxE, sxTab]))
  have m7 : Mem.le M6 M7 := m7
  rw [hflo] at hw ⊢
  have hw : IsL M7 u32V w (ofN (n / d)) := hw
  refine Stop.go ?_
  (replace hb0 := true_and True); refine Go1.mk ?_; repeat' ((first | (with_reducible refine Go1.go ?_) | ((with_reducible first | refine brv_mk ?_ ?_ | refine gsplitD ?_ ?_ | refine gsplitG ?_ ?_) <;> intro h <;> (try simp only [Bool.not_eq_true', Bool.not_eq_false'] at h) <;> replace hb0 := h) | ((first | (with_reducible refine isCall (f := 49) ?_; refine callA_nil (by kernel_rfl) ?_) | (with_reducible refine isCall0 (f := 49) ?_; refine callA0_nil (by kernel_rfl) ?_)); refine (rfmt1_ok w _ hw hql (fun M8 m8 => Stop.mk ?_))) | (refine And.intro ?ob ?_; case ob => ((try simp only [sxO, ne_eq, maxLen] at *); omega)) | fail) <;> (try simp (config := { maxSteps := 1000000 }) only [hb0, hw.one, bs_mk, bs_app, bs_ext, bs_size, bs_toList, bs_at, bs_cells, List.take_length, imp_ga, guard_pk, guard_pk2, ↓hold_pre, awayP, runOps, regK, step1, newK, genR, appR, obl, buildR, Value.cells, closeK, keepH, outV, retK, ret1, retC, RetV, Option.getD, runD, stepD, afterK, undef, simprocAttr, sxB, ↓sxD, sxE, sxTab]))
  have m8 : Mem.le M7 M8 := m8
  have hM := ((((((m1.trans m2).trans m3).trans m4).trans m5).trans m6).trans m7).trans m8
  refine Stop.go ?_
  (replace hb0 := true_and True); refine Go1.mk ?_; repeat' ((first | (with_reducible refine Go1.go ?_) | ((with_reducible first | refine brv_mk ?_ ?_ | refine gsplitD ?_ ?_ | refine gsplitG ?_ ?_) <;> intro h <;> (try simp only [Bool.not_eq_true', Bool.not_eq_false'] at h) <;> replace hb0 := h) | (refine And.intro ?ob ?_; case ob => ((try simp only [sxO, ne_eq, maxLen] at *); omega)) | fail) <;> (try simp (config := { maxSteps := 1000000 }) only [hb0, hw.one, bs_mk, bs_app, bs_ext, bs_size, bs_toList, bs_at, bs_cells, List.take_length, imp_ga, guard_pk, guard_pk2, ↓hold_pre, awayP, runOps, regK, step1, newK, genR, appR, obl, buildR, Value.cells, closeK, keepH, outV, retK, ret1, retC, RetV, Option.getD, runD, stepD, afterK, undef, simprocAttr, sxB, ↓sxD, sxE, sxTab]))
  obtain ⟨x, hx⟩ := rou_next n d k
  have hr0 : rouB n d 0 = decB (n / d) := by simp [rouB]
  obtain ⟨t, ht⟩ : ∃ t, t = rouB n d k ++ (if k = 0 then [46] else []) := ⟨_, rfl⟩
  rw [← ht] at hx
  have htl : t.length ≤ 400 := by
    rw [ht, List.length_append]
    split <;> simp <;> omega
  refine ⟨fun s => s = fbSt M8 a1 a2 k t (t ++ [x]) (decB (n / d)) (decB (n / d)), ?_, ?_⟩
  · by_cases hk0 : k = 0
    · have d1 : decide ((k : Int) = 0) = true := by rw [hk0]; decide
      rw [if_pos hk0] at ht
      (replace hb0 := true_and True); refine Go1.mk ?_; repeat' ((first | (with_reducible refine Go1.go ?_) | ((with_reducible first | refine brv_mk ?_ ?_ | refine gsplitD ?_ ?_ | refine gsplitG ?_ ?_) <;> intro h <;> (try simp only [Bool.not_eq_true', Bool.not_eq_false'] at h) <;> replace hb0 := h) | (refine And.intro ?ob ?_; case ob => ((try simp only [sxO, ne_eq, maxLen] at *); omega)) | fail) <;> (try simp (config := { maxSteps := 1000000 }) only [hb0, hw.one, d1, List.length_append, bs_mk, bs_app, bs_ext, bs_size, bs_toList, bs_at, bs_cells, List.take_length, imp_ga, guard_pk, guard_pk2, ↓hold_pre, awayP, runOps, regK, step1, newK, genR, appR, obl, buildR, Value.cells, closeK, keepH, outV, retK, ret1, retC, RetV, Option.getD, runD, stepD, afterK, undef, simprocAttr, sxB, ↓sxD, sxE, sxTab]))
      exact ⟨fbSt M8 a1 a2 k t (t ++ [x]) (decB (n / d)) (decB (n / d)), le_sub ⟨rfl, rfl, rfl, rfl, by rw [hr0]; rfl, by rw [hx]; rfl, by rw [ht]; rfl, rfl, rfl, trivial⟩ trivial rfl rfl rfl (keepLt0 _), rfl⟩
    · have d1 : decide ((k : Int) = 0) = false := by rw [decide_eq_false_iff_not]; omega
      rw [if_neg hk0, List.append_nil] at ht
      (replace hb0 := true_and True); refine Go1.mk ?_; repeat' ((first | (with_reducible refine Go1.go ?_) | ((with_reducible first | refine brv_mk ?_ ?_ | refine gsplitD ?_ ?_ | refine gsplitG ?_ ?_) <;> intro h <;> (try simp only [Bool.not_eq_true', Bool.not_eq_false'] at h) <;> replace hb0 := h) | (refine And.intro ?ob ?_; case ob => ((try simp only [sxO, ne_eq, maxLen] at *); omega)) | fail) <;> (try simp (config := { maxSteps := 1000000 }) only [hb0, hw.one, d1, bs_mk, bs_app, bs_ext, bs_size, bs_toList, bs_at, bs_cells, List.take_length, imp_ga, guard_pk, guard_pk2, ↓hold_pre, awayP, runOps, regK, step1, newK, genR, appR, obl, buildR, Value.cells, closeK, keepH, outV, retK, ret1, retC, RetV, Option.getD, runD, stepD, afterK, undef, simprocAttr, sxB, ↓sxD, sxE, sxTab]))
      exact ⟨fbSt M8 a1 a2 k t (t ++ [x]) (decB (n / d)) (decB (n / d)), le_sub ⟨rfl, rfl, rfl, rfl, by rw [hr0]; rfl, by rw [hx]; rfl, by rw [ht]; rfl, rfl, rfl, trivial⟩ trivial rfl rfl rfl (keepLt0 _), rfl⟩
  rintro s rfl
  have q1 : (t ++ [x]).length = t.length + 1 := by simp
  have q2 : IntKind.i64.wrap ((t.length : Int) + 1) = ((t.length + 1 : Nat) : Int) := succ_i (by omega)
  have q3 : decide (((t.length + 1 : Nat) : Int) = ((t.length + 1 : Nat) : Int)) = true := by simp
  have q4 : (0 : Int) ≤ (t.length : Int) := by omega
  have q5 : (t.length : Int) ≤ ((t.length + 1 : Nat) : Int) := by omega
  have q6 : (t ++ [x]).take t.length = t := by simp
  have q7 : (t == t) = true := by simp
  have q8 : (decB (n / d) == decB (n / d)) = true := by simp
  (replace hb0 := true_and True); refine Go1.mk ?_; repeat' ((first | (with_reducible refine Go1.go ?_) | ((with_reducible first | refine brv_mk ?_ ?_ | refine gsplitD ?_ ?_ | refine gsplitG ?_ ?_) <;> intro h <;> (try simp only [Bool.not_eq_true', Bool.not_eq_false'] at h) <;> replace hb0 := h) | ((first | (with_reducible refine isCall (f := 18) ?_; refine callA_nil (by kernel_rfl) ?_) | (with_reducible refine isCall0 (f := 18) ?_; refine callA0_nil (by kernel_rfl) ?_)); refine (awake02_ok (fun M9 m9 => Stop.mk ?_))) | (refine And.intro ?ob ?_; case ob => ((try simp only [sxO, ne_eq, maxLen] at *); omega)) | fail) <;> (try simp (config := { maxSteps := 1000000 }) only [hb0, fbSt, q1, q2, q3, q4, q5, q6, q7, q8, List.drop_zero, bs_mk, bs_app, bs_ext, bs_size, bs_toList, bs_at, bs_cells, List.take_length, imp_ga, guard_pk, guard_pk2, ↓hold_pre, awayP, runOps, regK, step1, newK, genR, appR, obl, buildR, Value.cells, closeK, keepH, outV, retK, ret1, retC, RetV, Option.getD, runD, stepD, afterK, undef, simprocAttr, sxB, ↓sxD, sxE, sxTab]))
  have m9 : Mem.le M8 M9 := m9
  refine Stop.go ?_
  (replace hb0 := true_and True); refine Go1.mk ?_; repeat' ((first | (with_reducible refine Go1.go ?_) | ((with_reducible first | refine brv_mk ?_ ?_ | refine gsplitD ?_ ?_ | refine gsplitG ?_ ?_) <;> intro h <;> (try simp only [Bool.not_eq_true', Bool.not_eq_false'] at h) <;> replace hb0 := h) | (refine And.intro ?ob ?_; case ob => ((try simp only [sxO, ne_eq, maxLen] at *); omega)) | fail) <;> (try simp (config := { maxSteps := 1000000 }) only [hb0, bs_mk, bs_app, bs_ext, bs_size, bs_toList, bs_at, bs_cells, List.take_length, imp_ga, guard_pk, guard_pk2, ↓hold_pre, awayP, runOps, regK, step1, newK, genR, appR, obl, buildR, Value.cells, closeK, keepH, outV, retK, ret1, retC, RetV, Option.getD, runD, stepD, afterK, undef, simprocAttr, sxB, ↓sxD, sxE, sxTab]))
  exact hK _ (hM.trans m9)
end
end Go.Proofs.YtamghpnjdohnjaaDoor.Sx
