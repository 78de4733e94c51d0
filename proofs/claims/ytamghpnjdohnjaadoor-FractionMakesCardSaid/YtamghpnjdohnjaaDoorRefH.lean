import Derived.Test.YtamghpnjdohnjaaDoorRefG
/- Numbers: the reference's count of low zeros, and differences in place. -/
namespace Go.Proofs.YtamghpnjdohnjaaDoor.Sx
open Go Go.RowKit
set_option linter.unusedVariables false
set_option linter.unusedSimpArgs false
set_option maxRecDepth 100000
set_option maxHeartbeats 8000000
attribute [local congr] fin_congr finG_congr stepG_congr step1_congr runOps_congr brv_congr obl_congr condK_congr LoopK_congr seqK_congr CutK_congr vc_congr DrawK_congr regK_congr CallK_congr AskK_congr newK_congr retC_congr ret1_congr retK_congr outV_congr closeK_congr genR_congr appR_congr finD_congr finGD_congr stepGD_congr stepD_congr CallK0_congr runD_congr okR_congr CallS_congr vcX_congr
attribute [local congr] Stop_congr
theorem zeros_plain {x n c a q r : Nat} (hx : x = wN n * (a + 4294967296 * r)) (ha : a = 2 ^ c * q) (ha2 : a < 4294967296) (hq : q % 2 = 1) : c < 32 ∧ ∃ s, x = 2 ^ (32 * n + c) * s ∧ s % 2 = 1 := by
  have hc : c < 32 := by
    rcases Nat.lt_or_ge c 32 with h | h
    · exact h
    · have h1 : 2 ^ 32 ≤ 2 ^ c := Nat.pow_le_pow_right (by decide) h
      have h2 := Nat.mul_le_mul_left (2 ^ c) (show 1 ≤ q by omega)
      omega
  refine ⟨hc, q + 2 ^ (32 - c) * r, ?_, ?_⟩
  · have h1 : 2 ^ c * 2 ^ (32 - c) = 4294967296 := by rw [← Nat.pow_add, show c + (32 - c) = 32 by omega]
    rw [hx, ha, wN_two, Nat.pow_add, ← h1]
    generalize 2 ^ (32 * n) = A
    generalize 2 ^ c = B
    generalize 2 ^ (32 - c) = D
    grind
  · obtain ⟨d, hd⟩ : ∃ d, 32 - c = d + 1 := ⟨32 - c - 1, by omega⟩
    rw [hd, Nat.pow_succ, Nat.mul_comm (2 ^ d) 2, Nat.mul_assoc]
    omega
section
variable {M : Mem} {K : AV → Hp → Mem → Prop}
def zeSt (M : Mem) (u : Value) (n : Nat) : St := { env := [(3, .ext (.int .i64 (n : Int))), (0, .ext u)], hp := [], M := M, kb := 0, fx := [] }
def zfSt (M : Mem) (k a : Nat) : St := { env := [(5, .ext (.int .u32 (a : Int))), (4, .ext (.int .i64 (k : Int)))], hp := [], M := M, kb := 0, fx := [] }
theorem zeros_ok (u : Value) (x : Nat) (hu : IsL M u32V u (ofN x)) (hx : (ofN x).length < 100000000) (hx0 : 0 < x) (hK : ∀ e q : Nat, e < 32 * (ofN x).length → x = 2 ^ e * q → q % 2 = 1 → K (.ext (.int .i64 (e : Int))) [] M) : CallS Tryd.prog 91 [.ext u] [] M [] K := by
  refine inlS (cs := []) Tryd.mixed Tryd.func91 rfl (by kernel_rfl) 0 rfl rfl ?_
  simp only [Tryd.f91]
  (replace hb0 := true_and True); refine Go1.mk ?_; repeat' ((first | (with_reducible refine Go1.go ?_) | ((with_reducible first | refine brv_mk ?_ ?_ | refine gsplitD ?_ ?_ | refine gsplitG ?_ ?_) <;> intro h <;> (try simp only [Bool.not_eq_true', Bool.not_eq_false'] at h) <;> replace hb0 := h) | (refine And.intro ?ob ?_; case ob => ((try simp only [sxO, ne_eq, maxLen] at *); omega)) | fail) <;> (try simp (config := { maxSteps := 1000000 }) only [hb0, cE_ment, hasK_nil, cE_kill, cE_len, u32_one, u32_app1, u32_set, Nat.mul_one, hu.one, hu.len, hu.sl, ↓hold_pre, awayP, runOps, regK, step1, newK, genR, appR, obl, buildR, Value.cells, closeK, keepH, outV, retK, ret1, retC, RetV, Option.getD, runD, stepD, afterK, undef, simprocAttr, sxB, ↓sxD, sxE, sxTab]))
  refine ⟨fun d z => ∃ n, d = (ofN x).length - n ∧ n ≤ (ofN x).length ∧ x = wN n * valN ((ofN x).drop n) ∧ z = zeSt M u n, ⟨(ofN x).length, zeSt M u 0, le_sub ⟨rfl, rfl, trivial⟩ trivial rfl rfl rfl (keepLt0 _), ⟨0, rfl, by omega, by rw [List.drop_zero, valN_ofN]; simp [wN], rfl⟩⟩, ?_⟩
  rintro d z ⟨n, rfl, hn, hv, rfl⟩
  have hnl : n < (ofN x).length := by
    rcases Nat.lt_or_ge n (ofN x).length with h | h
    · exact h
    · rw [List.drop_of_length_le h, show valN [] = 0 from rfl] at hv; omega
  have hxi := hu.idx (P := Tryd.prog) (T := 70) tk70 tz70 (by omega) hnl
  have ha := ofN_ok_at hnl
  have hdr := valN_drop hnl
  rw [hdr] at hv
  obtain ⟨a, hae⟩ : ∃ a, (ofN x)[n] = a := ⟨_, rfl⟩
  rw [hae] at ha hv
  simp only [hae] at hxi
  clear hae hdr
  generalize hr : valN ((ofN x).drop (n + 1)) = r at *
  generalize hl : (ofN x).length = la at *
  have w1 : IntKind.i64.wrap ((n : Int) + 1) = ((n + 1 : Nat) : Int) := succ_i (by omega)
  by_cases h0 : a = 0
  · have d1 : decide ((a : Int) = 0) = true := by simp; omega
    (replace hb0 := true_and True); refine Go1.mk ?_; repeat' ((first | (with_reducible refine Go1.go ?_) | ((with_reducible first | refine brv_mk ?_ ?_ | refine gsplitD ?_ ?_ | refine gsplitG ?_ ?_) <;> intro h <;> (try simp only [Bool.not_eq_true', Bool.not_eq_false'] at h) <;> replace hb0 := h) | (refine And.intro ?ob ?_; case ob => ((try simp only [sxO, ne_eq, maxLen] at *); omega)) | fail) <;> (try simp (config := { maxSteps := 1000000 }) only [hb0, cE_ment, hasK_nil, cE_kill, cE_len, u32_one, u32_app1, u32_set, Nat.mul_one, zeSt, u32V, hu.one, hu.len, hu.sl, hl, hxi, d1, w1, ↓hold_pre, awayP, runOps, regK, step1, newK, genR, appR, obl, buildR, Value.cells, closeK, keepH, outV, retK, ret1, retC, RetV, Option.getD, runD, stepD, afterK, undef, simprocAttr, sxB, ↓sxD, sxE, sxTab]))
    exact ⟨la - (n + 1), zeSt M u (n + 1), by omega, le_sub ⟨rfl, rfl, trivial⟩ trivial rfl rfl rfl (keepLt0 _), n + 1, rfl, by omega, by
      rw [h0, Nat.zero_add] at hv
      rw [wN_succ, hr, hv]
      grind, rfl⟩
  have d1 : decide ((a : Int) = 0) = false := by simp; omega
  have w2 : IntKind.i64.wrap (32 * (n : Int)) = ((32 * n + 0 : Nat) : Int) := by rw [wrap_id (by omega) (by omega)]; omega
  (replace hb0 := true_and True); refine Go1.mk ?_; repeat' ((first | (with_reducible refine Go1.go ?_) | ((with_reducible first | refine brv_mk ?_ ?_ | refine gsplitD ?_ ?_ | refine gsplitG ?_ ?_) <;> intro h <;> (try simp only [Bool.not_eq_true', Bool.not_eq_false'] at h) <;> replace hb0 := h) | (refine And.intro ?ob ?_; case ob => ((try simp only [sxO, ne_eq, maxLen] at *); omega)) | fail) <;> (try simp (config := { maxSteps := 1000000 }) only [hb0, cE_ment, hasK_nil, cE_kill, cE_len, u32_one, u32_app1, u32_set, Nat.mul_one, zeSt, u32V, hu.one, hu.len, hu.sl, hl, hxi, d1, w2, ↓hold_pre, awayP, runOps, regK, step1, newK, genR, appR, obl, buildR, Value.cells, closeK, keepH, outV, retK, ret1, retC, RetV, Option.getD, runD, stepD, afterK, undef, simprocAttr, sxB, ↓sxD, sxE, sxTab]))
  refine ⟨fun d z => ∃ c q, q = d ∧ 0 < q ∧ q < 4294967296 ∧ c ≤ 32 ∧ a = 2 ^ c * q ∧ z = zfSt M (32 * n + c) q, ⟨a, zfSt M (32 * n + 0) a, le_sub ⟨rfl, rfl, trivial⟩ trivial rfl rfl rfl (keepLt0 _), ⟨0, a, rfl, by omega, ha, by omega, by simp, rfl⟩⟩, ?_⟩
  rintro d z ⟨c, q, rfl, hq0, hq1, hc, hac, rfl⟩
  have w3 : (q : Int).tmod 2 = ((q % 2 : Nat) : Int) := by rw [show (2 : Int) = ((2 : Nat) : Int) from rfl, ← Int.ofNat_tmod]
  have w4 : IntKind.u32.wrap ((q : Int).tdiv 2) = ((q / 2 : Nat) : Int) := by
    rw [show (2 : Int) = ((2 : Nat) : Int) from rfl, ← Int.ofNat_tdiv, wrap32_id (by omega)]
  have w5 : IntKind.u32.wrap ((q % 2 : Nat) : Int) = ((q % 2 : Nat) : Int) := wrap32_id (by omega)
  have w6 : IntKind.i64.wrap (((32 * n + c : Nat) : Int) + 1) = ((32 * n + (c + 1) : Nat) : Int) := by rw [wrap_id (by omega) (by omega)]; omega
  by_cases he : q % 2 = 0
  · have d2 : decide (((q % 2 : Nat) : Int) = 0) = true := by rw [he]; rfl
    (replace hb0 := true_and True); refine Go1.mk ?_; repeat' ((first | (with_reducible refine Go1.go ?_) | ((with_reducible first | refine brv_mk ?_ ?_ | refine gsplitD ?_ ?_ | refine gsplitG ?_ ?_) <;> intro h <;> (try simp only [Bool.not_eq_true', Bool.not_eq_false'] at h) <;> replace hb0 := h) | (refine And.intro ?ob ?_; case ob => ((try simp only [sxO, ne_eq, maxLen] at *); omega)) | fail) <;> (try simp (config := { maxSteps := 1000000 }) only [hb0, cE_ment, hasK_nil, cE_kill, cE_len, u32_one, u32_app1, u32_set, Nat.mul_one, zfSt, d2, w3, w4, w5, w6, ↓hold_pre, awayP, runOps, regK, step1, newK, genR, appR, obl, buildR, Value.cells, closeK, keepH, outV, retK, ret1, retC, RetV, Option.getD, runD, stepD, afterK, undef, simprocAttr, sxB, ↓sxD, sxE, sxTab]))
    have hq2 : q = 2 * (q / 2) := by omega
    have hac2 : a = 2 ^ (c + 1) * (q / 2) := by
      rw [Nat.pow_succ, Nat.mul_assoc, ← hq2]; exact hac
    exact ⟨q / 2, zfSt M (32 * n + (c + 1)) (q / 2), by omega, le_sub ⟨rfl, rfl, trivial⟩ trivial rfl rfl rfl (keepLt0 _), c + 1, q / 2, rfl, by omega, by omega, by
      rcases Nat.lt_or_ge c 32 with h | h
      · omega
      · have h1 : 2 ^ 32 ≤ 2 ^ c := Nat.pow_le_pow_right (by decide) h
        have h2 := Nat.mul_le_mul_left (2 ^ c) (show 1 ≤ q by omega)
        omega, hac2, rfl⟩
  · have d2 : decide (((q % 2 : Nat) : Int) = 0) = false := by rw [show q % 2 = 1 by omega]; rfl
    obtain ⟨hc2, s, hs1, hs2⟩ := zeros_plain hv hac ha (show q % 2 = 1 by omega)
    (replace hb0 := true_and True); refine Go1.mk ?_; repeat' ((first | (with_reducible refine Go1.go ?_) | ((with_reducible first | refine brv_mk ?_ ?_ | refine gsplitD ?_ ?_ | refine gsplitG ?_ ?_) <;> intro h <;> (try simp only [Bool.not_eq_true', Bool.not_eq_false'] at h) <;> replace hb0 := h) | (refine And.intro ?ob ?_; case ob => ((try simp only [sxO, ne_eq, maxLen] at *); omega)) | fail) <;> (try simp (config := { maxSteps := 1000000 }) only [hb0, cE_ment, hasK_nil, cE_kill, cE_len, u32_one, u32_app1, u32_set, Nat.mul_one, zfSt, d2, w3, w4, w5, w6, ↓hold_pre, awayP, runOps, regK, step1, newK, genR, appR, obl, buildR, Value.cells, closeK, keepH, outV, retK, ret1, retC, RetV, Option.getD, runD, stepD, afterK, undef, simprocAttr, sxB, ↓sxD, sxE, sxTab]))
    exact hK _ s (by omega) hs1 hs2
/-- of a number in a block of one's own -/
theorem zeros_bor (k o m : Nat) (T : TypeId) (L : List Nat) (x : Nat) (h : OwnN L o m x) (hb : L.length < 100000000) (hx0 : 0 < x) (hK : ∀ e q : Nat, e < 32 * (ofN x).length → x = 2 ^ e * q → q % 2 = 1 → K (.ext (.int .i64 (e : Int))) [(k, T, cE u32V L)] M) : CallS Tryd.prog 91 [.slo k o m 1] [(k, T, cE u32V L)] M [] K := by
  refine CallS.bor ⟨⟨_, rfl⟩, trivial⟩ fun us M' hM hb' => ?_
  obtain ⟨v1, _, rfl, h1, rfl⟩ := hb'
  have g1 := h1.part (g := u32V) (L := L) (T := T) (by simp [lkH]) h.le
  rw [h.eq] at g1
  exact zeros_ok v1 x g1 (by have := h.len; have := h.le; omega) hx0 fun e q h1 h2 h3 => BorK.same (hK e q h1 h2 h3)
theorem order_bor (k1 k2 o1 m1 o2 m2 : Nat) (hne : k1 ≠ k2) (T : TypeId) (L1 L2 : List Nat) (x y : Nat) (h : OwnN L1 o1 m1 x) (g : OwnN L2 o2 m2 y) (hb1 : L1.length < 100000000) (hb2 : L2.length < 100000000) (hK : K (.ext (.int .i64 (cmpN x y))) [(k1, T, cE u32V L1), (k2, T, cE u32V L2)] M) :
    CallS Tryd.prog 57 [.slo k1 o1 m1 1, .slo k2 o2 m2 1] [(k1, T, cE u32V L1), (k2, T, cE u32V L2)] M [] K := by
  refine CallS.bor ⟨⟨_, rfl⟩, ⟨_, rfl⟩, trivial⟩ fun us M' hM hb' => ?_
  obtain ⟨v1, _, rfl, h1, v2, _, rfl, h2, rfl⟩ := hb'
  have g1 := h1.part (g := u32V) (L := L1) (T := T) (by simp [lkH]) h.le
  have g2 := h2.part (g := u32V) (L := L2) (T := T) (by simp [lkH, hne, hne.symm]) g.le
  rw [h.eq] at g1
  rw [g.eq] at g2
  exact rorder_ok v1 v2 x y g1 g2 (by have := h.len; have := h.le; omega) (by have := g.len; have := g.le; omega) (BorK.same hK)
end
end Go.Proofs.YtamghpnjdohnjaaDoor.Sx
