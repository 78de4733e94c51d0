/- Part 3 of the texts of this claim: a symbolic executor and contracts of functions. -/
import Derived.Test.YtamghpnjdohnjaaDoorFrJP2
namespace Go.Proofs.YtamghpnjdohnjaaDoor.Sx
open Go Go.RowKit
set_option linter.unusedVariables false
set_option linter.unusedSimpArgs false
set_option maxRecDepth 100000
set_option maxHeartbeats 8000000
attribute [local congr] fin_congr finG_congr stepG_congr step1_congr runOps_congr brv_congr obl_congr condK_congr LoopK_congr seqK_congr CutK_congr vc_congr DrawK_congr regK_congr CallK_congr AskK_congr newK_congr retC_congr ret1_congr retK_congr outV_congr closeK_congr genR_congr appR_congr finD_congr finGD_congr stepGD_congr stepD_congr CallK0_congr runD_congr okR_congr CallS_congr vcX_congr
attribute [local congr] Stop_congr
section
variable {M : Mem} {K : AV → Hp → Mem → Prop}
def NatK (M : Mem) (K : AV → Hp → Mem → Prop) (n : Nat) : Prop := ∀ w M', Mem.le M M' → IsL M' u32V w (ofN n) → FreshS M w → K (.ext w) [] M'
theorem NatK.frz {n m k : Nat} (h : NatK M K n) (hm : m = (ofN n).length) : FrzF K [] (.slo k 0 m 1) [(k, 70, cE u32V (ofN n))] M := by
  subst hm
  exact FrzF.one ((ofN n).map u32V) rfl (by simp) fun w M' h1 h2 h3 => h w M' h1 h2 h3
theorem val2 (n : Nat) : valN [n % 4294967296, n / 4294967296] = n := by simp only [valN]; omega
theorem of_ok (n : Nat) (hn : n < 18446744073709551616) (hK : NatK M K n) : CallS Tryd.prog 82 [.ext (.int .u64 (n : Int))] [] M [] K := by
  refine CallS.frzF ?_
  refine inlS (cs := []) Tryd.mixed Tryd.func82 rfl (by kernel_rfl) 0 rfl rfl ?_
  simp only [Tryd.f82]
  have w1 := wrap32 n
  have w2 := shr32 n
  have w3 : IntKind.u32.wrap ((n / 4294967296 : Nat) : Int) = ((n / 4294967296 : Nat) : Int) := wrap32_id (by omega)
  have c1 : [AV.ext (.int .u32 ((n % 4294967296 : Nat) : Int)), AV.ext (.int .u32 ((n / 4294967296 : Nat) : Int))] = cE u32V [n % 4294967296, n / 4294967296] := rfl
  have ho : okN [n % 4294967296, n / 4294967296] := okN_cons.2 ⟨by omega, okN_one (by omega)⟩
  have hv := val2 n
  (replace hb0 := true_and True); refine Go1.mk ?_; repeat' ((first | (with_reducible refine Go1.go ?_) | ((with_reducible first | refine brv_mk ?_ ?_ | refine gsplitD ?_ ?_ | refine gsplitG ?_ ?_) <;> intro h <;> (try simp only [Bool.not_eq_true', Bool.not_eq_false'] at h) <;> replace hb0 := h) | ((with_reducible refine isCall (f := 94) ?_); refine callA ?_) | ((with_reducible refine isCall0 (f := 94) ?_); refine callA0 ?_) | ((with_reducible refine isCallS (f := 94) ?_); refine (trim_ok 8 2 [n % 4294967296, n / 4294967296] rfl (by decide) ho (fun m h1 h2 => ?_))) | (refine And.intro ?ob ?_; case ob => ((try simp only [sxO, ne_eq, maxLen] at *); omega)) | fail) <;> (try simp (config := { maxSteps := 1000000 }) only [hb0, cE_ment, hasK_nil, cE_kill, cE_len, u32_one, u32_app1, u32_set, Nat.mul_one, w1, w2, w3, c1, ↓hold_pre, awayP, runOps, regK, step1, newK, genR, appR, obl, buildR, Value.cells, closeK, keepH, outV, retK, ret1, retC, RetV, Option.getD, runD, stepD, afterK, undef, simprocAttr, sxB, ↓sxD, sxE, sxTab]))
  rw [hv] at h2 ⊢
  (replace hb0 := true_and True); refine Go1.mk ?_; repeat' ((first | (with_reducible refine Go1.go ?_) | ((with_reducible first | refine brv_mk ?_ ?_ | refine gsplitD ?_ ?_ | refine gsplitG ?_ ?_) <;> intro h <;> (try simp only [Bool.not_eq_true', Bool.not_eq_false'] at h) <;> replace hb0 := h) | (refine And.intro ?ob ?_; case ob => ((try simp only [sxO, ne_eq, maxLen] at *); omega)) | fail) <;> (try simp (config := { maxSteps := 1000000 }) only [hb0, cE_ment, hasK_nil, cE_kill, cE_len, u32_one, u32_app1, u32_set, Nat.mul_one, ↓hold_pre, awayP, runOps, regK, step1, newK, genR, appR, obl, buildR, Value.cells, closeK, keepH, outV, retK, ret1, retC, RetV, Option.getD, runD, stepD, afterK, undef, simprocAttr, sxB, ↓sxD, sxE, sxTab]))
  exact hK.frz h2
def ad0 (M : Mem) (u v : Value) : St := { env := [(0, .ext u), (1, .ext v)], hp := [], M := M, kb := 0, fx := [] }
def adSt (M : Mem) (u v : Value) (la i c : Nat) (out : List Nat) : St := { env := [(23, .ext (.int .i64 (i : Int))), (22, .ext (.int .i64 (la : Int))), (21, .ext u), (6, .ext (.int .u64 (c : Int))), (5, .slo 20 0 i 1), (1, .ext v)], hp := [(20, 70, cE u32V out)], M := M, kb := 0, fx := [] }
theorem ofN_ok_at {n i : Nat} (h : i < (ofN n).length) : (ofN n)[i] < 4294967296 := okN_at (okN_ofN n) h
theorem add_ok (u v : Value) (x y : Nat) (hu : IsL M u32V u (ofN x)) (hv : IsL M u32V v (ofN y)) (hx : (ofN x).length < 100000000) (hy : (ofN y).length < 100000000) (hK : NatK M K (x + y)) : CallS Tryd.prog 63 [.ext u, .ext v] [] M [] K := by
  refine CallS.frzF ?_
  refine inlS (cs := [3]) Tryd.mixed Tryd.func63 rfl (by kernel_rfl) 0 rfl rfl ?_
  simp only [Tryd.f63]
  (replace hb0 := true_and True); refine Go1.mk ?_; repeat' ((first | (with_reducible refine Go1.go ?_) | ((with_reducible first | refine brv_mk ?_ ?_ | refine gsplitD ?_ ?_ | refine gsplitG ?_ ?_) <;> intro h <;> (try simp only [Bool.not_eq_true', Bool.not_eq_false'] at h) <;> replace hb0 := h) | (refine And.intro ?ob ?_; case ob => ((try simp only [sxO, ne_eq, maxLen] at *); omega)) | fail) <;> (try simp (config := { maxSteps := 1000000 }) only [hb0, cE_ment, hasK_nil, cE_kill, cE_len, u32_one, u32_app1, u32_set, Nat.mul_one, hu.one, hv.one, ↓hold_pre, awayP, runOps, regK, step1, newK, genR, appR, obl, buildR, Value.cells, closeK, keepH, outV, retK, ret1, retC, RetV, Option.getD, runD, stepD, afterK, undef, simprocAttr, sxB, ↓sxD, sxE, sxTab]))
  refine ⟨fun z => ∃ u' v' x' y', IsL M u32V u' (ofN x') ∧ IsL M u32V v' (ofN y') ∧ (ofN x').length < 100000000 ∧ (ofN y').length ≤ (ofN x').length ∧ x' + y' = x + y ∧ z = ad0 M u' v', ?_, ?_⟩
  · by_cases hlt : (ofN x).length < (ofN y).length
    · have d1 : decide (((ofN x).length : Int) < ((ofN y).length : Int)) = true := by simp; omega
      (replace hb0 := true_and True); refine Go1.mk ?_; repeat' ((first | (with_reducible refine Go1.go ?_) | ((with_reducible first | refine brv_mk ?_ ?_ | refine gsplitD ?_ ?_ | refine gsplitG ?_ ?_) <;> intro h <;> (try simp only [Bool.not_eq_true', Bool.not_eq_false'] at h) <;> replace hb0 := h) | (refine And.intro ?ob ?_; case ob => ((try simp only [sxO, ne_eq, maxLen] at *); omega)) | fail) <;> (try simp (config := { maxSteps := 1000000 }) only [hb0, cE_ment, hasK_nil, cE_kill, cE_len, u32_one, u32_app1, u32_set, Nat.mul_one, hu.one, hv.one, hu.len, hv.len, hu.sl, hv.sl, d1, ↓hold_pre, awayP, runOps, regK, step1, newK, genR, appR, obl, buildR, Value.cells, closeK, keepH, outV, retK, ret1, retC, RetV, Option.getD, runD, stepD, afterK, undef, simprocAttr, sxB, ↓sxD, sxE, sxTab]))
      exact ⟨ad0 M v u, le_sub ⟨rfl, rfl, trivial⟩ trivial rfl rfl rfl (keepLt0 _), v, u, y, x, hv, hu, hy, by omega, by omega, rfl⟩
    · have d1 : decide (((ofN x).length : Int) < ((ofN y).length : Int)) = false := by simp; omega
      (replace hb0 := true_and True); refine Go1.mk ?_; repeat' ((first | (with_reducible refine Go1.go ?_) | ((with_reducible first | refine brv_mk ?_ ?_ | refine gsplitD ?_ ?_ | refine gsplitG ?_ ?_) <;> intro h <;> (try simp only [Bool.not_eq_true', Bool.not_eq_false'] at h) <;> replace hb0 := h) | (refine And.intro ?ob ?_; case ob => ((try simp only [sxO, ne_eq, maxLen] at *); omega)) | fail) <;> (try simp (config := { maxSteps := 1000000 }) only [hb0, cE_ment, hasK_nil, cE_kill, cE_len, u32_one, u32_app1, u32_set, Nat.mul_one, hu.one, hv.one, hu.len, hv.len, hu.sl, hv.sl, d1, ↓hold_pre, awayP, runOps, regK, step1, newK, genR, appR, obl, buildR, Value.cells, closeK, keepH, outV, retK, ret1, retC, RetV, Option.getD, runD, stepD, afterK, undef, simprocAttr, sxB, ↓sxD, sxE, sxTab]))
      exact ⟨ad0 M u v, le_sub ⟨rfl, rfl, trivial⟩ trivial rfl rfl rfl (keepLt0 _), u, v, x, y, hu, hv, hx, by omega, rfl, rfl⟩
  clear hu hv hx hy
  rintro z ⟨u, v, x', y', hu, hv, hx, hyx, hxy, rfl⟩
  rw [← hxy] at hK
  clear hxy x y
  generalize hl : (ofN x').length = la at *
  have w1 : IntKind.i64.wrap ((la : Int) + 1) = ((la + 1 : Nat) : Int) := succ_i (by omega)
  (replace hb0 := true_and True); refine Go1.mk ?_; repeat' ((first | (with_reducible refine Go1.go ?_) | ((with_reducible first | refine brv_mk ?_ ?_ | refine gsplitD ?_ ?_ | refine gsplitG ?_ ?_) <;> intro h <;> (try simp only [Bool.not_eq_true', Bool.not_eq_false'] at h) <;> replace hb0 := h) | (refine And.intro ?ob ?_; case ob => ((try simp only [sxO, ne_eq, maxLen] at *); omega)) | fail) <;> (try simp (config := { maxSteps := 1000000 }) only [hb0, cE_ment, hasK_nil, cE_kill, cE_len, u32_one, u32_app1, u32_set, Nat.mul_one, ad0, hu.one, hv.one, hu.len, hu.sl, hl, w1, ↓hold_pre, awayP, runOps, regK, step1, newK, genR, appR, obl, buildR, Value.cells, closeK, keepH, outV, retK, ret1, retC, RetV, Option.getD, runD, stepD, afterK, undef, simprocAttr, sxB, ↓sxD, sxE, sxTab]))
  refine ⟨fun d z => ∃ i c out, d = la - i ∧ i ≤ la ∧ out.length = i ∧ okN out ∧ c ≤ 1 ∧ valN out + wN out.length * c = valN ((ofN x').take i) + valN ((ofN y').take i) ∧ z = adSt M u v la i c out,
    ⟨la, adSt M u v la 0 0 [], (le_take 20 0 70 _ rfl).trans (le_sub ⟨rfl, rfl, rfl, rfl, rfl, rfl, trivial⟩ ⟨rfl, trivial⟩ rfl rfl rfl (keepLt0 _)), ⟨0, 0, [], rfl, by omega, rfl, by simp [okN], by omega, by simp [valN], rfl⟩⟩, ?_⟩
  rintro d z ⟨i, c, out, rfl, hi, hlo, ho, hc, hval, rfl⟩
  by_cases hlt : i < la
  case neg =>
    obtain rfl : i = la := by omega
    have d1 : decide ((i : Int) < (i : Int)) = false := by simp
    have w2 : IntKind.u32.wrap (c : Int) = (c : Int) := wrap32_id (by omega)
    have hv2 : valN (out ++ [c]) = x' + y' := by
      rw [valN_snoc, hval, take_all (by omega), take_all hyx, valN_ofN, valN_ofN]
    have hlo2 : (out ++ [c]).length = i + 1 := by simp [hlo]
    (replace hb0 := true_and True); refine Go1.mk ?_; repeat' ((first | (with_reducible refine Go1.go ?_) | ((with_reducible first | refine brv_mk ?_ ?_ | refine gsplitD ?_ ?_ | refine gsplitG ?_ ?_) <;> intro h <;> (try simp only [Bool.not_eq_true', Bool.not_eq_false'] at h) <;> replace hb0 := h) | ((with_reducible refine isCall (f := 94) ?_); refine callA ?_) | ((with_reducible refine isCall0 (f := 94) ?_); refine callA0 ?_) | ((with_reducible refine isCallS (f := 94) ?_); refine (trim_ok 20 (i + 1) (out ++ [c]) hlo2 (by omega) (okN_app.2 ⟨ho, okN_one (by omega)⟩) (fun m h1 h2 => ?_))) | (refine And.intro ?ob ?_; case ob => ((try simp only [sxO, ne_eq, maxLen] at *); omega)) | fail) <;> (try simp (config := { maxSteps := 1000000 }) only [hb0, cE_ment, hasK_nil, cE_kill, cE_len, u32_one, u32_app1, u32_set, Nat.mul_one, adSt, hu.one, hv.one, hu.len, hu.sl, hl, d1, w2, hlo, ↓hold_pre, awayP, runOps, regK, step1, newK, genR, appR, obl, buildR, Value.cells, closeK, keepH, outV, retK, ret1, retC, RetV, Option.getD, runD, stepD, afterK, undef, simprocAttr, sxB, ↓sxD, sxE, sxTab]))
    rw [hv2] at h2 ⊢
    (replace hb0 := true_and True); refine Go1.mk ?_; repeat' ((first | (with_reducible refine Go1.go ?_) | ((with_reducible first | refine brv_mk ?_ ?_ | refine gsplitD ?_ ?_ | refine gsplitG ?_ ?_) <;> intro h <;> (try simp only [Bool.not_eq_true', Bool.not_eq_false'] at h) <;> replace hb0 := h) | (refine And.intro ?ob ?_; case ob => ((try simp only [sxO, ne_eq, maxLen] at *); omega)) | fail) <;> (try simp (config := { maxSteps := 1000000 }) only [hb0, cE_ment, hasK_nil, cE_kill, cE_len, u32_one, u32_app1, u32_set, Nat.mul_one, ↓hold_pre, awayP, runOps, regK, step1, newK, genR, appR, obl, buildR, Value.cells, closeK, keepH, outV, retK, ret1, retC, RetV, Option.getD, runD, stepD, afterK, undef, simprocAttr, sxB, ↓sxD, sxE, sxTab]))
    exact hK.frz h2
  have hil : i < (ofN x').length := by omega
  have hxi := hu.idx (P := Tryd.prog) (T := 70) tk70 tz70 (by omega) hil
  rw [hl] at hxi
  have hx0 : (ofN x')[i] < 4294967296 := ofN_ok_at hil
  have w3 : IntKind.u64.wrap (((ofN x')[i] : Nat) : Int) = (((ofN x')[i] : Nat) : Int) := wrap64_id (by omega)
  have w4 : IntKind.u64.wrap ((((ofN x')[i] : Nat) : Int) + (c : Int)) = (((ofN x')[i] + c : Nat) : Int) := by
    rw [← Int.natCast_add, wrap64_id (by omega)]
  have hgx : (ofN x').getD i 0 = (ofN x')[i] := by simp [List.getD, hil]
  have fin : ∀ (r c' : Nat) (s : St), r < 4294967296 → c' ≤ 1 → valN (out ++ [r]) + wN (out.length + 1) * c' = (valN ((ofN x').take i) + wN out.length * (ofN x')[i]) + (valN ((ofN y').take i) + wN out.length * (ofN y').getD i 0) →
      lk s.env 23 = .ext (.int .i64 ((i + 1 : Nat) : Int)) → lk s.env 22 = .ext (.int .i64 (la : Int)) → lk s.env 21 = .ext u → lk s.env 6 = .ext (.int .u64 (c' : Int)) → lk s.env 5 = .slo 20 0 (i + 1) 1 → lk s.env 1 = .ext v → lkH s.hp 20 = some (70, cE u32V (out ++ [r])) → s.M = M → s.kb = 0 → s.fx = [] →
      ∃ m' z, m' < la - i ∧ Le s z ∧ ∃ i c out, m' = la - i ∧ i ≤ la ∧ out.length = i ∧ okN out ∧ c ≤ 1 ∧ valN out + wN out.length * c = valN ((ofN x').take i) + valN ((ofN y').take i) ∧ z = adSt M u v la i c out := fun r c' s hr hc' hst e23 e22 e21 e6 e5 e1 eh eM ek ef =>
    ⟨la - (i + 1), adSt M u v la (i + 1) c' (out ++ [r]), by omega, le_sub ⟨e23, e22, e21, e6, e5, e1, trivial⟩ ⟨eh, trivial⟩ eM.symm ek.symm ef.symm (by rw [ek]; exact keepLt0 _), i + 1, c', out ++ [r], rfl, by omega, by simp [hlo], okN_app.2 ⟨ho, okN_one hr⟩, hc', by
      rw [take_val, take_val, hgx, List.length_append, List.length_singleton, hst, hlo], rfl⟩
  by_cases hy : i < (ofN y').length
  · have hyi := hv.idx (P := Tryd.prog) (T := 70) tk70 tz70 (by omega) hy
    have hy0 : (ofN y')[i] < 4294967296 := ofN_ok_at hy
    have hgy : (ofN y').getD i 0 = (ofN y')[i] := by simp [List.getD, hy]
    have w5 : IntKind.u64.wrap (((ofN y')[i] : Nat) : Int) = (((ofN y')[i] : Nat) : Int) := wrap64_id (by omega)
    have w6 : IntKind.u64.wrap ((((ofN x')[i] + c : Nat) : Int) + (((ofN y')[i] : Nat) : Int)) = (((ofN x')[i] + c + (ofN y')[i] : Nat) : Int) := by
      rw [← Int.natCast_add, wrap64_id (by omega)]
    have w7 := wrap32 ((ofN x')[i] + c + (ofN y')[i])
    have w8 := shr32 ((ofN x')[i] + c + (ofN y')[i])
    (replace hb0 := true_and True); refine Go1.mk ?_; repeat' ((first | (with_reducible refine Go1.go ?_) | ((with_reducible first | refine brv_mk ?_ ?_ | refine gsplitD ?_ ?_ | refine gsplitG ?_ ?_) <;> intro h <;> (try simp only [Bool.not_eq_true', Bool.not_eq_false'] at h) <;> replace hb0 := h) | (refine And.intro ?ob ?_; case ob => ((try simp only [sxO, ne_eq, maxLen] at *); omega)) | fail) <;> (try simp (config := { maxSteps := 1000000 }) only [hb0, cE_ment, hasK_nil, cE_kill, cE_len, u32_one, u32_app1, u32_set, Nat.mul_one, adSt, u32V, hu.one, hv.one, hu.len, hu.sl, hl, hxi, hyi, w3, w4, w5, w6, w7, w8, hlo, ↓hold_pre, awayP, runOps, regK, step1, newK, genR, appR, obl, buildR, Value.cells, closeK, keepH, outV, retK, ret1, retC, RetV, Option.getD, runD, stepD, afterK, undef, simprocAttr, sxB, ↓sxD, sxE, sxTab]))
    exact fin _ _ _ (Nat.mod_lt _ (by decide)) (by omega) (by rw [hgy]; exact add_step hval) rfl rfl rfl rfl rfl rfl rfl rfl rfl rfl
  · have hyl := hv.fin (i := i) (by omega)
    have hgy : (ofN y').getD i 0 = 0 := by simp [List.getD, List.getElem?_eq_none (show (ofN y').length ≤ i by omega)]
    have w7 := wrap32 ((ofN x')[i] + c)
    have w8 := shr32 ((ofN x')[i] + c)
    (replace hb0 := true_and True); refine Go1.mk ?_; repeat' ((first | (with_reducible refine Go1.go ?_) | ((with_reducible first | refine brv_mk ?_ ?_ | refine gsplitD ?_ ?_ | refine gsplitG ?_ ?_) <;> intro h <;> (try simp only [Bool.not_eq_true', Bool.not_eq_false'] at h) <;> replace hb0 := h) | (refine And.intro ?ob ?_; case ob => ((try simp only [sxO, ne_eq, maxLen] at *); omega)) | fail) <;> (try simp (config := { maxSteps := 1000000 }) only [hb0, cE_ment, hasK_nil, cE_kill, cE_len, u32_one, u32_app1, u32_set, Nat.mul_one, adSt, u32V, hu.one, hv.one, hu.len, hu.sl, hl, hxi, hyl, w3, w4, w7, w8, hlo, ↓hold_pre, awayP, runOps, regK, step1, newK, genR, appR, obl, buildR, Value.cells, closeK, keepH, outV, retK, ret1, retC, RetV, Option.getD, runD, stepD, afterK, undef, simprocAttr, sxB, ↓sxD, sxE, sxTab]))
    exact fin _ _ _ (Nat.mod_lt _ (by decide)) (by omega) (by rw [hgy]; exact add_step (y := 0) hval) rfl rfl rfl rfl rfl rfl rfl rfl rfl rfl
def subW (a b : Nat) : Nat := (a + 18446744073709551616 - b) % 18446744073709551616
theorem wrap64_sub {a b : Nat} (hb : b ≤ 18446744073709551616) : IntKind.u64.wrap ((a : Int) - (b : Int)) = ((subW a b : Nat) : Int) := by
  show ((a : Int) - (b : Int)) % 18446744073709551616 = _
  unfold subW
  omega
theorem subW_3 {x y b : Nat} (hx : x < 4294967296) (hy : y < 4294967296) (hb : b ≤ 1) : subW (subW x b) y % 4294967296 + y + b = x + 4294967296 * (subW (subW x b) y / 9223372036854775808) ∧ subW (subW x b) y / 9223372036854775808 ≤ 1 := by
  unfold subW
  omega
def sbSt (M : Mem) (u v : Value) (la i b : Nat) (out : List Nat) : St := { env := [(15, .ext (.int .i64 (i : Int))), (14, .ext (.int .i64 (la : Int))), (13, .ext u), (6, .ext (.int .u64 (b : Int))), (5, .slo 12 0 i 1), (1, .ext v)], hp := [(12, 70, cE u32V out)], M := M, kb := 0, fx := [] }
theorem sub_ok (u v : Value) (x y : Nat) (hu : IsL M u32V u (ofN x)) (hv : IsL M u32V v (ofN y)) (hx : (ofN x).length < 100000000) (hyx : y ≤ x) (hK : NatK M K (x - y)) : CallS Tryd.prog 67 [.ext u, .ext v] [] M [] K := by
  have hlen : (ofN y).length ≤ (ofN x).length := ofN_len_le (by have := valN_lt (okN_ofN x); rw [valN_ofN] at this; omega)
  refine CallS.frzF ?_
  refine inlS (cs := []) Tryd.mixed Tryd.func67 rfl (by kernel_rfl) 0 rfl rfl ?_
  simp only [Tryd.f67]
  generalize hl : (ofN x).length = la at *
  (replace hb0 := true_and True); refine Go1.mk ?_; repeat' ((first | (with_reducible refine Go1.go ?_) | ((with_reducible first | refine brv_mk ?_ ?_ | refine gsplitD ?_ ?_ | refine gsplitG ?_ ?_) <;> intro h <;> (try simp only [Bool.not_eq_true', Bool.not_eq_false'] at h) <;> replace hb0 := h) | (refine And.intro ?ob ?_; case ob => ((try simp only [sxO, ne_eq, maxLen] at *); omega)) | fail) <;> (try simp (config := { maxSteps := 1000000 }) only [hb0, cE_ment, hasK_nil, cE_kill, cE_len, u32_one, u32_app1, u32_set, Nat.mul_one, hu.one, hv.one, hu.len, hu.sl, hl, ↓hold_pre, awayP, runOps, regK, step1, newK, genR, appR, obl, buildR, Value.cells, closeK, keepH, outV, retK, ret1, retC, RetV, Option.getD, runD, stepD, afterK, undef, simprocAttr, sxB, ↓sxD, sxE, sxTab]))
  refine ⟨fun d z => ∃ i c out, d = la - i ∧ i ≤ la ∧ out.length = i ∧ okN out ∧ c ≤ 1 ∧ valN out + valN ((ofN y).take i) = valN ((ofN x).take i) + wN out.length * c ∧ z = sbSt M u v la i c out,
    ⟨la, sbSt M u v la 0 0 [], (le_take 12 0 70 _ rfl).trans (le_sub ⟨rfl, rfl, rfl, rfl, rfl, rfl, trivial⟩ ⟨rfl, trivial⟩ rfl rfl rfl (keepLt0 _)), ⟨0, 0, [], rfl, by omega, rfl, by simp [okN], by omega, by simp [valN], rfl⟩⟩, ?_⟩
  rintro d z ⟨i, c, out, rfl, hi, hlo, ho, hc, hval, rfl⟩
  by_cases hlt : i < la
  case neg =>
    obtain rfl : i = la := by omega
    have d1 : decide ((i : Int) < (i : Int)) = false := by simp
    rw [take_all (l := ofN y) hlen, take_all (l := ofN x) (by omega), valN_ofN, valN_ofN] at hval
    have hv2 := sub_end ho hval hyx
    (replace hb0 := true_and True); refine Go1.mk ?_; repeat' ((first | (with_reducible refine Go1.go ?_) | ((with_reducible first | refine brv_mk ?_ ?_ | refine gsplitD ?_ ?_ | refine gsplitG ?_ ?_) <;> intro h <;> (try simp only [Bool.not_eq_true', Bool.not_eq_false'] at h) <;> replace hb0 := h) | ((with_reducible refine isCall (f := 94) ?_); refine callA ?_) | ((with_reducible refine isCall0 (f := 94) ?_); refine callA0 ?_) | ((with_reducible refine isCallS (f := 94) ?_); refine (trim_ok 12 i out hlo (by omega) ho (fun m h1 h2 => ?_))) | (refine And.intro ?ob ?_; case ob => ((try simp only [sxO, ne_eq, maxLen] at *); omega)) | fail) <;> (try simp (config := { maxSteps := 1000000 }) only [hb0, cE_ment, hasK_nil, cE_kill, cE_len, u32_one, u32_app1, u32_set, Nat.mul_one, sbSt, hu.one, hv.one, hu.len, hu.sl, hl, d1, hlo, ↓hold_pre, awayP, runOps, regK, step1, newK, genR, appR, obl, buildR, Value.cells, closeK, keepH, outV, retK, ret1, retC, RetV, Option.getD, runD, stepD, afterK, undef, simprocAttr, sxB, ↓sxD, sxE, sxTab]))
    rw [hv2] at h2 ⊢
    (replace hb0 := true_and True); refine Go1.mk ?_; repeat' ((first | (with_reducible refine Go1.go ?_) | ((with_reducible first | refine brv_mk ?_ ?_ | refine gsplitD ?_ ?_ | refine gsplitG ?_ ?_) <;> intro h <;> (try simp only [Bool.not_eq_true', Bool.not_eq_false'] at h) <;> replace hb0 := h) | (refine And.intro ?ob ?_; case ob => ((try simp only [sxO, ne_eq, maxLen] at *); omega)) | fail) <;> (try simp (config := { maxSteps := 1000000 }) only [hb0, cE_ment, hasK_nil, cE_kill, cE_len, u32_one, u32_app1, u32_set, Nat.mul_one, ↓hold_pre, awayP, runOps, regK, step1, newK, genR, appR, obl, buildR, Value.cells, closeK, keepH, outV, retK, ret1, retC, RetV, Option.getD, runD, stepD, afterK, undef, simprocAttr, sxB, ↓sxD, sxE, sxTab]))
    exact hK.frz h2
  have hil : i < (ofN x).length := by omega
  have hxi := hu.idx (P := Tryd.prog) (T := 70) tk70 tz70 (by omega) hil
  rw [hl] at hxi
  have hx0 : (ofN x)[i] < 4294967296 := ofN_ok_at hil
  have w3 : IntKind.u64.wrap (((ofN x)[i] : Nat) : Int) = (((ofN x)[i] : Nat) : Int) := wrap64_id (by omega)
  have w4 : IntKind.u64.wrap ((((ofN x)[i] : Nat) : Int) - (c : Int)) = ((subW (ofN x)[i] c : Nat) : Int) := wrap64_sub (by omega)
  have hgx : (ofN x).getD i 0 = (ofN x)[i] := by simp [List.getD, hil]
  by_cases hy : i < (ofN y).length
  · have hyi := hv.idx (P := Tryd.prog) (T := 70) tk70 tz70 (by omega) hy
    have hy0 : (ofN y)[i] < 4294967296 := ofN_ok_at hy
    have hgy : (ofN y).getD i 0 = (ofN y)[i] := by simp [List.getD, hy]
    have w5 : IntKind.u64.wrap (((ofN y)[i] : Nat) : Int) = (((ofN y)[i] : Nat) : Int) := wrap64_id (by omega)
    have w6 : IntKind.u64.wrap (((subW (ofN x)[i] c : Nat) : Int) - (((ofN y)[i] : Nat) : Int)) = ((subW (subW (ofN x)[i] c) (ofN y)[i] : Nat) : Int) := wrap64_sub (by omega)
    have w7 := wrap32 (subW (subW (ofN x)[i] c) (ofN y)[i])
    have w8 := shr63 (subW (subW (ofN x)[i] c) (ofN y)[i])
    obtain ⟨s1, s2⟩ := subW_3 hx0 hy0 hc
    (replace hb0 := true_and True); refine Go1.mk ?_; repeat' ((first | (with_reducible refine Go1.go ?_) | ((with_reducible first | refine brv_mk ?_ ?_ | refine gsplitD ?_ ?_ | refine gsplitG ?_ ?_) <;> intro h <;> (try simp only [Bool.not_eq_true', Bool.not_eq_false'] at h) <;> replace hb0 := h) | (refine And.intro ?ob ?_; case ob => ((try simp only [sxO, ne_eq, maxLen] at *); omega)) | fail) <;> (try simp (config := { maxSteps := 1000000 }) only [hb0, cE_ment, hasK_nil, cE_kill, cE_len, u32_one, u32_app1, u32_set, Nat.mul_one, sbSt, u32V, hu.one, hv.one, hu.len, hu.sl, hl, hxi, hyi, w3, w4, w5, w6, w7, w8, hlo, ↓hold_pre, awayP, runOps, regK, step1, newK, genR, appR, obl, buildR, Value.cells, closeK, keepH, outV, retK, ret1, retC, RetV, Option.getD, runD, stepD, afterK, undef, simprocAttr, sxB, ↓sxD, sxE, sxTab]))
    exact ⟨la - (i + 1), sbSt M u v la (i + 1) _ (out ++ [_]), by omega, le_sub ⟨rfl, rfl, rfl, rfl, rfl, rfl, trivial⟩ ⟨rfl, trivial⟩ rfl rfl rfl (keepLt0 _), i + 1, _, _, rfl, by omega, by simp [hlo], okN_mod _ _ ho, s2, by
      have st := sub_step hval s1
      rw [hlo] at st
      rw [take_val, take_val, hgx, hgy, List.length_append, List.length_singleton, hlo]; exact st, rfl⟩
  · have hyl := hv.fin (i := i) (by omega)
    have hgy : (ofN y).getD i 0 = 0 := by simp [List.getD, List.getElem?_eq_none (show (ofN y).length ≤ i by omega)]
    have w7 := wrap32 (subW (ofN x)[i] c)
    have w8 := shr63 (subW (ofN x)[i] c)
    obtain ⟨s1, s2⟩ := subW_3 hx0 (show 0 < 4294967296 by decide) hc
    have s0 : subW (subW (ofN x)[i] c) 0 = subW (ofN x)[i] c := by unfold subW; omega
    rw [s0] at s1 s2
    (replace hb0 := true_and True); refine Go1.mk ?_; repeat' ((first | (with_reducible refine Go1.go ?_) | ((with_reducible first | refine brv_mk ?_ ?_ | refine gsplitD ?_ ?_ | refine gsplitG ?_ ?_) <;> intro h <;> (try simp only [Bool.not_eq_true', Bool.not_eq_false'] at h) <;> replace hb0 := h) | (refine And.intro ?ob ?_; case ob => ((try simp only [sxO, ne_eq, maxLen] at *); omega)) | fail) <;> (try simp (config := { maxSteps := 1000000 }) only [hb0, cE_ment, hasK_nil, cE_kill, cE_len, u32_one, u32_app1, u32_set, Nat.mul_one, sbSt, u32V, hu.one, hv.one, hu.len, hu.sl, hl, hxi, hyl, w3, w4, w7, w8, hlo, ↓hold_pre, awayP, runOps, regK, step1, newK, genR, appR, obl, buildR, Value.cells, closeK, keepH, outV, retK, ret1, retC, RetV, Option.getD, runD, stepD, afterK, undef, simprocAttr, sxB, ↓sxD, sxE, sxTab]))
    exact ⟨la - (i + 1), sbSt M u v la (i + 1) _ (out ++ [_]), by omega, le_sub ⟨rfl, rfl, rfl, rfl, rfl, rfl, trivial⟩ ⟨rfl, trivial⟩ rfl rfl rfl (keepLt0 _), i + 1, _, _, rfl, by omega, by simp [hlo], okN_mod _ _ ho, s2, by
      have st := sub_step hval s1
      rw [hlo] at st
      rw [take_val, take_val, hgx, hgy, List.length_append, List.length_singleton, hlo]; exact st, rfl⟩
end
end Go.Proofs.YtamghpnjdohnjaaDoor.Sx
namespace Go.Proofs.YtamghpnjdohnjaaDoor.Sx
open Go Go.RowKit
set_option linter.unusedVariables false
set_option linter.unusedSimpArgs false
set_option maxRecDepth 100000
set_option maxHeartbeats 8000000
attribute [local congr] fin_congr finG_congr stepG_congr step1_congr runOps_congr brv_congr obl_congr condK_congr LoopK_congr seqK_congr CutK_congr vc_congr DrawK_congr regK_congr CallK_congr AskK_congr newK_congr retC_congr ret1_congr retK_congr outV_congr closeK_congr genR_congr appR_congr finD_congr finGD_congr stepGD_congr stepD_congr CallK0_congr runD_congr okR_congr CallS_congr vcX_congr
attribute [local congr] Stop_congr
theorem isSl_cells {u : Value} (h : isSl u = true) : u.cells.toList = [u] := by cases u <;> first | rfl | cases h
section
variable {M : Mem} {K : AV → Hp → Mem → Prop}
def meH (v : Value) (n : Nat) (out : List Nat) : Hp := [(14, 70, cE u32V out), (5, 22, [.slo 14 0 n 1]), (3, 22, [.ext v])]
def meSt (M : Mem) (v : Value) (i x lb k c : Nat) (n : Nat) (out : List Nat) : St := { env := [(12, .ext (.int .i64 (k : Int))), (11, .ext (.int .i64 (lb : Int))), (10, .ext v), (6, .ext (.int .u64 (c : Int))), (0, .ext (.int .i64 (i : Int))), (1, .ext (.int .u32 (x : Int))), (2, .own 3 0), (3, .own 5 0)], hp := meH v n out, M := M, kb := 100, fx := [14, 5, 3] }
theorem each_ok (v : Value) (i x n : Nat) (b out : List Nat) (hv : IsL M u32V v b) (hb : okN b) (hx : x < 4294967296) (hn : out.length = n) (hin : i + b.length < n) (hn2 : n < 1000000000) (ho : okN out) (hz : out[i + b.length]'(by omega) = 0)
    (hK : ∀ out', out'.length = n → okN out' → valN out' = valN out + wN i * (x * valN b) → (∀ j (h : j < out'.length) (h2 : j < out.length), i + b.length < j → out'[j] = out[j]) → K (.ext (.tuple #[])) (meH v n out') M) :
    CallS Tryd.prog 95 [.ext (.int .i64 (i : Int)), .ext (.int .u32 (x : Int)), .own 3 0, .own 5 0] (meH v n out) M [] K := by
  refine inlS (cs := []) (f := 95) Tryd.mixed Tryd.func95 rfl (by kernel_rfl) 100 rfl rfl ?_
  simp only [Tryd.f95]
  have e0 : keysH (meH v n out) = [14, 5, 3] := rfl
  (replace hb0 := true_and True); refine Go1.mk ?_; repeat' ((first | (with_reducible refine Go1.go ?_) | ((with_reducible first | refine brv_mk ?_ ?_ | refine gsplitD ?_ ?_ | refine gsplitG ?_ ?_) <;> intro h <;> (try simp only [Bool.not_eq_true', Bool.not_eq_false'] at h) <;> replace hb0 := h) | (refine And.intro ?ob ?_; case ob => ((try simp only [sxO, ne_eq, maxLen] at *); omega)) | fail) <;> (try simp (config := { maxSteps := 1000000 }) only [hb0, cE_ment, hasK_nil, cE_kill, cE_len, u32_one, u32_app1, u32_set, Nat.mul_one, e0, meH, hv.one, hv.len, hv.sl, ↓hold_pre, awayP, runOps, regK, step1, newK, genR, appR, obl, buildR, Value.cells, closeK, keepH, outV, retK, ret1, retC, RetV, Option.getD, runD, stepD, afterK, undef, simprocAttr, sxB, ↓sxD, sxE, sxTab]))
  refine ⟨fun d z => ∃ k c o, d = b.length - k ∧ k ≤ b.length ∧ o.length = n ∧ okN o ∧ c < 4294967296 ∧ valN o + wN (i + k) * c = valN out + wN i * (x * valN (b.take k)) ∧ (∀ j (h : j < o.length) (h2 : j < out.length), i + k ≤ j → o[j] = out[j]) ∧ z = meSt M v i x b.length k c n o,
    ⟨b.length, meSt M v i x b.length 0 0 n out, le_sub ⟨rfl, rfl, rfl, rfl, rfl, rfl, rfl, rfl, trivial⟩ ⟨rfl, rfl, rfl, trivial⟩ rfl rfl rfl (by simp [keepLt, meSt, meH, lkH]), ⟨0, 0, out, rfl, by omega, hn, ho, by omega, by simp [valN], fun j h h2 _ => rfl, rfl⟩⟩, ?_⟩
  rintro d z ⟨k, c, o, rfl, hk, hlo, hoo, hc, hval, hrest, rfl⟩
  have w1 : IntKind.i64.wrap ((i : Int) + (k : Int)) = ((i + k : Nat) : Int) := by rw [wrap_id (by omega) (by omega)]; omega
  by_cases hlt : k < b.length
  case neg =>
    obtain rfl : k = b.length := by omega
    have d1 : decide ((b.length : Int) < (b.length : Int)) = false := by simp
    have d2 : (0 : Int) ≤ ((i + b.length : Nat) : Int) := by omega
    have d3 : ((i + b.length : Nat) : Int) < (n : Int) := by omega
    have d4 : (i + b.length < n) = True := by simp; omega
    have w2 : IntKind.u32.wrap (c : Int) = (c : Int) := wrap32_id hc
    (replace hb0 := true_and True); refine Go1.mk ?_; repeat' ((first | (with_reducible refine Go1.go ?_) | ((with_reducible first | refine brv_mk ?_ ?_ | refine gsplitD ?_ ?_ | refine gsplitG ?_ ?_) <;> intro h <;> (try simp only [Bool.not_eq_true', Bool.not_eq_false'] at h) <;> replace hb0 := h) | (refine And.intro ?ob ?_; case ob => ((try simp only [sxO, ne_eq, maxLen] at *); omega)) | fail) <;> (try simp (config := { maxSteps := 1000000 }) only [hb0, cE_ment, hasK_nil, cE_kill, cE_len, u32_one, u32_app1, u32_set, Nat.mul_one, meSt, meH, hv.one, hv.len, hv.sl, d1, d2, d3, d4, w1, w2, hlo, ↓hold_pre, awayP, runOps, regK, step1, newK, genR, appR, obl, buildR, Value.cells, closeK, keepH, outV, retK, ret1, retC, RetV, Option.getD, runD, stepD, afterK, undef, simprocAttr, sxB, ↓sxD, sxE, sxTab]))
    refine hK (o.set (i + b.length) c) (by simp [hlo]) (okN_set hoo hc) ?_ ?_
    · have h1 := valN_set (l := o) (i := i + b.length) (v := c) (by omega)
      rw [hrest (i + b.length) (by omega) (by omega) (Nat.le_refl _), hz, hval, take_all (Nat.le_refl _)] at h1
      simpa using h1
    · intro j h h2 hj
      rw [List.getElem_set_ne (by omega)]
      exact hrest j (by simpa using h) h2 (by omega)
  have hyi := hv.idx (P := Tryd.prog) (T := 70) tk70 tz70 (by omega) hlt
  have hy : b[k] < 4294967296 := okN_at hb hlt
  have hik : i + k < o.length := by omega
  have ho0 : o[i + k] < 4294967296 := okN_at hoo hik
  have hat := u32_at hik
  have hst := mul_step (x := x) (y := b[k]) hik hval
  have hlt2 := mul_lt hx hy ho0 hc
  have hgy : b.getD k 0 = b[k] := by simp [List.getD, hlt]
  generalize b[k] = y at *
  generalize hz0 : o[i + k] = z0 at *
  have hxy := mul_le hx hy
  have d2 : (0 : Int) ≤ ((i + k : Nat) : Int) := by omega
  have d3 : ((i + k : Nat) : Int) < (n : Int) := by omega
  have d4 : (i + k < n) = True := by simp; omega
  have w2 : IntKind.u64.wrap (x : Int) = (x : Int) := wrap64_id (by omega)
  have w3 : IntKind.u64.wrap (y : Int) = (y : Int) := wrap64_id (by omega)
  have w4 : IntKind.u64.wrap ((x : Int) * (y : Int)) = ((x * y : Nat) : Int) := by rw [← Int.natCast_mul, wrap64_id (by omega)]
  have w5 : IntKind.u64.wrap (z0 : Int) = (z0 : Int) := wrap64_id (by omega)
  have w6 : IntKind.u64.wrap (((x * y : Nat) : Int) + (z0 : Int)) = ((x * y + z0 : Nat) : Int) := by rw [← Int.natCast_add, wrap64_id (by omega)]
  have w7 : IntKind.u64.wrap (((x * y + z0 : Nat) : Int) + (c : Int)) = ((x * y + z0 + c : Nat) : Int) := by rw [← Int.natCast_add, wrap64_id (by omega)]
  have w8 := wrap32 (x * y + z0 + c)
  have w9 := shr32 (x * y + z0 + c)
  (replace hb0 := true_and True); refine Go1.mk ?_; repeat' ((first | (with_reducible refine Go1.go ?_) | ((with_reducible first | refine brv_mk ?_ ?_ | refine gsplitD ?_ ?_ | refine gsplitG ?_ ?_) <;> intro h <;> (try simp only [Bool.not_eq_true', Bool.not_eq_false'] at h) <;> replace hb0 := h) | (refine And.intro ?ob ?_; case ob => ((try simp only [sxO, ne_eq, maxLen] at *); omega)) | fail) <;> (try simp (config := { maxSteps := 1000000 }) only [hb0, cE_ment, hasK_nil, cE_kill, cE_len, u32_one, u32_app1, u32_set, Nat.mul_one, meSt, meH, u32V, hv.one, hv.len, hv.sl, hyi, hat, d2, d3, d4, w1, w2, w3, w4, w5, w6, w7, w8, w9, hlo, ↓hold_pre, awayP, runOps, regK, step1, newK, genR, appR, obl, buildR, Value.cells, closeK, keepH, outV, retK, ret1, retC, RetV, Option.getD, runD, stepD, afterK, undef, simprocAttr, sxB, ↓sxD, sxE, sxTab]))
  exact ⟨b.length - (k + 1), meSt M v i x b.length (k + 1) _ n _, by omega, le_sub ⟨rfl, rfl, rfl, rfl, rfl, rfl, rfl, rfl, trivial⟩ ⟨rfl, rfl, rfl, trivial⟩ rfl rfl rfl (by simp [keepLt, meSt, meH, lkH]), k + 1, _, _, rfl, by omega, by rw [List.length_set]; exact hlo, okN_set hoo (Nat.mod_lt _ (by decide)), by omega, by
    rw [take_val, hgy]; exact hst, fun j h h2 hj => by
      rw [List.getElem_set_ne (by omega)]
      exact hrest j (by simpa using h) h2 (by omega), rfl⟩
def mlSt (M : Mem) (u v : Value) (la n i : Nat) (out : List Nat) : St := { env := [(18, .ext (.int .i64 (i : Int))), (17, .ext (.int .i64 (la : Int))), (16, .ext u), (6, .fn 95 [.own 3 0, .own 5 0]), (5, .own 5 0)], hp := meH v n out, M := M, kb := 0, fx := [] }
theorem mul_ok (u v : Value) (x y : Nat) (hu : IsL M u32V u (ofN x)) (hv : IsL M u32V v (ofN y)) (hx : (ofN x).length < 100000000) (hy : (ofN y).length < 100000000) (hK : NatK M K (x * y)) : CallS Tryd.prog 64 [.ext u, .ext v] [] M [] K := by
  refine CallS.frzF ?_
  refine inlS (cs := []) Tryd.mixed Tryd.func64 rfl (by kernel_rfl) 0 rfl rfl ?_
  simp only [Tryd.f64]
  generalize hl : (ofN x).length = la at *
  generalize hm : (ofN y).length = lb at *
  have w1 : IntKind.i64.wrap ((la : Int) + (lb : Int)) = ((la + lb : Nat) : Int) := by rw [wrap_id (by omega) (by omega)]; omega
  have hvc := isSl_cells hv.sl
  (replace hb0 := true_and True); refine Go1.mk ?_; repeat' ((first | (with_reducible refine Go1.go ?_) | ((with_reducible first | refine brv_mk ?_ ?_ | refine gsplitD ?_ ?_ | refine gsplitG ?_ ?_) <;> intro h <;> (try simp only [Bool.not_eq_true', Bool.not_eq_false'] at h) <;> replace hb0 := h) | (refine And.intro ?ob ?_; case ob => ((try simp only [sxO, ne_eq, maxLen] at *); omega)) | fail) <;> (try simp (config := { maxSteps := 1000000 }) only [hb0, cE_ment, hasK_nil, cE_kill, cE_len, u32_one, u32_app1, u32_set, Nat.mul_one, hvc, hu.one, hv.one, hu.len, hu.sl, hl, hv.len, hv.sl, hm, w1, ↓hold_pre, awayP, runOps, regK, step1, newK, genR, appR, obl, buildR, closeK, keepH, outV, retK, ret1, retC, RetV, Option.getD, runD, stepD, afterK, undef, simprocAttr, sxB, ↓sxD, sxE, sxTab]))
  have hz0 : List.map AV.ext (repN [Value.int .u32 0] (la + lb)) = cE u32V (List.replicate (la + lb) 0) := cE_rep u32V (la + lb) 0
  refine ⟨fun d z => ∃ i out, d = la - i ∧ i ≤ la ∧ out.length = la + lb ∧ okN out ∧ valN out = valN ((ofN x).take i) * y ∧ (∀ j (h : j < out.length), i + lb ≤ j → out[j] = 0) ∧ z = mlSt M u v la (la + lb) i out,
    ⟨la, mlSt M u v la (la + lb) 0 (List.replicate (la + lb) 0), le_sub ⟨rfl, rfl, rfl, rfl, rfl, trivial⟩ (by simp [subHp, mlSt, meH, lkH, hz0]) rfl rfl rfl (keepLt0 _), ⟨0, _, rfl, by omega, by simp, okN_rep _, by rw [valN_rep]; simp [valN], fun j h _ => by simp, rfl⟩⟩, ?_⟩
  rintro d z ⟨i, out, rfl, hi, hlo, ho, hval, hzz, rfl⟩
  by_cases hlt : i < la
  case neg =>
    obtain rfl : i = la := by omega
    have d1 : decide ((i : Int) < (i : Int)) = false := by simp
    have d2 : (i + lb ≤ out.length) = True := by simp; omega
    rw [take_all (by omega), valN_ofN] at hval
    (replace hb0 := true_and True); refine Go1.mk ?_; repeat' ((first | (with_reducible refine Go1.go ?_) | ((with_reducible first | refine brv_mk ?_ ?_ | refine gsplitD ?_ ?_ | refine gsplitG ?_ ?_) <;> intro h <;> (try simp only [Bool.not_eq_true', Bool.not_eq_false'] at h) <;> replace hb0 := h) | ((with_reducible refine isCall (f := 94) ?_); refine callA ?_) | ((with_reducible refine isCall0 (f := 94) ?_); refine callA0 ?_) | ((with_reducible refine isCallS (f := 94) ?_); refine (trim_ok 14 (i + lb) out hlo (by omega) ho (fun m h1 h2 => ?_))) | (refine And.intro ?ob ?_; case ob => ((try simp only [sxO, ne_eq, maxLen] at *); omega)) | fail) <;> (try simp (config := { maxSteps := 1000000 }) only [hb0, cE_ment, hasK_nil, cE_kill, cE_len, u32_one, u32_app1, u32_set, Nat.mul_one, mlSt, meH, hu.one, hv.one, hu.len, hu.sl, hl, d1, d2, hlo, ↓hold_pre, awayP, runOps, regK, step1, newK, genR, appR, obl, buildR, Value.cells, closeK, keepH, outV, retK, ret1, retC, RetV, Option.getD, runD, stepD, afterK, undef, simprocAttr, sxB, ↓sxD, sxE, sxTab]))
    rw [hval] at h2 ⊢
    (replace hb0 := true_and True); refine Go1.mk ?_; repeat' ((first | (with_reducible refine Go1.go ?_) | ((with_reducible first | refine brv_mk ?_ ?_ | refine gsplitD ?_ ?_ | refine gsplitG ?_ ?_) <;> intro h <;> (try simp only [Bool.not_eq_true', Bool.not_eq_false'] at h) <;> replace hb0 := h) | (refine And.intro ?ob ?_; case ob => ((try simp only [sxO, ne_eq, maxLen] at *); omega)) | fail) <;> (try simp (config := { maxSteps := 1000000 }) only [hb0, cE_ment, hasK_nil, cE_kill, cE_len, u32_one, u32_app1, u32_set, Nat.mul_one, ↓hold_pre, awayP, runOps, regK, step1, newK, genR, appR, obl, buildR, Value.cells, closeK, keepH, outV, retK, ret1, retC, RetV, Option.getD, runD, stepD, afterK, undef, simprocAttr, sxB, ↓sxD, sxE, sxTab]))
    exact hK.frz h2
  have hil : i < (ofN x).length := by omega
  have hxi := hu.idx (P := Tryd.prog) (T := 70) tk70 tz70 (by omega) hil
  rw [hl] at hxi
  have hx0 : (ofN x)[i] < 4294967296 := ofN_ok_at hil
  have hgx : (ofN x).getD i 0 = (ofN x)[i] := by simp [List.getD, hil]
  generalize (ofN x)[i] = a at *
  (replace hb0 := true_and True); refine Go1.mk ?_; repeat' ((first | (with_reducible refine Go1.go ?_) | ((with_reducible first | refine brv_mk ?_ ?_ | refine gsplitD ?_ ?_ | refine gsplitG ?_ ?_) <;> intro h <;> (try simp only [Bool.not_eq_true', Bool.not_eq_false'] at h) <;> replace hb0 := h) | ((with_reducible refine isCall (f := 95) ?_); refine callA ?_) | ((with_reducible refine isCall0 (f := 95) ?_); refine callA0 ?_) | ((with_reducible refine isCallS (f := 95) ?_); refine (each_ok v i a (la + lb) (ofN y) out hv (okN_ofN y) hx0 hlo (by omega) (by omega) ho (hzz _ _ (by omega)) (fun o' h1 h2 h3 h4 => ?_))) | (refine And.intro ?ob ?_; case ob => ((try simp only [sxO, ne_eq, maxLen] at *); omega)) | fail) <;> (try simp (config := { maxSteps := 1000000 }) only [hb0, cE_ment, hasK_nil, cE_kill, cE_len, u32_one, u32_app1, u32_set, Nat.mul_one, mlSt, meH, u32V, hu.one, hv.one, hu.len, hu.sl, hl, hxi, hlo, ↓hold_pre, awayP, runOps, regK, step1, newK, genR, appR, obl, buildR, Value.cells, closeK, keepH, outV, retK, ret1, retC, RetV, Option.getD, runD, stepD, afterK, undef, simprocAttr, sxB, ↓sxD, sxE, sxTab]))
  (replace hb0 := true_and True); refine Go1.mk ?_; repeat' ((first | (with_reducible refine Go1.go ?_) | ((with_reducible first | refine brv_mk ?_ ?_ | refine gsplitD ?_ ?_ | refine gsplitG ?_ ?_) <;> intro h <;> (try simp only [Bool.not_eq_true', Bool.not_eq_false'] at h) <;> replace hb0 := h) | (refine And.intro ?ob ?_; case ob => ((try simp only [sxO, ne_eq, maxLen] at *); omega)) | fail) <;> (try simp (config := { maxSteps := 1000000 }) only [hb0, cE_ment, hasK_nil, cE_kill, cE_len, u32_one, u32_app1, u32_set, Nat.mul_one, mlSt, meH, u32V, hu.one, hv.one, hu.len, hu.sl, hl, hxi, hlo, ↓hold_pre, awayP, runOps, regK, step1, newK, genR, appR, obl, buildR, Value.cells, closeK, keepH, outV, retK, ret1, retC, RetV, Option.getD, runD, stepD, afterK, undef, simprocAttr, sxB, ↓sxD, sxE, sxTab]))
  exact ⟨la - (i + 1), mlSt M u v la (la + lb) (i + 1) o', by omega, le_sub ⟨rfl, rfl, rfl, rfl, rfl, trivial⟩ ⟨rfl, rfl, rfl, trivial⟩ rfl rfl rfl (keepLt0 _), i + 1, o', rfl, by omega, h1, h2, by
    rw [h3, hval, take_val, hgx, valN_ofN, Nat.add_mul, Nat.mul_assoc], fun j h hj => by
    rw [h4 j h (by omega) (by omega)]; exact hzz j (by omega) (by omega), rfl⟩
end
end Go.Proofs.YtamghpnjdohnjaaDoor.Sx
namespace Go.Proofs.YtamghpnjdohnjaaDoor.Sx
open Go Go.RowKit
set_option linter.unusedVariables false
set_option linter.unusedSimpArgs false
set_option maxRecDepth 100000
set_option maxHeartbeats 8000000
attribute [local congr] fin_congr finG_congr stepG_congr step1_congr runOps_congr brv_congr obl_congr condK_congr LoopK_congr seqK_congr CutK_congr vc_congr DrawK_congr regK_congr CallK_congr AskK_congr newK_congr retC_congr ret1_congr retK_congr outV_congr closeK_congr genR_congr appR_congr finD_congr finGD_congr stepGD_congr stepD_congr CallK0_congr runD_congr okR_congr CallS_congr vcX_congr
attribute [local congr] Stop_congr
theorem drop_set_self {l : List Nat} {i v : Nat} (h : i < l.length) : valN ((l.set i v).drop i) = v + 4294967296 * valN (l.drop (i + 1)) := by
  rw [valN_drop (by simpa using h), List.getElem_set_self, List.drop_set_of_lt (by omega)]
theorem take_set_self {l : List Nat} {i v : Nat} (h : i < l.length) : (l.set i v).take (i + 1) = l.take i ++ [v] := by
  rw [List.take_succ_eq_append_getElem (by simpa using h), List.getElem_set_self, List.take_set_of_le (by omega)]
theorem quo64 {s d : Nat} (hs : s < 18446744073709551616) : IntKind.u64.wrap ((s : Int).tdiv (d : Int)) = ((s / d : Nat) : Int) := by
  rw [← Int.ofNat_tdiv, wrap64_id (Nat.lt_of_le_of_lt (Nat.div_le_self s d) hs)]
theorem rem64 (s d : Nat) : (s : Int).tmod (d : Int) = ((s % d : Nat) : Int) := (Int.ofNat_tmod s d).symm
theorem shlN {a n : Nat} (ha : a < 4294967296) (hn : n < 32) : IntKind.u64.wrap ((a : Int) * 2 ^ (min n IntKind.u64.bits)) = ((a * 2 ^ n : Nat) : Int) := by
  have h1 : min n IntKind.u64.bits = n := by have : IntKind.u64.bits = 64 := rfl; omega
  have h2 : a * 2 ^ n ≤ a * 2 ^ 31 := Nat.mul_le_mul_left a (Nat.pow_le_pow_right (by decide) (by omega))
  rw [h1, show ((a : Int) * 2 ^ n) = ((a * 2 ^ n : Nat) : Int) by simp, wrap64_id (by omega)]
theorem shrN (a : Nat) {n : Nat} (hn : n < 32) : (a : Int).fdiv (2 ^ (min n IntKind.u64.bits)) = ((a / 2 ^ n : Nat) : Int) := by
  have h1 : min n IntKind.u64.bits = n := by have : IntKind.u64.bits = 64 := rfl; omega
  rw [h1, Int.fdiv_eq_ediv_of_nonneg _ (Int.pow_nonneg (by decide))]
  simp
theorem orN {a b n : Nat} (ha : a < 4294967296) (hn : n < 32) (hb : b < 2 ^ n) : bits .or .u64 ((a * 2 ^ n : Nat) : Int) (b : Int) = ((a * 2 ^ n + b : Nat) : Int) := by
  have h2 : a * 2 ^ n ≤ a * 2 ^ 31 := Nat.mul_le_mul_left a (Nat.pow_le_pow_right (by decide) (by omega))
  have h3 : 2 ^ n ≤ 2 ^ 31 := Nat.pow_le_pow_right (by decide) (by omega)
  rw [bits64_or (by omega) (by omega), or_add hb]
section
variable {M : Mem} {K : AV → Hp → Mem → Prop}
def smSt (M : Mem) (u : Value) (d : Nat) (la j r : Nat) (out : List Nat) : St := { env := [(8, .ext (.int .i64 ((j : Int) - 1))), (7, .ext (.int .u64 (r : Int))), (6, .slo 12 0 la 1), (0, .ext u), (1, .ext (.int .u32 (d : Int)))], hp := [(12, 70, cE u32V out)], M := M, kb := 0, fx := [] }
theorem small_ok (u : Value) (x d : Nat) (hu : IsL M u32V u (ofN x)) (hx : (ofN x).length < 100000000) (hd : 0 < d) (hd2 : d < 4294967296)
    (hK : ∀ w M', Mem.le M M' → IsL M' u32V w (ofN (x / d)) → FreshS M w → K (.ext (.tuple #[w, .int .u32 ((x % d : Nat) : Int)])) [] M') : CallS Tryd.prog 98 [.ext u, .ext (.int .u32 (d : Int))] [] M [] K := by
  refine CallS.frzF ?_
  refine inlS (cs := []) Tryd.mixed Tryd.func98 rfl (by kernel_rfl) 0 rfl rfl ?_
  simp only [Tryd.f98]
  generalize hl : (ofN x).length = la at *
  have w1 : IntKind.i64.wrap ((la : Int) - 1) = (la : Int) - 1 := wrap_id (by omega) (by omega)
  (replace hb0 := true_and True); refine Go1.mk ?_; repeat' ((first | (with_reducible refine Go1.go ?_) | ((with_reducible first | refine brv_mk ?_ ?_ | refine gsplitD ?_ ?_ | refine gsplitG ?_ ?_) <;> intro h <;> (try simp only [Bool.not_eq_true', Bool.not_eq_false'] at h) <;> replace hb0 := h) | (refine And.intro ?ob ?_; case ob => ((try simp only [sxO, ne_eq, maxLen] at *); omega)) | fail) <;> (try simp (config := { maxSteps := 1000000 }) only [hb0, cE_ment, hasK_nil, cE_kill, cE_len, u32_one, u32_app1, u32_set, Nat.mul_one, hu.one, hu.len, hu.sl, hl, w1, ↓hold_pre, awayP, runOps, regK, step1, newK, genR, appR, obl, buildR, Value.cells, closeK, keepH, outV, retK, ret1, retC, RetV, Option.getD, runD, stepD, afterK, undef, simprocAttr, sxB, ↓sxD, sxE, sxTab]))
  have hz0 : List.map AV.ext (repN [Value.int .u32 0] la) = cE u32V (List.replicate la 0) := cE_rep u32V la 0
  refine ⟨fun m z => ∃ j r out, j = m ∧ j ≤ la ∧ out.length = la ∧ okN out ∧ r < d ∧ valN ((ofN x).drop j) = d * valN (out.drop j) + r ∧ z = smSt M u d la j r out,
    ⟨la, smSt M u d la la 0 (List.replicate la 0), le_sub ⟨rfl, rfl, rfl, rfl, rfl, trivial⟩ (by simp [subHp, smSt, lkH, hz0]) rfl rfl rfl (keepLt0 _), ⟨la, 0, _, rfl, by omega, by simp, okN_rep _, hd, by rw [List.drop_of_length_le (by omega), List.drop_of_length_le (by simp)]; simp [valN], rfl⟩⟩, ?_⟩
  rintro m z ⟨j, r, out, rfl, hj, hlo, ho, hr, hval, rfl⟩
  have w2 : IntKind.u32.wrap (r : Int) = (r : Int) := wrap32_id (by omega)
  by_cases hlt : 0 < j
  case neg =>
    obtain rfl : j = 0 := by omega
    have d1 : decide ((0 : Int) ≤ ((0 : Nat) : Int) - 1) = false := by simp
    rw [List.drop_zero, List.drop_zero, valN_ofN] at hval
    have e1 : valN out = x / d := by
      rw [hval, Nat.mul_add_div hd, Nat.div_eq_of_lt hr, Nat.add_zero]
    have e2 : x % d = r := by rw [hval, Nat.mul_add_mod, Nat.mod_eq_of_lt hr]
    rw [e2] at hK
    (replace hb0 := true_and True); refine Go1.mk ?_; repeat' ((first | (with_reducible refine Go1.go ?_) | ((with_reducible first | refine brv_mk ?_ ?_ | refine gsplitD ?_ ?_ | refine gsplitG ?_ ?_) <;> intro h <;> (try simp only [Bool.not_eq_true', Bool.not_eq_false'] at h) <;> replace hb0 := h) | ((with_reducible refine isCall (f := 94) ?_); refine callA ?_) | ((with_reducible refine isCall0 (f := 94) ?_); refine callA0 ?_) | ((with_reducible refine isCallS (f := 94) ?_); refine (trim_ok 12 la out hlo (by omega) ho (fun m h1 h2 => ?_))) | (refine And.intro ?ob ?_; case ob => ((try simp only [sxO, ne_eq, maxLen] at *); omega)) | fail) <;> (try simp (config := { maxSteps := 1000000 }) only [hb0, cE_ment, hasK_nil, cE_kill, cE_len, u32_one, u32_app1, u32_set, Nat.mul_one, smSt, hu.one, hu.len, hu.sl, hl, d1, w2, hlo, ↓hold_pre, awayP, runOps, regK, step1, newK, genR, appR, obl, buildR, Value.cells, closeK, keepH, outV, retK, ret1, retC, RetV, Option.getD, runD, stepD, afterK, undef, simprocAttr, sxB, ↓sxD, sxE, sxTab]))
    rw [e1] at h2 ⊢
    (replace hb0 := true_and True); refine Go1.mk ?_; repeat' ((first | (with_reducible refine Go1.go ?_) | ((with_reducible first | refine brv_mk ?_ ?_ | refine gsplitD ?_ ?_ | refine gsplitG ?_ ?_) <;> intro h <;> (try simp only [Bool.not_eq_true', Bool.not_eq_false'] at h) <;> replace hb0 := h) | (refine And.intro ?ob ?_; case ob => ((try simp only [sxO, ne_eq, maxLen] at *); omega)) | fail) <;> (try simp (config := { maxSteps := 1000000 }) only [hb0, cE_ment, hasK_nil, cE_kill, cE_len, u32_one, u32_app1, u32_set, Nat.mul_one, w2, ↓hold_pre, awayP, runOps, regK, step1, newK, genR, appR, obl, buildR, Value.cells, closeK, keepH, outV, retK, ret1, retC, RetV, Option.getD, runD, stepD, afterK, undef, simprocAttr, sxB, ↓sxD, sxE, sxTab]))
    subst h2
    exact FrzF.tup [] [.int .u32 (r : Int)] ((ofN (x / d)).map u32V) rfl (by simp) (fun w M' h1 h2 h3 => hK w M' h1 h2 h3)
  obtain ⟨i, rfl⟩ : ∃ i, j = i + 1 := ⟨j - 1, by omega⟩
  have ej : (((i + 1 : Nat) : Int) - 1) = (i : Int) := by omega
  have hil : i < (ofN x).length := by omega
  have hxi := hu.idx (P := Tryd.prog) (T := 70) tk70 tz70 (by omega) hil
  rw [hl] at hxi
  have hx0 : (ofN x)[i] < 4294967296 := ofN_ok_at hil
  have hdr := valN_drop hil
  generalize (ofN x)[i] = a at *
  have d1 : decide ((0 : Int) ≤ (i : Int)) = true := by simp
  have d2 : (i < la) = True := by simp; omega
  have w3 : IntKind.u64.wrap (a : Int) = (a : Int) := wrap64_id (by omega)
  have w4 := shl32 (a := r) (by omega)
  have w5 := or32 (a := r) (b := a) (by omega) hx0
  have w6 : IntKind.u64.wrap (d : Int) = (d : Int) := wrap64_id (by omega)
  have w7 := quo64 (s := r * 4294967296 + a) (d := d) (by omega)
  have w8 := rem64 (r * 4294967296 + a) d
  have hq := small_lt hr hx0
  have w9 := wrap32_id hq
  have w10 : IntKind.i64.wrap ((i : Int) - 1) = (i : Int) - 1 := wrap_id (by omega) (by omega)
  (replace hb0 := true_and True); refine Go1.mk ?_; repeat' ((first | (with_reducible refine Go1.go ?_) | ((with_reducible first | refine brv_mk ?_ ?_ | refine gsplitD ?_ ?_ | refine gsplitG ?_ ?_) <;> intro h <;> (try simp only [Bool.not_eq_true', Bool.not_eq_false'] at h) <;> replace hb0 := h) | (refine And.intro ?ob ?_; case ob => ((try simp only [sxO, ne_eq, maxLen] at *); omega)) | fail) <;> (try simp (config := { maxSteps := 1000000 }) only [hb0, cE_ment, hasK_nil, cE_kill, cE_len, u32_one, u32_app1, u32_set, Nat.mul_one, smSt, u32V, ej, hu.one, hu.len, hu.sl, hl, hxi, d1, d2, w3, w4, w5, w6, w7, w8, w9, w10, hlo, ↓hold_pre, awayP, runOps, regK, step1, newK, genR, appR, obl, buildR, Value.cells, closeK, keepH, outV, retK, ret1, retC, RetV, Option.getD, runD, stepD, afterK, undef, simprocAttr, sxB, ↓sxD, sxE, sxTab]))
  exact ⟨i, smSt M u d la i _ _, by omega, le_sub ⟨rfl, rfl, rfl, rfl, rfl, trivial⟩ ⟨rfl, trivial⟩ rfl rfl rfl (keepLt0 _), i, _, _, rfl, by omega, by rw [List.length_set]; exact hlo, okN_set ho hq, Nat.mod_lt _ hd, by
    rw [hdr, drop_set_self (by omega)]; exact small_step hd hval, rfl⟩
def shSt (M : Mem) (u : Value) (n la i c kb : Nat) (out : List Nat) : St := { env := [(16, .ext (.int .i64 (i : Int))), (15, .ext (.int .i64 (la : Int))), (14, .ext u), (6, .ext (.int .u64 (c : Int))), (5, .slo (kb + 13) 0 (la + 1) 1), (0, .ext u), (1, .ext (.int .i64 (n : Int)))], hp := [(kb + 13, 70, cE u32V out)], M := M, kb := kb, fx := [] }
theorem shift_ok (kb : Nat) (u : Value) (l : List Nat) (n : Nat) (hu : IsL M u32V u l) (hx : l.length < 100000000) (hol : okN l) (hn : n < 32)
    (hK : ∀ out, out.length = l.length + 1 → okN out → valN out = valN l * 2 ^ n → K (.slo (kb + 13) 0 (l.length + 1) 1) [(kb + 13, 70, cE u32V out)] M) : CallS Tryd.prog 100 [.ext u, .ext (.int .i64 (n : Int))] [] M [] K := by
  refine inlS (cs := []) Tryd.mixed Tryd.func100 rfl (by kernel_rfl) kb rfl rfl ?_
  simp only [Tryd.f100]
  generalize hl : l.length = la at *
  have w1 : IntKind.i64.wrap ((la : Int) + 1) = ((la + 1 : Nat) : Int) := succ_i (by omega)
  (replace hb0 := true_and True); refine Go1.mk ?_; repeat' ((first | (with_reducible refine Go1.go ?_) | ((with_reducible first | refine brv_mk ?_ ?_ | refine gsplitD ?_ ?_ | refine gsplitG ?_ ?_) <;> intro h <;> (try simp only [Bool.not_eq_true', Bool.not_eq_false'] at h) <;> replace hb0 := h) | (refine And.intro ?ob ?_; case ob => ((try simp only [sxO, ne_eq, maxLen] at *); omega)) | fail) <;> (try simp (config := { maxSteps := 1000000 }) only [hb0, cE_ment, hasK_nil, cE_kill, cE_len, u32_one, u32_app1, u32_set, Nat.mul_one, hu.one, hu.len, hu.sl, hl, w1, ↓hold_pre, awayP, runOps, regK, step1, newK, genR, appR, obl, buildR, Value.cells, closeK, keepH, outV, retK, ret1, retC, RetV, Option.getD, runD, stepD, afterK, undef, simprocAttr, sxB, ↓sxD, sxE, sxTab]))
  have hz0 : AV.ext (Value.int .u32 0) :: List.map AV.ext (repN [Value.int .u32 0] la) = cE u32V (List.replicate (la + 1) 0) := cE_rep u32V (la + 1) 0
  have k1 : keepLt kb (shSt M u n la 0 0 kb (List.replicate (la + 1) 0)).hp [(kb + 13, 70, cE u32V (List.replicate (la + 1) 0))] := ⟨.inl (by omega), trivial⟩
  refine ⟨fun d z => ∃ i c out, d = la - i ∧ i ≤ la ∧ out.length = la + 1 ∧ okN out ∧ c < 2 ^ n ∧ valN (out.take i) + wN i * c = valN (l.take i) * 2 ^ n ∧ z = shSt M u n la i c kb out,
    ⟨la, shSt M u n la 0 0 kb (List.replicate (la + 1) 0), le_sub ⟨rfl, rfl, rfl, rfl, rfl, rfl, rfl, trivial⟩ (by simp [subHp, shSt, lkH, hz0]) rfl rfl rfl (by rw [hz0]; exact k1), ⟨0, 0, _, rfl, by omega, by simp, okN_rep _, Nat.two_pow_pos n, by simp [valN], rfl⟩⟩, ?_⟩
  rintro d z ⟨i, c, out, rfl, hi, hlo, ho, hc, hval, rfl⟩
  have hp2 : (2 : Nat) ^ n ≤ 2 ^ 31 := Nat.pow_le_pow_right (by decide) (by omega)
  have w2 : IntKind.u32.wrap (c : Int) = (c : Int) := wrap32_id (by omega)
  by_cases hlt : i < la
  case neg =>
    obtain rfl : i = la := by omega
    have d1 : decide ((i : Int) < (i : Int)) = false := by simp
    have d2 : (i < i + 1) = True := by simp
    (replace hb0 := true_and True); refine Go1.mk ?_; repeat' ((first | (with_reducible refine Go1.go ?_) | ((with_reducible first | refine brv_mk ?_ ?_ | refine gsplitD ?_ ?_ | refine gsplitG ?_ ?_) <;> intro h <;> (try simp only [Bool.not_eq_true', Bool.not_eq_false'] at h) <;> replace hb0 := h) | (refine And.intro ?ob ?_; case ob => ((try simp only [sxO, ne_eq, maxLen] at *); omega)) | fail) <;> (try simp (config := { maxSteps := 1000000 }) only [hb0, cE_ment, hasK_nil, cE_kill, cE_len, u32_one, u32_app1, u32_set, Nat.mul_one, shSt, hu.one, hu.len, hu.sl, hl, d1, d2, w2, hlo, ↓hold_pre, awayP, runOps, regK, step1, newK, genR, appR, obl, buildR, Value.cells, closeK, keepH, outV, retK, ret1, retC, RetV, Option.getD, runD, stepD, afterK, undef, simprocAttr, sxB, ↓sxD, sxE, sxTab]))
    refine hK _ (by rw [List.length_set]; exact hlo) (okN_set ho (by omega)) ?_
    have h1 := take_set_self (l := out) (i := i) (v := c) (by omega)
    rw [List.take_of_length_le (by simp; omega)] at h1
    rw [h1, valN_snoc, List.length_take, Nat.min_eq_left (by omega), hval, take_all (by omega)]
  have hil : i < l.length := by omega
  have hxi := hu.idx (P := Tryd.prog) (T := 70) tk70 tz70 (by omega) hil
  rw [hl] at hxi
  have hx0 : l[i] < 4294967296 := okN_at hol hil
  have hgx : l.getD i 0 = l[i] := by simp [List.getD, hil]
  generalize l[i] = a at *
  have d2 : (i < la + 1) = True := by simp; omega
  have w3 : IntKind.u64.wrap (a : Int) = (a : Int) := wrap64_id (by omega)
  have w4 := shlN hx0 hn
  have w5 := orN hx0 hn hc
  have w6 := wrap32 (a * 2 ^ n + c)
  have w7 := shr32 (a * 2 ^ n + c)
  have hw : (out.take i).length = i := by rw [List.length_take]; omega
  have st := shl_step (out := out.take i) (x := a) (p2 := 2 ^ n) (by rw [hw]; exact hval)
  rw [hw] at st
  (replace hb0 := true_and True); refine Go1.mk ?_; repeat' ((first | (with_reducible refine Go1.go ?_) | ((with_reducible first | refine brv_mk ?_ ?_ | refine gsplitD ?_ ?_ | refine gsplitG ?_ ?_) <;> intro h <;> (try simp only [Bool.not_eq_true', Bool.not_eq_false'] at h) <;> replace hb0 := h) | (refine And.intro ?ob ?_; case ob => ((try simp only [sxO, ne_eq, maxLen] at *); omega)) | fail) <;> (try simp (config := { maxSteps := 1000000 }) only [hb0, cE_ment, hasK_nil, cE_kill, cE_len, u32_one, u32_app1, u32_set, Nat.mul_one, shSt, u32V, hu.one, hu.len, hu.sl, hl, hxi, d2, w3, w4, w5, w6, w7, hlo, ↓hold_pre, awayP, runOps, regK, step1, newK, genR, appR, obl, buildR, Value.cells, closeK, keepH, outV, retK, ret1, retC, RetV, Option.getD, runD, stepD, afterK, undef, simprocAttr, sxB, ↓sxD, sxE, sxTab]))
  exact ⟨la - (i + 1), shSt M u n la (i + 1) _ kb _, by omega, le_sub ⟨rfl, rfl, rfl, rfl, rfl, rfl, rfl, trivial⟩ (by simp [subHp, shSt, lkH]; rfl) rfl rfl rfl ⟨.inl (Nat.le_add_right _ _), trivial⟩, i + 1, _, _, rfl, by omega, by rw [List.length_set]; exact hlo, okN_set ho (Nat.mod_lt _ (by decide)), shl_carry hx0 hc, by
    rw [take_set_self (by omega), take_val, hgx]; exact st, rfl⟩
def usSt (M : Mem) (u : Value) (n la i : Nat) (out : List Nat) : St := { env := [(14, .ext (.int .i64 (i : Int))), (13, .ext (.int .i64 (la : Int))), (12, .ext u), (5, .slo 11 0 la 1), (0, .ext u), (1, .ext (.int .i64 (n : Int)))], hp := [(11, 70, cE u32V out)], M := M, kb := 0, fx := [] }
theorem unshift_ok (u : Value) (l : List Nat) (n : Nat) (hu : IsL M u32V u l) (hx : l.length < 100000000) (hol : okN l) (hn : n < 32) (hK : NatK M K (valN l / 2 ^ n)) : CallS Tryd.prog 103 [.ext u, .ext (.int .i64 (n : Int))] [] M [] K := by
  refine CallS.frzF ?_
  refine inlS (cs := []) Tryd.mixed Tryd.func103 rfl (by kernel_rfl) 0 rfl rfl ?_
  simp only [Tryd.f103]
  generalize hl : l.length = la at *
  (replace hb0 := true_and True); refine Go1.mk ?_; repeat' ((first | (with_reducible refine Go1.go ?_) | ((with_reducible first | refine brv_mk ?_ ?_ | refine gsplitD ?_ ?_ | refine gsplitG ?_ ?_) <;> intro h <;> (try simp only [Bool.not_eq_true', Bool.not_eq_false'] at h) <;> replace hb0 := h) | (refine And.intro ?ob ?_; case ob => ((try simp only [sxO, ne_eq, maxLen] at *); omega)) | fail) <;> (try simp (config := { maxSteps := 1000000 }) only [hb0, cE_ment, hasK_nil, cE_kill, cE_len, u32_one, u32_app1, u32_set, Nat.mul_one, hu.one, hu.len, hu.sl, hl, ↓hold_pre, awayP, runOps, regK, step1, newK, genR, appR, obl, buildR, Value.cells, closeK, keepH, outV, retK, ret1, retC, RetV, Option.getD, runD, stepD, afterK, undef, simprocAttr, sxB, ↓sxD, sxE, sxTab]))
  have hz0 : List.map AV.ext (repN [Value.int .u32 0] la) = cE u32V (List.replicate la 0) := cE_rep u32V la 0
  refine ⟨fun d z => ∃ i out, d = la - i ∧ i ≤ la ∧ out.length = la ∧ okN out ∧ valN (out.take i) = valN l / 2 ^ n % wN i ∧ z = usSt M u n la i out,
    ⟨la, usSt M u n la 0 (List.replicate la 0), le_sub ⟨rfl, rfl, rfl, rfl, rfl, rfl, trivial⟩ (by simp [subHp, usSt, lkH, hz0]) rfl rfl rfl (keepLt0 _), ⟨0, _, rfl, by omega, by simp, okN_rep _, by simp [valN, wN, Nat.mod_one], rfl⟩⟩, ?_⟩
  rintro d z ⟨i, out, rfl, hi, hlo, ho, hval, rfl⟩
  by_cases hlt : i < la
  case neg =>
    obtain rfl : i = la := by omega
    have d1 : decide ((i : Int) < (i : Int)) = false := by simp
    have e1 : valN out = valN l / 2 ^ n := by
      rw [take_all (by omega)] at hval
      rw [hval]
      refine Nat.mod_eq_of_lt (Nat.lt_of_le_of_lt (Nat.div_le_self _ _) ?_)
      rw [← hl]; exact valN_lt hol
    (replace hb0 := true_and True); refine Go1.mk ?_; repeat' ((first | (with_reducible refine Go1.go ?_) | ((with_reducible first | refine brv_mk ?_ ?_ | refine gsplitD ?_ ?_ | refine gsplitG ?_ ?_) <;> intro h <;> (try simp only [Bool.not_eq_true', Bool.not_eq_false'] at h) <;> replace hb0 := h) | ((with_reducible refine isCall (f := 94) ?_); refine callA ?_) | ((with_reducible refine isCall0 (f := 94) ?_); refine callA0 ?_) | ((with_reducible refine isCallS (f := 94) ?_); refine (trim_ok 11 i out hlo (by omega) ho (fun m h1 h2 => ?_))) | (refine And.intro ?ob ?_; case ob => ((try simp only [sxO, ne_eq, maxLen] at *); omega)) | fail) <;> (try simp (config := { maxSteps := 1000000 }) only [hb0, cE_ment, hasK_nil, cE_kill, cE_len, u32_one, u32_app1, u32_set, Nat.mul_one, usSt, hu.one, hu.len, hu.sl, hl, d1, hlo, ↓hold_pre, awayP, runOps, regK, step1, newK, genR, appR, obl, buildR, Value.cells, closeK, keepH, outV, retK, ret1, retC, RetV, Option.getD, runD, stepD, afterK, undef, simprocAttr, sxB, ↓sxD, sxE, sxTab]))
    rw [e1] at h2 ⊢
    (replace hb0 := true_and True); refine Go1.mk ?_; repeat' ((first | (with_reducible refine Go1.go ?_) | ((with_reducible first | refine brv_mk ?_ ?_ | refine gsplitD ?_ ?_ | refine gsplitG ?_ ?_) <;> intro h <;> (try simp only [Bool.not_eq_true', Bool.not_eq_false'] at h) <;> replace hb0 := h) | (refine And.intro ?ob ?_; case ob => ((try simp only [sxO, ne_eq, maxLen] at *); omega)) | fail) <;> (try simp (config := { maxSteps := 1000000 }) only [hb0, cE_ment, hasK_nil, cE_kill, cE_len, u32_one, u32_app1, u32_set, Nat.mul_one, ↓hold_pre, awayP, runOps, regK, step1, newK, genR, appR, obl, buildR, Value.cells, closeK, keepH, outV, retK, ret1, retC, RetV, Option.getD, runD, stepD, afterK, undef, simprocAttr, sxB, ↓sxD, sxE, sxTab]))
    exact hK.frz h2
  have hil : i < l.length := by omega
  have hxi := hu.idx (P := Tryd.prog) (T := 70) tk70 tz70 (by omega) hil
  rw [hl] at hxi
  have hx0 : l[i] < 4294967296 := okN_at hol hil
  have hdr := valN_drop hil
  have hdv := valN_drop_div hol (i := i) (by omega)
  have hwd := wN_div (valN l) i (n := n)
  have d2 : (i < la) = True := by simp; omega
  have w3 : IntKind.u64.wrap (l[i] : Int) = (l[i] : Int) := wrap64_id (by omega)
  have w4 : IntKind.i64.wrap ((i : Int) + 1) = ((i + 1 : Nat) : Int) := succ_i (by omega)
  by_cases hy : i + 1 < la
  · have hil2 : i + 1 < l.length := by omega
    have hyi := hu.idx (P := Tryd.prog) (T := 70) tk70 tz70 (by omega) hil2
    rw [hl] at hyi
    have hy0 : l[i + 1] < 4294967296 := okN_at hol hil2
    have hdr2 := valN_drop hil2
    generalize l[i + 1] = b at *
    generalize l[i] = a at *
    have w5 : IntKind.u64.wrap (b : Int) = (b : Int) := wrap64_id (by omega)
    have w6 := shl32 hy0
    have w7 : bits .or .u64 (a : Int) ((b * 4294967296 : Nat) : Int) = ((b * 4294967296 + a : Nat) : Int) := by
      rw [bits64_or (by omega) (by omega), Nat.or_comm, show (4294967296 : Nat) = 2 ^ 32 by decide, or_add (by omega)]
    have w8 := shrN (b * 4294967296 + a) hn
    have w9 := wrap32 ((b * 4294967296 + a) / 2 ^ n)
    have hdig : valN l / wN i / 2 ^ n % 4294967296 = (b * 4294967296 + a) / 2 ^ n % 4294967296 := by
      rw [← hdv, hdr, hdr2, shr_digit hn, Nat.add_comm, Nat.mul_comm 4294967296 b]
    (replace hb0 := true_and True); refine Go1.mk ?_; repeat' ((first | (with_reducible refine Go1.go ?_) | ((with_reducible first | refine brv_mk ?_ ?_ | refine gsplitD ?_ ?_ | refine gsplitG ?_ ?_) <;> intro h <;> (try simp only [Bool.not_eq_true', Bool.not_eq_false'] at h) <;> replace hb0 := h) | (refine And.intro ?ob ?_; case ob => ((try simp only [sxO, ne_eq, maxLen] at *); omega)) | fail) <;> (try simp (config := { maxSteps := 1000000 }) only [hb0, cE_ment, hasK_nil, cE_kill, cE_len, u32_one, u32_app1, u32_set, Nat.mul_one, usSt, u32V, hu.one, hu.len, hu.sl, hl, hxi, hyi, d2, w3, w4, w5, w6, w7, w8, w9, hlo, ↓hold_pre, awayP, runOps, regK, step1, newK, genR, appR, obl, buildR, Value.cells, closeK, keepH, outV, retK, ret1, retC, RetV, Option.getD, runD, stepD, afterK, undef, simprocAttr, sxB, ↓sxD, sxE, sxTab]))
    exact ⟨la - (i + 1), usSt M u n la (i + 1) _, by omega, le_sub ⟨rfl, rfl, rfl, rfl, rfl, rfl, trivial⟩ ⟨rfl, trivial⟩ rfl rfl rfl (keepLt0 _), i + 1, _, rfl, by omega, by rw [List.length_set]; exact hlo, okN_set ho (Nat.mod_lt _ (by decide)), by
      rw [take_set_self (by omega), valN_snoc, List.length_take, Nat.min_eq_left (by omega), hval, hwd, hdig], rfl⟩
  · have d3 : decide (((i + 1 : Nat) : Int) < (la : Int)) = false := by simp; omega
    have hdr2 : l.drop (i + 1) = [] := List.drop_of_length_le (by omega)
    generalize l[i] = a at *
    have w8 := shrN a hn
    have w9 := wrap32 (a / 2 ^ n)
    have hdig : valN l / wN i / 2 ^ n % 4294967296 = a / 2 ^ n % 4294967296 := by
      rw [← hdv, hdr, hdr2]; simp [valN]
    (replace hb0 := true_and True); refine Go1.mk ?_; repeat' ((first | (with_reducible refine Go1.go ?_) | ((with_reducible first | refine brv_mk ?_ ?_ | refine gsplitD ?_ ?_ | refine gsplitG ?_ ?_) <;> intro h <;> (try simp only [Bool.not_eq_true', Bool.not_eq_false'] at h) <;> replace hb0 := h) | (refine And.intro ?ob ?_; case ob => ((try simp only [sxO, ne_eq, maxLen] at *); omega)) | fail) <;> (try simp (config := { maxSteps := 1000000 }) only [hb0, cE_ment, hasK_nil, cE_kill, cE_len, u32_one, u32_app1, u32_set, Nat.mul_one, usSt, u32V, hu.one, hu.len, hu.sl, hl, hxi, d2, d3, w3, w4, w8, w9, hlo, ↓hold_pre, awayP, runOps, regK, step1, newK, genR, appR, obl, buildR, Value.cells, closeK, keepH, outV, retK, ret1, retC, RetV, Option.getD, runD, stepD, afterK, undef, simprocAttr, sxB, ↓sxD, sxE, sxTab]))
    exact ⟨la - (i + 1), usSt M u n la (i + 1) _, by omega, le_sub ⟨rfl, rfl, rfl, rfl, rfl, rfl, trivial⟩ ⟨rfl, trivial⟩ rfl rfl rfl (keepLt0 _), i + 1, _, rfl, by omega, by rw [List.length_set]; exact hlo, okN_set ho (Nat.mod_lt _ (by decide)), by
      rw [take_set_self (by omega), valN_snoc, List.length_take, Nat.min_eq_left (by omega), hval, hwd, hdig], rfl⟩
end
end Go.Proofs.YtamghpnjdohnjaaDoor.Sx
namespace Go.Proofs.YtamghpnjdohnjaaDoor.Sx
open Go Go.RowKit
set_option linter.unusedVariables false
set_option linter.unusedSimpArgs false
set_option maxRecDepth 100000
set_option maxHeartbeats 8000000
attribute [local congr] fin_congr finG_congr stepG_congr step1_congr runOps_congr brv_congr obl_congr condK_congr LoopK_congr seqK_congr CutK_congr vc_congr DrawK_congr regK_congr CallK_congr AskK_congr newK_congr retC_congr ret1_congr retK_congr outV_congr closeK_congr genR_congr appR_congr finD_congr finGD_congr stepGD_congr stepD_congr CallK0_congr runD_congr okR_congr CallS_congr vcX_congr
attribute [local congr] Stop_congr
section
variable {M : Mem} {K : AV → Hp → Mem → Prop}
theorem clone_ok (u : Value) (l : List Nat) (hu : IsL M u32V u l) (hb : l.length < 1000000000) (hK : ∀ w M', Mem.le M M' → IsL M' u32V w l → FreshS M w → K (.ext w) [] M') : CallS Tryd.prog 90 [.ext u] [] M [] K := by
  refine CallS.frzF ?_
  refine inlS (cs := []) Tryd.mixed Tryd.func90 rfl (by kernel_rfl) 0 rfl rfl ?_
  simp only [Tryd.f90]
  cases hn : nilS u with
  | true =>
    have hl : l = [] := by
      rcases l with _ | ⟨a, r⟩
      · rfl
      · rw [hu.nn (i := 0) (by simp)] at hn; cases hn
    subst hl
    (replace hb0 := true_and True); refine Go1.mk ?_; repeat' ((first | (with_reducible refine Go1.go ?_) | ((with_reducible first | refine brv_mk ?_ ?_ | refine gsplitD ?_ ?_ | refine gsplitG ?_ ?_) <;> intro h <;> (try simp only [Bool.not_eq_true', Bool.not_eq_false'] at h) <;> replace hb0 := h) | (refine And.intro ?ob ?_; case ob => ((try simp only [sxO, ne_eq, maxLen] at *); omega)) | fail) <;> (try simp (config := { maxSteps := 1000000 }) only [hb0, hn, hu.one, hu.sl, cE_ment, hasK_nil, cE_kill, cE_len, u32_one, u32_app1, u32_set, Nat.mul_one, ↓hold_pre, awayP, runOps, regK, step1, newK, genR, appR, obl, buildR, Value.cells, closeK, keepH, outV, retK, ret1, retC, RetV, Option.getD, runD, stepD, afterK, undef, simprocAttr, sxB, ↓sxD, sxE, sxTab]))
    exact .inl (hK _ _ (Mem.le.refl _) (isL_nil _ _ _) (freshS_nil _ _))
  | false =>
    have hrow := hu.row
    have h1 : List.map AV.ext (List.map u32V l) = cE u32V l := rfl
    (replace hb0 := true_and True); refine Go1.mk ?_; repeat' ((first | (with_reducible refine Go1.go ?_) | ((with_reducible first | refine brv_mk ?_ ?_ | refine gsplitD ?_ ?_ | refine gsplitG ?_ ?_) <;> intro h <;> (try simp only [Bool.not_eq_true', Bool.not_eq_false'] at h) <;> replace hb0 := h) | (refine And.intro ?ob ?_; case ob => ((try simp only [sxO, ne_eq, maxLen] at *); omega)) | fail) <;> (try simp (config := { maxSteps := 1000000 }) only [hb0, hn, hu.one, hu.sl, hu.len, hrow, h1, cE_ment, hasK_nil, cE_kill, cE_len, u32_one, u32_app1, u32_set, Nat.mul_one, ↓hold_pre, awayP, runOps, regK, step1, newK, genR, appR, obl, buildR, Value.cells, closeK, keepH, outV, retK, ret1, retC, RetV, Option.getD, runD, stepD, afterK, undef, simprocAttr, sxB, ↓sxD, sxE, sxTab]))
    exact FrzF.one (l.map u32V) rfl (by simp) fun w M' h1 h2 h3 => hK w M' h1 (by unfold IsL; exact h2) h3
def gsSt (M : Mem) (u v : Value) (n q r : Nat) : St := { env := [(8, .ext (.int .u64 (r : Int))), (7, .ext (.int .u64 (q : Int))), (5, .ext (.int .i64 (n : Int))), (0, .ext u), (1, .ext v)], hp := [], M := M, kb := 0, fx := [] }
theorem guess_ok (u v : Value) (n : Nat) (C B : List Nat) (hu : IsL M u32V u C) (hv : IsL M u32V v B) (hn : 2 ≤ n) (hn2 : n < 1000000000) (hC : C.length = n + 1) (hB : B.length = n) (hoC : okN C) (hoB : okN B) (htop : 2147483648 ≤ B[n - 1]'(by omega)) (hlt : valN C < 4294967296 * valN B)
    (hK : ∀ q, q < 4294967296 → valN C / valN B ≤ q → q ≤ valN C / valN B + 1 → K (.ext (.int .u64 ((q : Nat) : Int))) [] M) : CallS Tryd.prog 102 [.ext u, .ext v] [] M [] K := by
  refine inlS (cs := []) Tryd.mixed Tryd.func102 rfl (by kernel_rfl) 0 rfl rfl ?_
  simp only [Tryd.f102]
  obtain ⟨m, rfl⟩ : ∃ m, n = m + 2 := ⟨n - 2, by omega⟩
  have i1 := hu.idx (P := Tryd.prog) (T := 70) tk70 tz70 (by omega) (show m + 2 < C.length by omega)
  have i2 := hu.idx (P := Tryd.prog) (T := 70) tk70 tz70 (by omega) (show m + 1 < C.length by omega)
  have i3 := hu.idx (P := Tryd.prog) (T := 70) tk70 tz70 (by omega) (show m < C.length by omega)
  have j1 := hv.idx (P := Tryd.prog) (T := 70) tk70 tz70 (by omega) (show m + 1 < B.length by omega)
  have j2 := hv.idx (P := Tryd.prog) (T := 70) tk70 tz70 (by omega) (show m < B.length by omega)
  have hcC : valN C = (C[m + 2] * 4294967296 + C[m + 1]) * (wN m * 4294967296) + C[m] * wN m + valN (C.take m) := by
    rw [valN_cut C (show m ≤ C.length by omega), valN_drop (show m < C.length by omega), valN_drop (show m + 1 < C.length by omega), valN_drop (show m + 2 < C.length by omega), List.drop_of_length_le (show C.length ≤ m + 2 + 1 by omega)]
    simp only [valN]
    grind
  have hcB : valN B = (B[m + 1] * 4294967296 + B[m]) * wN m + valN (B.take m) := by
    rw [valN_cut B (show m ≤ B.length by omega), valN_drop (show m < B.length by omega), valN_drop (show m + 1 < B.length by omega), List.drop_of_length_le (show B.length ≤ m + 1 + 1 by omega)]
    simp only [valN]
    grind
  have hrC : valN (C.take m) < wN m := by
    have := valN_lt (okN_take hoC m)
    rwa [List.length_take, Nat.min_eq_left (by omega)] at this
  have hrB : valN (B.take m) < wN m := by
    have := valN_lt (okN_take hoB m)
    rwa [List.length_take, Nat.min_eq_left (by omega)] at this
  have htop : 2147483648 ≤ B[m + 1] := htop
  have b1 := okN_at hoC (show m + 2 < C.length by omega)
  have b2 := okN_at hoC (show m + 1 < C.length by omega)
  have b3 := okN_at hoC (show m < C.length by omega)
  have b4 := okN_at hoB (show m + 1 < B.length by omega)
  have b5 := okN_at hoB (show m < B.length by omega)
  generalize hc0 : C[m + 2] = c0 at *
  generalize hc1 : C[m + 1] = c1 at *
  generalize hc2 : C[m] = c2 at *
  generalize hv1 : B[m + 1] = v1 at *
  generalize hv2 : B[m] = v2 at *
  generalize valN (C.take m) = cr at *
  generalize valN (B.take m) = vr at *
  have hpp := wN_pos m
  generalize wN m = p at *
  have hcC : valN C = ((c0 * 4294967296 + c1) * 4294967296 + c2) * p + cr := by rw [hcC]; grind
  clear hc0 hc1 hc2 hv1 hv2 hoC hoB
  generalize valN C = CC at *
  generalize valN B = V at *
  have w1 : IntKind.i64.wrap (((m + 2 : Nat) : Int) - 1) = ((m + 1 : Nat) : Int) := by rw [wrap_id (by omega) (by omega)]; omega
  have w2 : IntKind.i64.wrap (((m + 2 : Nat) : Int) - 2) = ((m : Nat) : Int) := by rw [wrap_id (by omega) (by omega)]; omega
  have w3 := shl32 b1
  have w4 := or32 b1 b2
  have u0 : IntKind.u64.wrap (c0 : Int) = (c0 : Int) := wrap64_id (by omega)
  have u1 : IntKind.u64.wrap (c1 : Int) = (c1 : Int) := wrap64_id (by omega)
  have u2 : IntKind.u64.wrap (c2 : Int) = (c2 : Int) := wrap64_id (by omega)
  have u3 : IntKind.u64.wrap (v1 : Int) = (v1 : Int) := wrap64_id (by omega)
  have u4 : IntKind.u64.wrap (v2 : Int) = (v2 : Int) := wrap64_id (by omega)
  have ht : c0 ≤ v1 := by
    rcases Nat.lt_or_ge v1 c0 with h | h
    · exfalso
      have a1 : (v1 * 4294967296 + v2 + 1) * p * 4294967296 ≤ (c0 * 4294967296) * 4294967296 * p := by
        have : v1 * 4294967296 + v2 + 1 ≤ c0 * 4294967296 := by omega
        have := Nat.mul_le_mul_right (p * 4294967296) this
        grind
      grind
    · exact h
  obtain ⟨top, htp⟩ : ∃ top, c0 * 4294967296 + c1 = top := ⟨_, rfl⟩
  rw [htp] at w4 hcC
  have ht2 : top ≤ v1 * 4294967296 + 4294967295 := by omega
  have w5 := quo64 (s := top) (d := v1) (by omega)
  have w6 := rem64 top v1
  have n1 : ((v1 : Int) = 0) = False := by simp; omega
  (replace hb0 := true_and True); refine Go1.mk ?_; repeat' ((first | (with_reducible refine Go1.go ?_) | ((with_reducible first | refine brv_mk ?_ ?_ | refine gsplitD ?_ ?_ | refine gsplitG ?_ ?_) <;> intro h <;> (try simp only [Bool.not_eq_true', Bool.not_eq_false'] at h) <;> replace hb0 := h) | ((with_reducible refine isDraw [some 11, some 12, some 13, some 14, some 15, some 16, some 17, some 18, some 19, some 20, some 21, some 22, some 23, some 6] (by decide) ?_); refine draw_rule [(0, []), (1, []), (2, []), (3, []), (4, []), (5, []), (6, [3]), (7, [3]), (8, [3]), (9, [3]), (10, [3]), (11, [3]), (12, []), (13, [])] [[], [], [0, 1], [0, 1, 2], [0, 1, 2, 3], [0, 1, 2, 3, 4], [], [], [7], [6, 7, 8], [6, 7, 8, 9], [6, 7, 8, 9, 10], [0, 1, 2, 3, 4, 5, 6, 7, 8, 9, 10, 11], [0, 1, 2, 3, 4, 5, 6, 7, 8, 9, 10, 11, 12]] [11, 12, 13, 14, 15, 16, 17, 18, 19, 20, 21, 22] [] (by kernel_rfl) (by kernel_rfl) (by kernel_rfl) (by kernel_rfl) (by exact trivial) ?_) | ((with_reducible refine isDraw [some 24, some 25, some 26, some 27, some 28, some 29, some 30, some 31, some 32, some 33, some 34, some 35, some 36, some 37, some 38, some 39, some 7, some 8] (by decide) ?_); refine draw_rule [(0, []), (1, []), (2, []), (3, []), (4, []), (5, []), (6, []), (7, []), (8, [5]), (9, [5]), (10, [5]), (11, [5]), (12, [5]), (13, [5]), (14, [5]), (15, [5]), (16, [13]), (17, [])] [[], [], [], [2], [1, 2, 3], [1, 2, 3, 4], [1, 2, 3, 4, 5], [0, 1, 2, 3, 4, 5, 6], [], [], [], [10], [9, 10, 11], [9, 10, 11, 12], [9, 10, 11, 12, 13], [8, 9, 10, 11, 12, 13, 14], [0, 1, 2, 3, 4, 5, 6, 7], [0, 1, 2, 3, 4, 5, 6, 7, 8, 9, 10, 11, 12, 13, 14, 15, 16]] [24, 25, 26, 27, 28, 29, 30, 31, 32, 33, 34, 35, 36, 37, 38, 39, 7] [] (by kernel_rfl) (by kernel_rfl) (by kernel_rfl) (by kernel_rfl) (by exact trivial) ?_) | ((with_reducible refine isDraw [some 40, some 41, some 42, some 43, some 44, some 45, some 46, some 47, some 48, some 49, some 50, some 51, some 52, some 53, some 54, some 55, some 56, some 57, some 58, some 59, some 60, some 61] (by decide) ?_); refine draw_rule [(0, []), (1, []), (2, []), (3, []), (4, []), (5, []), (6, []), (7, []), (8, []), (9, []), (10, []), (11, [8]), (12, [8]), (13, [8]), (14, [8]), (15, [8]), (16, [8]), (17, [8]), (18, [8]), (19, [8]), (20, []), (21, [])] [[], [0], [0, 1], [0, 1, 2], [0, 1, 2], [0, 1, 2], [0, 1, 2, 5], [0, 1, 2, 4, 5, 6], [0, 1, 2, 4, 5, 6, 7], [0, 1, 2, 4, 5, 6, 7, 8], [0, 1, 2, 3, 4, 5, 6, 7, 8, 9], [0, 1, 2], [0, 1, 2, 11], [0, 1, 2], [0, 1, 2], [0, 1, 2, 14], [0, 1, 2, 13, 14, 15], [0, 1, 2, 13, 14, 15, 16], [0, 1, 2, 13, 14, 15, 16, 17], [0, 1, 2, 11, 12, 13, 14, 15, 16, 17, 18], [0, 1, 2, 3, 4, 5, 6, 7, 8, 9, 10, 11, 12, 13, 14, 15, 16, 17, 18, 19], [0, 1, 2, 3, 4, 5, 6, 7, 8, 9, 10, 11, 12, 13, 14, 15, 16, 17, 18, 19, 20]] [43, 44, 45, 46, 47, 48, 49, 50, 51, 52, 53, 54, 55, 56, 57, 58, 59] [] (by kernel_rfl) (by kernel_rfl) (by kernel_rfl) (by kernel_rfl) (by exact trivial) ?_) | (refine And.intro ?ob ?_; case ob => ((try simp only [sxO, ne_eq, maxLen] at *); omega)) | fail) <;> (try simp (config := { maxSteps := 1000000 }) only [hb0, cE_ment, hasK_nil, cE_kill, cE_len, u32_one, u32_app1, u32_set, Nat.mul_one, u32V, hu.one, hv.one, hu.len, hv.len, hv.sl, hB, i1, i2, i3, j1, j2, w1, w2, w3, w4, w5, w6, u0, u1, u2, u3, u4, n1, ↓hold_pre, awayP, runOps, regK, step1, newK, genR, appR, obl, buildR, Value.cells, closeK, keepH, outV, retK, ret1, retC, RetV, Option.getD, runD, stepD, afterK, undef, simprocAttr, sxB, ↓sxD, sxE, sxTab]))
  clear w1 w4 w5 w6 u0 u1 n1 i1 i2
  have w1 : IntKind.i64.wrap (((m + 2 : Nat) : Int) - 1) = ((m + 1 : Nat) : Int) := by rw [wrap_id (by omega) (by omega)]; omega
  refine ⟨fun d z => ∃ q r, q = d ∧ CC / V ≤ q ∧ q * v1 + r = top ∧ r < 4294967296 ∧ z = gsSt M u v (m + 2) q r,
    ⟨top / v1, gsSt M u v (m + 2) (top / v1) (top % v1), le_sub ⟨rfl, rfl, rfl, rfl, rfl, trivial⟩ trivial rfl rfl rfl (keepLt0 _), ⟨_, _, rfl, guess_init hcB hcC hrC b3 (by omega), by rw [Nat.mul_comm]; exact Nat.div_add_mod top v1, Nat.lt_trans (Nat.mod_lt _ (by omega)) b4, rfl⟩⟩, ?_⟩
  rintro d z ⟨q, r, rfl, hqd, hqr, hr, rfl⟩
  have body : ∀ (h : 4294967296 ≤ q ∨ r * 4294967296 + c2 < q * v2), 1 ≤ q ∧ CC / V ≤ q - 1 ∧ (q - 1) * v1 + (r + v1) = top ∧ IntKind.u64.wrap ((q : Int) - 1) = ((q - 1 : Nat) : Int) ∧ IntKind.u64.wrap ((r : Int) + (v1 : Int)) = ((r + v1 : Nat) : Int) ∧ (4294967296 ≤ r + v1 → q - 1 < 4294967296 ∧ q - 1 ≤ CC / V + 1) := fun h => by
    obtain ⟨h1, h2⟩ := guess_dec hcB hcC hrC hlt hqr hqd h
    have hq2 : q ≤ top / v1 := by rw [Nat.le_div_iff_mul_le (by omega)]; omega
    have hq3 : q ≤ top := Nat.le_trans hq2 (Nat.div_le_self _ _)
    have h6 : 1 ≤ q := Nat.le_trans (Nat.le_add_left 1 _) h1
    have h5 : CC / V ≤ q - 1 := Nat.le_sub_one_of_lt h1
    refine ⟨h6, h5, h2, by rw [wrap64_i (by omega) (by omega)]; omega, by rw [← Int.natCast_add, wrap64_id (by omega)], fun hb => ?_⟩
    obtain ⟨h3, h4⟩ := guess_brk (u2 := c2) h2 ht2 b5 (by omega) hb
    exact ⟨h3, guess_exit hcB hcC hrB htop h2 h3 h4⟩
  by_cases hqW : 4294967296 ≤ q
  · have d1 : decide ((4294967296 : Int) ≤ (q : Int)) = true := by simp; omega
    obtain ⟨h1, h2, h3, w7, w8, h4⟩ := body (.inl hqW)
    by_cases hb : 4294967296 ≤ r + v1
    · have d2 : decide ((4294967296 : Int) ≤ ((r + v1 : Nat) : Int)) = true := by simp; omega
      (replace hb0 := true_and True); refine Go1.mk ?_; repeat' ((first | (with_reducible refine Go1.go ?_) | ((with_reducible first | refine brv_mk ?_ ?_ | refine gsplitD ?_ ?_ | refine gsplitG ?_ ?_) <;> intro h <;> (try simp only [Bool.not_eq_true', Bool.not_eq_false'] at h) <;> replace hb0 := h) | ((with_reducible refine isDraw [some 11, some 12, some 13, some 14, some 15, some 16, some 17, some 18, some 19, some 20, some 21, some 22, some 23, some 6] (by decide) ?_); refine draw_rule [(0, []), (1, []), (2, []), (3, []), (4, []), (5, []), (6, [3]), (7, [3]), (8, [3]), (9, [3]), (10, [3]), (11, [3]), (12, []), (13, [])] [[], [], [0, 1], [0, 1, 2], [0, 1, 2, 3], [0, 1, 2, 3, 4], [], [], [7], [6, 7, 8], [6, 7, 8, 9], [6, 7, 8, 9, 10], [0, 1, 2, 3, 4, 5, 6, 7, 8, 9, 10, 11], [0, 1, 2, 3, 4, 5, 6, 7, 8, 9, 10, 11, 12]] [11, 12, 13, 14, 15, 16, 17, 18, 19, 20, 21, 22] [] (by kernel_rfl) (by kernel_rfl) (by kernel_rfl) (by kernel_rfl) (by exact trivial) ?_) | ((with_reducible refine isDraw [some 24, some 25, some 26, some 27, some 28, some 29, some 30, some 31, some 32, some 33, some 34, some 35, some 36, some 37, some 38, some 39, some 7, some 8] (by decide) ?_); refine draw_rule [(0, []), (1, []), (2, []), (3, []), (4, []), (5, []), (6, []), (7, []), (8, [5]), (9, [5]), (10, [5]), (11, [5]), (12, [5]), (13, [5]), (14, [5]), (15, [5]), (16, [13]), (17, [])] [[], [], [], [2], [1, 2, 3], [1, 2, 3, 4], [1, 2, 3, 4, 5], [0, 1, 2, 3, 4, 5, 6], [], [], [], [10], [9, 10, 11], [9, 10, 11, 12], [9, 10, 11, 12, 13], [8, 9, 10, 11, 12, 13, 14], [0, 1, 2, 3, 4, 5, 6, 7], [0, 1, 2, 3, 4, 5, 6, 7, 8, 9, 10, 11, 12, 13, 14, 15, 16]] [24, 25, 26, 27, 28, 29, 30, 31, 32, 33, 34, 35, 36, 37, 38, 39, 7] [] (by kernel_rfl) (by kernel_rfl) (by kernel_rfl) (by kernel_rfl) (by exact trivial) ?_) | ((with_reducible refine isDraw [some 40, some 41, some 42, some 43, some 44, some 45, some 46, some 47, some 48, some 49, some 50, some 51, some 52, some 53, some 54, some 55, some 56, some 57, some 58, some 59, some 60, some 61] (by decide) ?_); refine draw_rule [(0, []), (1, []), (2, []), (3, []), (4, []), (5, []), (6, []), (7, []), (8, []), (9, []), (10, []), (11, [8]), (12, [8]), (13, [8]), (14, [8]), (15, [8]), (16, [8]), (17, [8]), (18, [8]), (19, [8]), (20, []), (21, [])] [[], [0], [0, 1], [0, 1, 2], [0, 1, 2], [0, 1, 2], [0, 1, 2, 5], [0, 1, 2, 4, 5, 6], [0, 1, 2, 4, 5, 6, 7], [0, 1, 2, 4, 5, 6, 7, 8], [0, 1, 2, 3, 4, 5, 6, 7, 8, 9], [0, 1, 2], [0, 1, 2, 11], [0, 1, 2], [0, 1, 2], [0, 1, 2, 14], [0, 1, 2, 13, 14, 15], [0, 1, 2, 13, 14, 15, 16], [0, 1, 2, 13, 14, 15, 16, 17], [0, 1, 2, 11, 12, 13, 14, 15, 16, 17, 18], [0, 1, 2, 3, 4, 5, 6, 7, 8, 9, 10, 11, 12, 13, 14, 15, 16, 17, 18, 19], [0, 1, 2, 3, 4, 5, 6, 7, 8, 9, 10, 11, 12, 13, 14, 15, 16, 17, 18, 19, 20]] [43, 44, 45, 46, 47, 48, 49, 50, 51, 52, 53, 54, 55, 56, 57, 58, 59] [] (by kernel_rfl) (by kernel_rfl) (by kernel_rfl) (by kernel_rfl) (by exact trivial) ?_) | (refine And.intro ?ob ?_; case ob => ((try simp only [sxO, ne_eq, maxLen] at *); omega)) | fail) <;> (try simp (config := { maxSteps := 1000000 }) only [hb0, cE_ment, hasK_nil, cE_kill, cE_len, u32_one, u32_app1, u32_set, Nat.mul_one, gsSt, u32V, hu.one, hv.one, hu.len, hv.len, hv.sl, hB, j1, j2, i3, d1, d2, w1, w2, w7, w8, u2, u3, u4, ↓hold_pre, awayP, runOps, regK, step1, newK, genR, appR, obl, buildR, Value.cells, closeK, keepH, outV, retK, ret1, retC, RetV, Option.getD, runD, stepD, afterK, undef, simprocAttr, sxB, ↓sxD, sxE, sxTab]))
      exact hK _ (h4 hb).1 h2 (h4 hb).2
    · have d2 : decide ((4294967296 : Int) ≤ ((r + v1 : Nat) : Int)) = false := by simp; omega
      (replace hb0 := true_and True); refine Go1.mk ?_; repeat' ((first | (with_reducible refine Go1.go ?_) | ((with_reducible first | refine brv_mk ?_ ?_ | refine gsplitD ?_ ?_ | refine gsplitG ?_ ?_) <;> intro h <;> (try simp only [Bool.not_eq_true', Bool.not_eq_false'] at h) <;> replace hb0 := h) | ((with_reducible refine isDraw [some 11, some 12, some 13, some 14, some 15, some 16, some 17, some 18, some 19, some 20, some 21, some 22, some 23, some 6] (by decide) ?_); refine draw_rule [(0, []), (1, []), (2, []), (3, []), (4, []), (5, []), (6, [3]), (7, [3]), (8, [3]), (9, [3]), (10, [3]), (11, [3]), (12, []), (13, [])] [[], [], [0, 1], [0, 1, 2], [0, 1, 2, 3], [0, 1, 2, 3, 4], [], [], [7], [6, 7, 8], [6, 7, 8, 9], [6, 7, 8, 9, 10], [0, 1, 2, 3, 4, 5, 6, 7, 8, 9, 10, 11], [0, 1, 2, 3, 4, 5, 6, 7, 8, 9, 10, 11, 12]] [11, 12, 13, 14, 15, 16, 17, 18, 19, 20, 21, 22] [] (by kernel_rfl) (by kernel_rfl) (by kernel_rfl) (by kernel_rfl) (by exact trivial) ?_) | ((with_reducible refine isDraw [some 24, some 25, some 26, some 27, some 28, some 29, some 30, some 31, some 32, some 33, some 34, some 35, some 36, some 37, some 38, some 39, some 7, some 8] (by decide) ?_); refine draw_rule [(0, []), (1, []), (2, []), (3, []), (4, []), (5, []), (6, []), (7, []), (8, [5]), (9, [5]), (10, [5]), (11, [5]), (12, [5]), (13, [5]), (14, [5]), (15, [5]), (16, [13]), (17, [])] [[], [], [], [2], [1, 2, 3], [1, 2, 3, 4], [1, 2, 3, 4, 5], [0, 1, 2, 3, 4, 5, 6], [], [], [], [10], [9, 10, 11], [9, 10, 11, 12], [9, 10, 11, 12, 13], [8, 9, 10, 11, 12, 13, 14], [0, 1, 2, 3, 4, 5, 6, 7], [0, 1, 2, 3, 4, 5, 6, 7, 8, 9, 10, 11, 12, 13, 14, 15, 16]] [24, 25, 26, 27, 28, 29, 30, 31, 32, 33, 34, 35, 36, 37, 38, 39, 7] [] (by kernel_rfl) (by kernel_rfl) (by kernel_rfl) (by kernel_rfl) (by exact trivial) ?_) | ((with_reducible refine isDraw [some 40, some 41, some 42, some 43, some 44, some 45, some 46, some 47, some 48, some 49, some 50, some 51, some 52, some 53, some 54, some 55, some 56, some 57, some 58, some 59, some 60, some 61] (by decide) ?_); refine draw_rule [(0, []), (1, []), (2, []), (3, []), (4, []), (5, []), (6, []), (7, []), (8, []), (9, []), (10, []), (11, [8]), (12, [8]), (13, [8]), (14, [8]), (15, [8]), (16, [8]), (17, [8]), (18, [8]), (19, [8]), (20, []), (21, [])] [[], [0], [0, 1], [0, 1, 2], [0, 1, 2], [0, 1, 2], [0, 1, 2, 5], [0, 1, 2, 4, 5, 6], [0, 1, 2, 4, 5, 6, 7], [0, 1, 2, 4, 5, 6, 7, 8], [0, 1, 2, 3, 4, 5, 6, 7, 8, 9], [0, 1, 2], [0, 1, 2, 11], [0, 1, 2], [0, 1, 2], [0, 1, 2, 14], [0, 1, 2, 13, 14, 15], [0, 1, 2, 13, 14, 15, 16], [0, 1, 2, 13, 14, 15, 16, 17], [0, 1, 2, 11, 12, 13, 14, 15, 16, 17, 18], [0, 1, 2, 3, 4, 5, 6, 7, 8, 9, 10, 11, 12, 13, 14, 15, 16, 17, 18, 19], [0, 1, 2, 3, 4, 5, 6, 7, 8, 9, 10, 11, 12, 13, 14, 15, 16, 17, 18, 19, 20]] [43, 44, 45, 46, 47, 48, 49, 50, 51, 52, 53, 54, 55, 56, 57, 58, 59] [] (by kernel_rfl) (by kernel_rfl) (by kernel_rfl) (by kernel_rfl) (by exact trivial) ?_) | (refine And.intro ?ob ?_; case ob => ((try simp only [sxO, ne_eq, maxLen] at *); omega)) | fail) <;> (try simp (config := { maxSteps := 1000000 }) only [hb0, cE_ment, hasK_nil, cE_kill, cE_len, u32_one, u32_app1, u32_set, Nat.mul_one, gsSt, u32V, hu.one, hv.one, hu.len, hv.len, hv.sl, hB, j1, j2, i3, d1, d2, w1, w2, w7, w8, u2, u3, u4, ↓hold_pre, awayP, runOps, regK, step1, newK, genR, appR, obl, buildR, Value.cells, closeK, keepH, outV, retK, ret1, retC, RetV, Option.getD, runD, stepD, afterK, undef, simprocAttr, sxB, ↓sxD, sxE, sxTab]))
      exact ⟨q - 1, gsSt M u v (m + 2) (q - 1) (r + v1), by omega, le_sub ⟨rfl, rfl, rfl, rfl, rfl, trivial⟩ trivial rfl rfl rfl (keepLt0 _), _, _, rfl, h2, h3, by omega, rfl⟩
  · have d1 : decide ((4294967296 : Int) ≤ (q : Int)) = false := by simp; omega
    have hm := mul_le (show q < 4294967296 by omega) b5
    have w9 : IntKind.u64.wrap ((q : Int) * (v2 : Int)) = ((q * v2 : Nat) : Int) := by rw [← Int.natCast_mul, wrap64_id (by omega)]
    have w10 := shl32 hr
    have w11 := or32 hr b3
    by_cases hc : r * 4294967296 + c2 < q * v2
    · have d3 : decide (((r * 4294967296 + c2 : Nat) : Int) < ((q * v2 : Nat) : Int)) = true := by rw [decide_eq_true_eq]; exact Int.ofNat_lt.2 hc
      obtain ⟨h1, h2, h3, w7, w8, h4⟩ := body (.inr hc)
      by_cases hb : 4294967296 ≤ r + v1
      · have d2 : decide ((4294967296 : Int) ≤ ((r + v1 : Nat) : Int)) = true := by simp; omega
        (replace hb0 := true_and True); refine Go1.mk ?_; repeat' ((first | (with_reducible refine Go1.go ?_) | ((with_reducible first | refine brv_mk ?_ ?_ | refine gsplitD ?_ ?_ | refine gsplitG ?_ ?_) <;> intro h <;> (try simp only [Bool.not_eq_true', Bool.not_eq_false'] at h) <;> replace hb0 := h) | ((with_reducible refine isDraw [some 11, some 12, some 13, some 14, some 15, some 16, some 17, some 18, some 19, some 20, some 21, some 22, some 23, some 6] (by decide) ?_); refine draw_rule [(0, []), (1, []), (2, []), (3, []), (4, []), (5, []), (6, [3]), (7, [3]), (8, [3]), (9, [3]), (10, [3]), (11, [3]), (12, []), (13, [])] [[], [], [0, 1], [0, 1, 2], [0, 1, 2, 3], [0, 1, 2, 3, 4], [], [], [7], [6, 7, 8], [6, 7, 8, 9], [6, 7, 8, 9, 10], [0, 1, 2, 3, 4, 5, 6, 7, 8, 9, 10, 11], [0, 1, 2, 3, 4, 5, 6, 7, 8, 9, 10, 11, 12]] [11, 12, 13, 14, 15, 16, 17, 18, 19, 20, 21, 22] [] (by kernel_rfl) (by kernel_rfl) (by kernel_rfl) (by kernel_rfl) (by exact trivial) ?_) | ((with_reducible refine isDraw [some 24, some 25, some 26, some 27, some 28, some 29, some 30, some 31, some 32, some 33, some 34, some 35, some 36, some 37, some 38, some 39, some 7, some 8] (by decide) ?_); refine draw_rule [(0, []), (1, []), (2, []), (3, []), (4, []), (5, []), (6, []), (7, []), (8, [5]), (9, [5]), (10, [5]), (11, [5]), (12, [5]), (13, [5]), (14, [5]), (15, [5]), (16, [13]), (17, [])] [[], [], [], [2], [1, 2, 3], [1, 2, 3, 4], [1, 2, 3, 4, 5], [0, 1, 2, 3, 4, 5, 6], [], [], [], [10], [9, 10, 11], [9, 10, 11, 12], [9, 10, 11, 12, 13], [8, 9, 10, 11, 12, 13, 14], [0, 1, 2, 3, 4, 5, 6, 7], [0, 1, 2, 3, 4, 5, 6, 7, 8, 9, 10, 11, 12, 13, 14, 15, 16]] [24, 25, 26, 27, 28, 29, 30, 31, 32, 33, 34, 35, 36, 37, 38, 39, 7] [] (by kernel_rfl) (by kernel_rfl) (by kernel_rfl) (by kernel_rfl) (by exact trivial) ?_) | ((with_reducible refine isDraw [some 40, some 41, some 42, some 43, some 44, some 45, some 46, some 47, some 48, some 49, some 50, some 51, some 52, some 53, some 54, some 55, some 56, some 57, some 58, some 59, some 60, some 61] (by decide) ?_); refine draw_rule [(0, []), (1, []), (2, []), (3, []), (4, []), (5, []), (6, []), (7, []), (8, []), (9, []), (10, []), (11, [8]), (12, [8]), (13, [8]), (14, [8]), (15, [8]), (16, [8]), (17, [8]), (18, [8]), (19, [8]), (20, []), (21, [])] [[], [0], [0, 1], [0, 1, 2], [0, 1, 2], [0, 1, 2], [0, 1, 2, 5], [0, 1, 2, 4, 5, 6], [0, 1, 2, 4, 5, 6, 7], [0, 1, 2, 4, 5, 6, 7, 8], [0, 1, 2, 3, 4, 5, 6, 7, 8, 9], [0, 1, 2], [0, 1, 2, 11], [0, 1, 2], [0, 1, 2], [0, 1, 2, 14], [0, 1, 2, 13, 14, 15], [0, 1, 2, 13, 14, 15, 16], [0, 1, 2, 13, 14, 15, 16, 17], [0, 1, 2, 11, 12, 13, 14, 15, 16, 17, 18], [0, 1, 2, 3, 4, 5, 6, 7, 8, 9, 10, 11, 12, 13, 14, 15, 16, 17, 18, 19], [0, 1, 2, 3, 4, 5, 6, 7, 8, 9, 10, 11, 12, 13, 14, 15, 16, 17, 18, 19, 20]] [43, 44, 45, 46, 47, 48, 49, 50, 51, 52, 53, 54, 55, 56, 57, 58, 59] [] (by kernel_rfl) (by kernel_rfl) (by kernel_rfl) (by kernel_rfl) (by exact trivial) ?_) | (refine And.intro ?ob ?_; case ob => ((try simp only [sxO, ne_eq, maxLen] at *); omega)) | fail) <;> (try simp (config := { maxSteps := 1000000 }) only [hb0, cE_ment, hasK_nil, cE_kill, cE_len, u32_one, u32_app1, u32_set, Nat.mul_one, gsSt, u32V, hu.one, hv.one, hu.len, hv.len, hv.sl, hB, j1, j2, i3, d1, d2, d3, w1, w2, w7, w8, w9, w10, w11, u2, u3, u4, ↓hold_pre, awayP, runOps, regK, step1, newK, genR, appR, obl, buildR, Value.cells, closeK, keepH, outV, retK, ret1, retC, RetV, Option.getD, runD, stepD, afterK, undef, simprocAttr, sxB, ↓sxD, sxE, sxTab]))
        exact hK _ (h4 hb).1 h2 (h4 hb).2
      · have d2 : decide ((4294967296 : Int) ≤ ((r + v1 : Nat) : Int)) = false := by simp; omega
        (replace hb0 := true_and True); refine Go1.mk ?_; repeat' ((first | (with_reducible refine Go1.go ?_) | ((with_reducible first | refine brv_mk ?_ ?_ | refine gsplitD ?_ ?_ | refine gsplitG ?_ ?_) <;> intro h <;> (try simp only [Bool.not_eq_true', Bool.not_eq_false'] at h) <;> replace hb0 := h) | ((with_reducible refine isDraw [some 11, some 12, some 13, some 14, some 15, some 16, some 17, some 18, some 19, some 20, some 21, some 22, some 23, some 6] (by decide) ?_); refine draw_rule [(0, []), (1, []), (2, []), (3, []), (4, []), (5, []), (6, [3]), (7, [3]), (8, [3]), (9, [3]), (10, [3]), (11, [3]), (12, []), (13, [])] [[], [], [0, 1], [0, 1, 2], [0, 1, 2, 3], [0, 1, 2, 3, 4], [], [], [7], [6, 7, 8], [6, 7, 8, 9], [6, 7, 8, 9, 10], [0, 1, 2, 3, 4, 5, 6, 7, 8, 9, 10, 11], [0, 1, 2, 3, 4, 5, 6, 7, 8, 9, 10, 11, 12]] [11, 12, 13, 14, 15, 16, 17, 18, 19, 20, 21, 22] [] (by kernel_rfl) (by kernel_rfl) (by kernel_rfl) (by kernel_rfl) (by exact trivial) ?_) | ((with_reducible refine isDraw [some 24, some 25, some 26, some 27, some 28, some 29, some 30, some 31, some 32, some 33, some 34, some 35, some 36, some 37, some 38, some 39, some 7, some 8] (by decide) ?_); refine draw_rule [(0, []), (1, []), (2, []), (3, []), (4, []), (5, []), (6, []), (7, []), (8, [5]), (9, [5]), (10, [5]), (11, [5]), (12, [5]), (13, [5]), (14, [5]), (15, [5]), (16, [13]), (17, [])] [[], [], [], [2], [1, 2, 3], [1, 2, 3, 4], [1, 2, 3, 4, 5], [0, 1, 2, 3, 4, 5, 6], [], [], [], [10], [9, 10, 11], [9, 10, 11, 12], [9, 10, 11, 12, 13], [8, 9, 10, 11, 12, 13, 14], [0, 1, 2, 3, 4, 5, 6, 7], [0, 1, 2, 3, 4, 5, 6, 7, 8, 9, 10, 11, 12, 13, 14, 15, 16]] [24, 25, 26, 27, 28, 29, 30, 31, 32, 33, 34, 35, 36, 37, 38, 39, 7] [] (by kernel_rfl) (by kernel_rfl) (by kernel_rfl) (by kernel_rfl) (by exact trivial) ?_) | ((with_reducible refine isDraw [some 40, some 41, some 42, some 43, some 44, some 45, some 46, some 47, some 48, some 49, some 50, some 51, some 52, some 53, some 54, some 55, some 56, some 57, some 58, some 59, some 60, some 61] (by decide) ?_); refine draw_rule [(0, []), (1, []), (2, []), (3, []), (4, []), (5, []), (6, []), (7, []), (8, []), (9, []), (10, []), (11, [8]), (12, [8]), (13, [8]), (14, [8]), (15, [8]), (16, [8]), (17, [8]), (18, [8]), (19, [8]), (20, []), (21, [])] [[], [0], [0, 1], [0, 1, 2], [0, 1, 2], [0, 1, 2], [0, 1, 2, 5], [0, 1, 2, 4, 5, 6], [0, 1, 2, 4, 5, 6, 7], [0, 1, 2, 4, 5, 6, 7, 8], [0, 1, 2, 3, 4, 5, 6, 7, 8, 9], [0, 1, 2], [0, 1, 2, 11], [0, 1, 2], [0, 1, 2], [0, 1, 2, 14], [0, 1, 2, 13, 14, 15], [0, 1, 2, 13, 14, 15, 16], [0, 1, 2, 13, 14, 15, 16, 17], [0, 1, 2, 11, 12, 13, 14, 15, 16, 17, 18], [0, 1, 2, 3, 4, 5, 6, 7, 8, 9, 10, 11, 12, 13, 14, 15, 16, 17, 18, 19], [0, 1, 2, 3, 4, 5, 6, 7, 8, 9, 10, 11, 12, 13, 14, 15, 16, 17, 18, 19, 20]] [43, 44, 45, 46, 47, 48, 49, 50, 51, 52, 53, 54, 55, 56, 57, 58, 59] [] (by kernel_rfl) (by kernel_rfl) (by kernel_rfl) (by kernel_rfl) (by exact trivial) ?_) | (refine And.intro ?ob ?_; case ob => ((try simp only [sxO, ne_eq, maxLen] at *); omega)) | fail) <;> (try simp (config := { maxSteps := 1000000 }) only [hb0, cE_ment, hasK_nil, cE_kill, cE_len, u32_one, u32_app1, u32_set, Nat.mul_one, gsSt, u32V, hu.one, hv.one, hu.len, hv.len, hv.sl, hB, j1, j2, i3, d1, d2, d3, w1, w2, w7, w8, w9, w10, w11, u2, u3, u4, ↓hold_pre, awayP, runOps, regK, step1, newK, genR, appR, obl, buildR, Value.cells, closeK, keepH, outV, retK, ret1, retC, RetV, Option.getD, runD, stepD, afterK, undef, simprocAttr, sxB, ↓sxD, sxE, sxTab]))
        exact ⟨q - 1, gsSt M u v (m + 2) (q - 1) (r + v1), by omega, le_sub ⟨rfl, rfl, rfl, rfl, rfl, trivial⟩ trivial rfl rfl rfl (keepLt0 _), _, _, rfl, h2, h3, by omega, rfl⟩
    · have d3 : decide (((r * 4294967296 + c2 : Nat) : Int) < ((q * v2 : Nat) : Int)) = false := by rw [decide_eq_false_iff_not]; exact fun h => hc (Int.ofNat_lt.1 h)
      (replace hb0 := true_and True); refine Go1.mk ?_; repeat' ((first | (with_reducible refine Go1.go ?_) | ((with_reducible first | refine brv_mk ?_ ?_ | refine gsplitD ?_ ?_ | refine gsplitG ?_ ?_) <;> intro h <;> (try simp only [Bool.not_eq_true', Bool.not_eq_false'] at h) <;> replace hb0 := h) | ((with_reducible refine isDraw [some 11, some 12, some 13, some 14, some 15, some 16, some 17, some 18, some 19, some 20, some 21, some 22, some 23, some 6] (by decide) ?_); refine draw_rule [(0, []), (1, []), (2, []), (3, []), (4, []), (5, []), (6, [3]), (7, [3]), (8, [3]), (9, [3]), (10, [3]), (11, [3]), (12, []), (13, [])] [[], [], [0, 1], [0, 1, 2], [0, 1, 2, 3], [0, 1, 2, 3, 4], [], [], [7], [6, 7, 8], [6, 7, 8, 9], [6, 7, 8, 9, 10], [0, 1, 2, 3, 4, 5, 6, 7, 8, 9, 10, 11], [0, 1, 2, 3, 4, 5, 6, 7, 8, 9, 10, 11, 12]] [11, 12, 13, 14, 15, 16, 17, 18, 19, 20, 21, 22] [] (by kernel_rfl) (by kernel_rfl) (by kernel_rfl) (by kernel_rfl) (by exact trivial) ?_) | ((with_reducible refine isDraw [some 24, some 25, some 26, some 27, some 28, some 29, some 30, some 31, some 32, some 33, some 34, some 35, some 36, some 37, some 38, some 39, some 7, some 8] (by decide) ?_); refine draw_rule [(0, []), (1, []), (2, []), (3, []), (4, []), (5, []), (6, []), (7, []), (8, [5]), (9, [5]), (10, [5]), (11, [5]), (12, [5]), (13, [5]), (14, [5]), (15, [5]), (16, [13]), (17, [])] [[], [], [], [2], [1, 2, 3], [1, 2, 3, 4], [1, 2, 3, 4, 5], [0, 1, 2, 3, 4, 5, 6], [], [], [], [10], [9, 10, 11], [9, 10, 11, 12], [9, 10, 11, 12, 13], [8, 9, 10, 11, 12, 13, 14], [0, 1, 2, 3, 4, 5, 6, 7], [0, 1, 2, 3, 4, 5, 6, 7, 8, 9, 10, 11, 12, 13, 14, 15, 16]] [24, 25, 26, 27, 28, 29, 30, 31, 32, 33, 34, 35, 36, 37, 38, 39, 7] [] (by kernel_rfl) (by kernel_rfl) (by kernel_rfl) (by kernel_rfl) (by exact trivial) ?_) | ((with_reducible refine isDraw [some 40, some 41, some 42, some 43, some 44, some 45, some 46, some 47, some 48, some 49, some 50, some 51, some 52, some 53, some 54, some 55, some 56, some 57, some 58, some 59, some 60, some 61] (by decide) ?_); refine draw_rule [(0, []), (1, []), (2, []), (3, []), (4, []), (5, []), (6, []), (7, []), (8, []), (9, []), (10, []), (11, [8]), (12, [8]), (13, [8]), (14, [8]), (15, [8]), (16, [8]), (17, [8]), (18, [8]), (19, [8]), (20, []), (21, [])] [[], [0], [0, 1], [0, 1, 2], [0, 1, 2], [0, 1, 2], [0, 1, 2, 5], [0, 1, 2, 4, 5, 6], [0, 1, 2, 4, 5, 6, 7], [0, 1, 2, 4, 5, 6, 7, 8], [0, 1, 2, 3, 4, 5, 6, 7, 8, 9], [0, 1, 2], [0, 1, 2, 11], [0, 1, 2], [0, 1, 2], [0, 1, 2, 14], [0, 1, 2, 13, 14, 15], [0, 1, 2, 13, 14, 15, 16], [0, 1, 2, 13, 14, 15, 16, 17], [0, 1, 2, 11, 12, 13, 14, 15, 16, 17, 18], [0, 1, 2, 3, 4, 5, 6, 7, 8, 9, 10, 11, 12, 13, 14, 15, 16, 17, 18, 19], [0, 1, 2, 3, 4, 5, 6, 7, 8, 9, 10, 11, 12, 13, 14, 15, 16, 17, 18, 19, 20]] [43, 44, 45, 46, 47, 48, 49, 50, 51, 52, 53, 54, 55, 56, 57, 58, 59] [] (by kernel_rfl) (by kernel_rfl) (by kernel_rfl) (by kernel_rfl) (by exact trivial) ?_) | (refine And.intro ?ob ?_; case ob => ((try simp only [sxO, ne_eq, maxLen] at *); omega)) | fail) <;> (try simp (config := { maxSteps := 1000000 }) only [hb0, cE_ment, hasK_nil, cE_kill, cE_len, u32_one, u32_app1, u32_set, Nat.mul_one, gsSt, u32V, hu.one, hv.one, hu.len, hv.len, hv.sl, hB, j1, j2, i3, d1, d3, w1, w2, w9, w10, w11, u2, u3, u4, ↓hold_pre, awayP, runOps, regK, step1, newK, genR, appR, obl, buildR, Value.cells, closeK, keepH, outV, retK, ret1, retC, RetV, Option.getD, runD, stepD, afterK, undef, simprocAttr, sxB, ↓sxD, sxE, sxTab]))
      exact hK q (by omega) hqd (guess_exit hcB hcC hrB htop hqr (by omega) (by omega))
end
end Go.Proofs.YtamghpnjdohnjaaDoor.Sx
namespace Go.Proofs.YtamghpnjdohnjaaDoor.Sx
open Go Go.RowKit
set_option linter.unusedVariables false
set_option linter.unusedSimpArgs false
set_option maxRecDepth 100000
set_option maxHeartbeats 8000000
attribute [local congr] fin_congr finG_congr stepG_congr step1_congr runOps_congr brv_congr obl_congr condK_congr LoopK_congr seqK_congr CutK_congr vc_congr DrawK_congr regK_congr CallK_congr AskK_congr newK_congr retC_congr ret1_congr retK_congr outV_congr closeK_congr genR_congr appR_congr finD_congr finGD_congr stepGD_congr stepD_congr CallK0_congr runD_congr okR_congr CallS_congr vcX_congr
attribute [local congr] Stop_congr
theorem mid_set (P C S : List Nat) (j i v : Nat) (hj : P.length = j) (hi : i < C.length) : (P ++ (C ++ S)).set (j + i) v = P ++ (C.set i v ++ S) := by
  subst hj
  rw [List.set_append_right _ _ (by omega), Nat.add_sub_cancel_left, List.set_append_left _ _ hi]
theorem mid_at (P C S : List Nat) (j i : Nat) (hj : P.length = j) (hi : i < C.length) : (P ++ (C ++ S))[j + i]? = some C[i] := by
  subst hj
  rw [List.getElem?_append_right (by omega), Nat.add_sub_cancel_left, List.getElem?_append_left hi, List.getElem?_eq_getElem hi]
theorem u32_mid {P C S : List Nat} {j i : Nat} (hj : P.length = j) (hi : i < C.length) : (cE u32V (P ++ (C ++ S)))[j + i]? = some (.ext (.int .u32 (C[i] : Int))) := by
  have := mid_at P C S j i hj hi
  unfold cE
  rw [List.getElem?_map, List.getElem?_map, this]; rfl
section
variable {M : Mem} {K : AV → Hp → Mem → Prop}
def rdH (P C S B : List Nat) : Hp := [(1013, 70, cE u32V (P ++ (C ++ S))), (2013, 70, cE u32V B)]
def rdSt (M : Mem) (P S B : List Nat) (j n q : Nat) (i b ca : Nat) (C : List Nat) : St := { env := [(19, .ext (.int .i64 (i : Int))), (18, .ext (.int .i64 (n : Int))), (17, .slo 2013 0 n 1), (8, .ext (.int .u64 (ca : Int))), (7, .ext (.int .u64 (b : Int))), (0, .slo 1013 j (n + 1) 1), (1, .slo 2013 0 n 1), (2, .ext (.int .u64 (q : Int)))], hp := rdH P C S B, M := M, kb := 3000, fx := [1013, 2013] }
def rbSt (M : Mem) (P S B : List Nat) (j n q : Nat) (i ca : Nat) (C : List Nat) : St := { env := [(74, .ext (.int .i64 (i : Int))), (73, .ext (.int .i64 (n : Int))), (72, .slo 2013 0 n 1), (8, .ext (.int .u64 (ca : Int))), (0, .slo 1013 j (n + 1) 1), (1, .slo 2013 0 n 1), (2, .ext (.int .u64 (q : Int)))], hp := rdH P C S B, M := M, kb := 3000, fx := [1013, 2013] }
theorem reduce_ok (P C S B : List Nat) (j n q : Nat) (hj : P.length = j) (hC : C.length = n + 1) (hB : B.length = n) (hn : n < 1000000000) (hj2 : j < 1000000000) (hoC : okN C) (hoB : okN B) (hq : q < 4294967296) (hV : 0 < valN B) (hq1 : valN C / valN B ≤ q) (hq2 : q ≤ valN C / valN B + 1)
    (hK : ∀ (C' : List Nat), C'.length = n + 1 → okN C' → valN C' + valN C / valN B * valN B = valN C → valN C' < valN B → K (.ext (.int .u32 ((valN C / valN B : Nat) : Int))) (rdH P C' S B) M) :
    CallS Tryd.prog 101 [.slo 1013 j (n + 1) 1, .slo 2013 0 n 1, .ext (.int .u64 (q : Int))] (rdH P C S B) M [] K := by
  refine inlS (cs := []) (f := 101) Tryd.mixed Tryd.func101 rfl (by kernel_rfl) 3000 rfl rfl ?_
  simp only [Tryd.f101]
  have e0 : ∀ D, keysH (rdH P D S B) = [1013, 2013] := fun D => rfl
  have e0C := e0 C
  (replace hb0 := true_and True); refine Go1.mk ?_; repeat' ((first | (with_reducible refine Go1.go ?_) | ((with_reducible first | refine brv_mk ?_ ?_ | refine gsplitD ?_ ?_ | refine gsplitG ?_ ?_) <;> intro h <;> (try simp only [Bool.not_eq_true', Bool.not_eq_false'] at h) <;> replace hb0 := h) | (refine And.intro ?ob ?_; case ob => ((try simp only [sxO, ne_eq, maxLen] at *); omega)) | fail) <;> (try simp (config := { maxSteps := 1000000 }) only [hb0, cE_ment, hasK_nil, cE_kill, cE_len, u32_one, u32_app1, u32_set, Nat.mul_one, e0C, rdH, ↓hold_pre, awayP, runOps, regK, step1, newK, genR, appR, obl, buildR, Value.cells, closeK, keepH, outV, retK, ret1, retC, RetV, Option.getD, runD, stepD, afterK, undef, simprocAttr, sxB, ↓sxD, sxE, sxTab]))
  refine ⟨fun d z => ∃ i b ca D, d = n - i ∧ i ≤ n ∧ D.length = n + 1 ∧ okN D ∧ b ≤ 1 ∧ ca < 4294967296 ∧ valN D + q * valN (B.take i) = valN C + wN i * (ca + b) ∧ z = rdSt M P S B j n q i b ca D,
    ⟨n, rdSt M P S B j n q 0 0 0 C, le_sub ⟨rfl, rfl, rfl, rfl, rfl, rfl, rfl, rfl, trivial⟩ ⟨rfl, rfl, trivial⟩ rfl rfl rfl (by simp [keepLt, rdSt, rdH, lkH]), ⟨0, 0, 0, C, rfl, by omega, hC, hoC, by omega, by omega, by simp [valN], rfl⟩⟩, ?_⟩
  rintro d z ⟨i, b, ca, D, rfl, hi, hD, hoD, hb, hca, hval, rfl⟩
  have hCL : valN C < wN (n + 1) := by have := valN_lt hoC; rwa [hC] at this
  have hBL : valN B ≤ wN (n + 1) := by have := valN_lt hoB; rw [hB] at this; exact Nat.le_trans (Nat.le_of_lt this) (wN_mono (by omega))
  by_cases hlt : i < n
  case pos =>
    have hiD : i < D.length := by omega
    have hiB : i < B.length := by omega
    have hat := u32_mid (S := S) hj hiD
    have hbt := u32_at hiB
    have hgy : B.getD i 0 = B[i] := by simp [List.getD, hiB]
    have hy := okN_at hoB hiB
    have hc0 := okN_at hoD hiD
    have hmy := mul_le hq hy
    generalize B[i] = y at *
    have w1 : IntKind.u64.wrap (y : Int) = (y : Int) := wrap64_id (by omega)
    have w2 : IntKind.u64.wrap ((q : Int) * (y : Int)) = ((q * y : Nat) : Int) := by rw [← Int.natCast_mul, wrap64_id (by omega)]
    have w3 : IntKind.u64.wrap (((q * y : Nat) : Int) + (ca : Int)) = ((q * y + ca : Nat) : Int) := by rw [← Int.natCast_add, wrap64_id (by omega)]
    have w4 := shr32 (q * y + ca)
    have w5 : IntKind.u64.wrap (D[i] : Int) = (D[i] : Int) := wrap64_id (by omega)
    have w6 : IntKind.u64.wrap ((D[i] : Int) - (b : Int)) = ((subW D[i] b : Nat) : Int) := wrap64_sub (by omega)
    have w7 := wrap32 (q * y + ca)
    have hp := Nat.mod_lt (q * y + ca) (show 0 < 4294967296 by decide)
    have hca2 : (q * y + ca) / 4294967296 < 4294967296 := by omega
    obtain ⟨s1, s2⟩ := subW_3 hc0 hp hb
    have st := red_step hiD hval y s1
    generalize hpl : (q * y + ca) % 4294967296 = pl at *
    have w8 : IntKind.u64.wrap (pl : Int) = (pl : Int) := wrap64_id (by omega)
    have w9 : IntKind.u64.wrap (((subW D[i] b : Nat) : Int) - (pl : Int)) = ((subW (subW D[i] b) pl : Nat) : Int) := wrap64_sub (by omega)
    have w10 := wrap32 (subW (subW D[i] b) pl)
    have w11 := shr63 (subW (subW D[i] b) pl)
    have w12 : IntKind.i64.wrap ((i : Int) + 1) = ((i + 1 : Nat) : Int) := succ_i (by omega)
    have hms := mid_set P D S j i (subW (subW D[i] b) pl % 4294967296) hj hiD
    have d0 : decide ((i : Int) < (n : Int)) = true := by simp; omega
    have d1 : (0 : Int) ≤ (i : Int) := by omega
    have d2 : (i : Int) < (n : Int) := by omega
    have d3 : (i : Int) < ((n + 1 : Nat) : Int) := by omega
    have d4 : (j + i < (P ++ (D ++ S)).length) = True := by simp; omega
    (replace hb0 := true_and True); refine Go1.mk ?_; repeat' ((first | (with_reducible refine Go1.go ?_) | ((with_reducible first | refine brv_mk ?_ ?_ | refine gsplitD ?_ ?_ | refine gsplitG ?_ ?_) <;> intro h <;> (try simp only [Bool.not_eq_true', Bool.not_eq_false'] at h) <;> replace hb0 := h) | (refine And.intro ?ob ?_; case ob => ((try simp only [sxO, ne_eq, maxLen] at *); omega)) | fail) <;> (try simp (config := { maxSteps := 1000000 }) only [hb0, cE_ment, hasK_nil, cE_kill, cE_len, u32_one, u32_app1, u32_set, Nat.mul_one, rdSt, rdH, hat, hbt, w1, w2, w3, w4, w5, w6, w7, w8, w9, w10, w11, w12, hms, d0, d1, d2, d3, d4, ↓hold_pre, awayP, runOps, regK, step1, newK, genR, appR, obl, buildR, Value.cells, closeK, keepH, outV, retK, ret1, retC, RetV, Option.getD, runD, stepD, afterK, undef, simprocAttr, sxB, ↓sxD, sxE, sxTab]))
    exact ⟨n - (i + 1), rdSt M P S B j n q (i + 1) _ _ (D.set i _), by omega, le_sub ⟨rfl, rfl, rfl, rfl, rfl, rfl, rfl, rfl, trivial⟩ ⟨rfl, rfl, trivial⟩ rfl rfl rfl (by simp [keepLt, rdSt, rdH, lkH]), i + 1, _, _, _, rfl, by omega, by rw [List.length_set]; exact hD, okN_set hoD (Nat.mod_lt _ (by decide)), s2, hca2, by rw [take_val, hgy]; exact st, rfl⟩
  obtain rfl : i = n := by omega
  rw [take_all (by omega)] at hval
  have hiD : i < D.length := by omega
  have hat := u32_mid (S := S) hj hiD
  have hc0 := okN_at hoD hiD
  have d0 : decide ((i : Int) < (i : Int)) = false := by simp
  have d1 : (0 : Int) ≤ (i : Int) := by omega
  have d3 : (i : Int) < ((i + 1 : Nat) : Int) := by omega
  have d4 : (j + i < (P ++ (D ++ S)).length) = True := by simp; omega
  have w5 : IntKind.u64.wrap (D[i] : Int) = (D[i] : Int) := wrap64_id (by omega)
  have w6 : IntKind.u64.wrap ((D[i] : Int) - (b : Int)) = ((subW D[i] b : Nat) : Int) := wrap64_sub (by omega)
  have w9 : IntKind.u64.wrap (((subW D[i] b : Nat) : Int) - (ca : Int)) = ((subW (subW D[i] b) ca : Nat) : Int) := wrap64_sub (by omega)
  have w10 := wrap32 (subW (subW D[i] b) ca)
  have w11 := shr63 (subW (subW D[i] b) ca)
  have hms := mid_set P D S j i (subW (subW D[i] b) ca % 4294967296) hj hiD
  obtain ⟨s1, s2⟩ := subW_3 hc0 hca hb
  have st := red_last hiD hval s1
  have ho2 := okN_set (i := i) hoD (Nat.mod_lt (subW (subW D[i] b) ca) (show 0 < 4294967296 by decide))
  have hl2 : (D.set i (subW (subW D[i] b) ca % 4294967296)).length = i + 1 := by rw [List.length_set]; exact hD
  have hlt2 := valN_lt ho2
  rw [hl2] at hlt2
  have w13 : IntKind.u32.wrap (q : Int) = (q : Int) := wrap32_id hq
  have hbb : subW (subW D[i] b) ca / 9223372036854775808 = 0 ∨ subW (subW D[i] b) ca / 9223372036854775808 = 1 := by omega
  rcases hbb with hb0 | hb1
  · have d5 : decide (((subW (subW D[i] b) ca / 9223372036854775808 : Nat) : Int) = 0) = true := by rw [hb0]; rfl
    rw [hb0] at st
    obtain ⟨r1, r2, r3⟩ := red_ok hlt2 hCL hV st hq1
    rw [← r1] at hK r2
    (replace hb0 := true_and True); refine Go1.mk ?_; repeat' ((first | (with_reducible refine Go1.go ?_) | ((with_reducible first | refine brv_mk ?_ ?_ | refine gsplitD ?_ ?_ | refine gsplitG ?_ ?_) <;> intro h <;> (try simp only [Bool.not_eq_true', Bool.not_eq_false'] at h) <;> replace hb0 := h) | (refine And.intro ?ob ?_; case ob => ((try simp only [sxO, ne_eq, maxLen] at *); omega)) | fail) <;> (try simp (config := { maxSteps := 1000000 }) only [hb0, cE_ment, hasK_nil, cE_kill, cE_len, u32_one, u32_app1, u32_set, Nat.mul_one, rdSt, rdH, hat, w5, w6, w9, w10, w11, w13, hms, d0, d1, d3, d4, d5, e0, ↓hold_pre, awayP, runOps, regK, step1, newK, genR, appR, obl, buildR, Value.cells, closeK, keepH, outV, retK, ret1, retC, RetV, Option.getD, runD, stepD, afterK, undef, simprocAttr, sxB, ↓sxD, sxE, sxTab]))
    exact hK _ hl2 ho2 r2 r3
  have d5 : decide (((subW (subW D[i] b) ca / 9223372036854775808 : Nat) : Int) = 0) = false := by rw [hb1]; rfl
  rw [hb1] at st
  generalize hD2 : D.set i (subW (subW D[i] b) ca % 4294967296) = D2 at *
  (replace hb0 := true_and True); refine Go1.mk ?_; repeat' ((first | (with_reducible refine Go1.go ?_) | ((with_reducible first | refine brv_mk ?_ ?_ | refine gsplitD ?_ ?_ | refine gsplitG ?_ ?_) <;> intro h <;> (try simp only [Bool.not_eq_true', Bool.not_eq_false'] at h) <;> replace hb0 := h) | (refine And.intro ?ob ?_; case ob => ((try simp only [sxO, ne_eq, maxLen] at *); omega)) | fail) <;> (try simp (config := { maxSteps := 1000000 }) only [hb0, cE_ment, hasK_nil, cE_kill, cE_len, u32_one, u32_app1, u32_set, Nat.mul_one, rdSt, rdH, hat, w5, w6, w9, w10, w11, w13, hms, d0, d1, d3, d4, d5, e0, ↓hold_pre, awayP, runOps, regK, step1, newK, genR, appR, obl, buildR, Value.cells, closeK, keepH, outV, retK, ret1, retC, RetV, Option.getD, runD, stepD, afterK, undef, simprocAttr, sxB, ↓sxD, sxE, sxTab]))
  refine ⟨fun d z => ∃ k c E, d = i - k ∧ k ≤ i ∧ E.length = i + 1 ∧ okN E ∧ c ≤ 1 ∧ valN E + wN k * c = valN D2 + valN (B.take k) ∧ z = rbSt M P S B j i q k c E,
    ⟨i, rbSt M P S B j i q 0 0 D2, le_sub ⟨rfl, rfl, rfl, rfl, rfl, rfl, rfl, trivial⟩ ⟨rfl, rfl, trivial⟩ rfl rfl rfl (by simp [keepLt, rbSt, rdH, lkH]), ⟨0, 0, D2, rfl, by omega, hl2, ho2, by omega, by simp [valN], rfl⟩⟩, ?_⟩
  clear hat w5 w6 w9 w10 w11 hms s1 s2 hb1 d5 hD2 hiD hoD hval hD hc0
  rintro d z ⟨k, c, E, rfl, hk, hE, hoE, hc, hval, rfl⟩
  by_cases hlt3 : k < i
  case pos =>
    have hkE : k < E.length := by omega
    have hkB : k < B.length := by omega
    have hat := u32_mid (S := S) hj hkE
    have hbt := u32_at hkB
    have hgy : B.getD k 0 = B[k] := by simp [List.getD, hkB]
    have hy := okN_at hoB hkB
    have hc0 := okN_at hoE hkE
    have st2 := back_step hkE hval B[k]
    generalize B[k] = y at *
    have w1 : IntKind.u64.wrap (y : Int) = (y : Int) := wrap64_id (by omega)
    have w5 : IntKind.u64.wrap (E[k] : Int) = (E[k] : Int) := wrap64_id (by omega)
    have w6 : IntKind.u64.wrap ((E[k] : Int) + (y : Int)) = ((E[k] + y : Nat) : Int) := by rw [← Int.natCast_add, wrap64_id (by omega)]
    have w7 : IntKind.u64.wrap (((E[k] + y : Nat) : Int) + (c : Int)) = ((E[k] + y + c : Nat) : Int) := by rw [← Int.natCast_add, wrap64_id (by omega)]
    have w10 := wrap32 (E[k] + y + c)
    have w11 := shr32 (E[k] + y + c)
    have w12 : IntKind.i64.wrap ((k : Int) + 1) = ((k + 1 : Nat) : Int) := succ_i (by omega)
    have hms := mid_set P E S j k ((E[k] + y + c) % 4294967296) hj hkE
    have d0 : decide ((k : Int) < (i : Int)) = true := by simp; omega
    have d1 : (0 : Int) ≤ (k : Int) := by omega
    have d2 : (k : Int) < (i : Int) := by omega
    have d3 : (k : Int) < ((i + 1 : Nat) : Int) := by omega
    have d4 : (j + k < (P ++ (E ++ S)).length) = True := by simp; omega
    have hc3 : (E[k] + y + c) / 4294967296 ≤ 1 := by omega
    (replace hb0 := true_and True); refine Go1.mk ?_; repeat' ((first | (with_reducible refine Go1.go ?_) | ((with_reducible first | refine brv_mk ?_ ?_ | refine gsplitD ?_ ?_ | refine gsplitG ?_ ?_) <;> intro h <;> (try simp only [Bool.not_eq_true', Bool.not_eq_false'] at h) <;> replace hb0 := h) | (refine And.intro ?ob ?_; case ob => ((try simp only [sxO, ne_eq, maxLen] at *); omega)) | fail) <;> (try simp (config := { maxSteps := 1000000 }) only [hb0, cE_ment, hasK_nil, cE_kill, cE_len, u32_one, u32_app1, u32_set, Nat.mul_one, rbSt, rdH, hat, hbt, w1, w5, w6, w7, w10, w11, w12, hms, d0, d1, d2, d3, d4, ↓hold_pre, awayP, runOps, regK, step1, newK, genR, appR, obl, buildR, Value.cells, closeK, keepH, outV, retK, ret1, retC, RetV, Option.getD, runD, stepD, afterK, undef, simprocAttr, sxB, ↓sxD, sxE, sxTab]))
    exact ⟨i - (k + 1), rbSt M P S B j i q (k + 1) _ (E.set k _), by omega, le_sub ⟨rfl, rfl, rfl, rfl, rfl, rfl, rfl, trivial⟩ ⟨rfl, rfl, trivial⟩ rfl rfl rfl (by simp [keepLt, rbSt, rdH, lkH]), k + 1, _, _, rfl, by omega, by rw [List.length_set]; exact hE, okN_set hoE (Nat.mod_lt _ (by decide)), hc3, by rw [take_val, hgy]; exact st2, rfl⟩
  obtain rfl : k = i := by omega
  rw [take_all (by omega)] at hval
  have hkE : k < E.length := by omega
  have hat := u32_mid (S := S) hj hkE
  have hc0 := okN_at hoE hkE
  have st2 := back_step hkE hval 0
  rw [Nat.mul_zero, Nat.add_zero, Nat.add_zero] at st2
  have d4 : (j + k < (P ++ (E ++ S)).length) = True := by simp; omega
  have w1 : IntKind.u32.wrap (c : Int) = (c : Int) := wrap32_id (by omega)
  have w2 : IntKind.u32.wrap ((E[k] : Int) + (c : Int)) = (((E[k] + c) % 4294967296 : Nat) : Int) := by rw [← Int.natCast_add, wrap32]
  have hms := mid_set P E S j k ((E[k] + c) % 4294967296) hj hkE
  have ho4 := okN_set (i := k) hoE (Nat.mod_lt (E[k] + c) (show 0 < 4294967296 by decide))
  have hl4 : (E.set k ((E[k] + c) % 4294967296)).length = k + 1 := by rw [List.length_set]; exact hE
  have hlt4 := valN_lt ho4
  rw [hl4] at hlt4
  obtain ⟨r1, r2, r3⟩ := red_back hV hBL hlt2 hlt4 st hq2 st2
  have hq0 : 1 ≤ q := by
    rcases Nat.eq_zero_or_pos q with h0 | h0
    · subst h0; omega
    · exact h0
  have w3 : IntKind.u64.wrap ((q : Int) - 1) = ((q - 1 : Nat) : Int) := by rw [wrap64_i (by omega) (by omega)]; omega
  have w4 : IntKind.u32.wrap ((q - 1 : Nat) : Int) = ((q - 1 : Nat) : Int) := wrap32_id (by omega)
  rw [← r1] at hK r2
  (replace hb0 := true_and True); refine Go1.mk ?_; repeat' ((first | (with_reducible refine Go1.go ?_) | ((with_reducible first | refine brv_mk ?_ ?_ | refine gsplitD ?_ ?_ | refine gsplitG ?_ ?_) <;> intro h <;> (try simp only [Bool.not_eq_true', Bool.not_eq_false'] at h) <;> replace hb0 := h) | (refine And.intro ?ob ?_; case ob => ((try simp only [sxO, ne_eq, maxLen] at *); omega)) | fail) <;> (try simp (config := { maxSteps := 1000000 }) only [hb0, cE_ment, hasK_nil, cE_kill, cE_len, u32_one, u32_app1, u32_set, Nat.mul_one, rbSt, rdH, hat, w1, w2, w3, w4, hms, d0, d1, d3, d4, e0, ↓hold_pre, awayP, runOps, regK, step1, newK, genR, appR, obl, buildR, Value.cells, closeK, keepH, outV, retK, ret1, retC, RetV, Option.getD, runD, stepD, afterK, undef, simprocAttr, sxB, ↓sxD, sxE, sxTab]))
  exact hK _ hl4 ho4 r2 r3
end
end Go.Proofs.YtamghpnjdohnjaaDoor.Sx
namespace Go.Proofs.YtamghpnjdohnjaaDoor.Sx
open Go Go.RowKit
set_option linter.unusedVariables false
set_option linter.unusedSimpArgs false
set_option maxRecDepth 100000
set_option maxHeartbeats 8000000
attribute [local congr] fin_congr finG_congr stepG_congr step1_congr runOps_congr brv_congr obl_congr condK_congr LoopK_congr seqK_congr CutK_congr vc_congr DrawK_congr regK_congr CallK_congr AskK_congr newK_congr retC_congr ret1_congr retK_congr outV_congr closeK_congr genR_congr appR_congr finD_congr finGD_congr stepGD_congr stepD_congr CallK0_congr runD_congr okR_congr CallS_congr vcX_congr
attribute [local congr] Stop_congr
def cmpN (x y : Nat) : Int := if x < y then -1 else if x = y then 0 else 1
theorem cmpN_lt {x y : Nat} (h : x < y) : cmpN x y = -1 := by unfold cmpN; rw [if_pos h]
theorem cmpN_gt {x y : Nat} (h : y < x) : cmpN x y = 1 := by unfold cmpN; rw [if_neg (by omega), if_neg (by omega)]
theorem len_lt {x y : Nat} (h : (ofN x).length < (ofN y).length) : x < y := by
  rcases Nat.lt_or_ge x y with h1 | h1
  · exact h1
  · exfalso
    have h2 := ofN_len_lt (n := x) (Nat.le_refl _)
    have h3 := ofN_len_le (n := y) (k := (ofN x).length) (by omega)
    omega
theorem len_mono {x y : Nat} (h : x ≤ y) : (ofN x).length ≤ (ofN y).length := by
  rcases Nat.lt_or_ge (ofN y).length (ofN x).length with h1 | h1
  · have := len_lt h1; omega
  · exact h1
theorem lt_at {x y i : Nat} (hx : i < (ofN x).length) (hy : i < (ofN y).length) (he : (ofN x).drop (i + 1) = (ofN y).drop (i + 1)) (h : (ofN x)[i] < (ofN y)[i]) : x < y := by
  have h1 := valN_cut (ofN x) (i := i) (by omega)
  have h2 := valN_cut (ofN y) (i := i) (by omega)
  rw [valN_drop hx, valN_ofN] at h1
  rw [valN_drop hy, valN_ofN, ← he] at h2
  have h3 := valN_lt (okN_take (okN_ofN x) i)
  rw [List.length_take, Nat.min_eq_left (by omega)] at h3
  generalize (ofN x)[i] = a at *
  generalize (ofN y)[i] = b at *
  generalize valN ((ofN x).drop (i + 1)) = R at *
  have h4 : wN i * (a + 1 + 4294967296 * R) ≤ wN i * (b + 4294967296 * R) := Nat.mul_le_mul_left _ (by omega)
  have h5 : wN i * (a + 1 + 4294967296 * R) = wN i * (a + 4294967296 * R) + wN i := by grind
  omega
theorem ofN_inj {x y : Nat} (h : ofN x = ofN y) : x = y := by
  rw [← valN_ofN x, ← valN_ofN y, h]
section
variable {M : Mem} {K : AV → Hp → Mem → Prop}
def cpSt (M : Mem) (u v : Value) (j : Nat) : St := { env := [(5, .ext (.int .i64 ((j : Int) - 1))), (0, .ext u), (1, .ext v)], hp := [], M := M, kb := 0, fx := [] }
theorem compare_ok (u v : Value) (x y : Nat) (hu : IsL M u32V u (ofN x)) (hv : IsL M u32V v (ofN y)) (hx : (ofN x).length < 100000000) (hy : (ofN y).length < 100000000) (hK : K (.ext (.int .i64 (cmpN x y))) [] M) : CallS Tryd.prog 60 [.ext u, .ext v] [] M [] K := by
  refine inlS (cs := []) Tryd.mixed Tryd.func60 rfl (by kernel_rfl) 0 rfl rfl ?_
  simp only [Tryd.f60]
  generalize hl : (ofN x).length = la at *
  generalize hm : (ofN y).length = lb at *
  by_cases hne : la = lb
  case neg =>
    have d1 : decide ((la : Int) = (lb : Int)) = false := by simp; omega
    by_cases hlt : la < lb
    · have d2 : decide ((la : Int) < (lb : Int)) = true := by simp; omega
      rw [cmpN_lt (len_lt (by omega))] at hK
      (replace hb0 := true_and True); refine Go1.mk ?_; repeat' ((first | (with_reducible refine Go1.go ?_) | ((with_reducible first | refine brv_mk ?_ ?_ | refine gsplitD ?_ ?_ | refine gsplitG ?_ ?_) <;> intro h <;> (try simp only [Bool.not_eq_true', Bool.not_eq_false'] at h) <;> replace hb0 := h) | ((with_reducible refine isDraw [some 23, some 24, some 25, some 26, some 27, some 28, some 29, some 30, some 31] (by decide) ?_); refine draw_rule [(0, []), (1, []), (2, []), (3, []), (4, [3]), (5, [3]), (6, [3]), (7, [3]), (8, [])] [[], [], [0, 1], [0, 1, 2], [], [], [4, 5], [4, 5, 6], [0, 1, 2, 3, 4, 5, 6, 7]] [23, 24, 25, 26, 27, 28, 29, 30] [] (by kernel_rfl) (by kernel_rfl) (by kernel_rfl) (by kernel_rfl) (by exact trivial) ?_) | ((with_reducible refine isDraw [some 32, some 33, some 34, some 35, some 36, some 37, some 38, some 39, some 40] (by decide) ?_); refine draw_rule [(0, []), (1, []), (2, []), (3, []), (4, [3]), (5, [3]), (6, [3]), (7, [3]), (8, [])] [[], [], [0, 1], [0, 1, 2], [], [], [4, 5], [4, 5, 6], [0, 1, 2, 3, 4, 5, 6, 7]] [32, 33, 34, 35, 36, 37, 38, 39] [] (by kernel_rfl) (by kernel_rfl) (by kernel_rfl) (by kernel_rfl) (by exact trivial) ?_) | (refine And.intro ?ob ?_; case ob => ((try simp only [sxO, ne_eq, maxLen] at *); omega)) | fail) <;> (try simp (config := { maxSteps := 1000000 }) only [hb0, cE_ment, hasK_nil, cE_kill, cE_len, u32_one, u32_app1, u32_set, Nat.mul_one, hu.one, hv.one, hu.len, hu.sl, hl, hv.len, hv.sl, hm, d1, d2, ↓hold_pre, awayP, runOps, regK, step1, newK, genR, appR, obl, buildR, Value.cells, closeK, keepH, outV, retK, ret1, retC, RetV, Option.getD, runD, stepD, afterK, undef, simprocAttr, sxB, ↓sxD, sxE, sxTab]))
      exact hK
    · have d2 : decide ((la : Int) < (lb : Int)) = false := by simp; omega
      rw [cmpN_gt (len_lt (by omega))] at hK
      (replace hb0 := true_and True); refine Go1.mk ?_; repeat' ((first | (with_reducible refine Go1.go ?_) | ((with_reducible first | refine brv_mk ?_ ?_ | refine gsplitD ?_ ?_ | refine gsplitG ?_ ?_) <;> intro h <;> (try simp only [Bool.not_eq_true', Bool.not_eq_false'] at h) <;> replace hb0 := h) | ((with_reducible refine isDraw [some 23, some 24, some 25, some 26, some 27, some 28, some 29, some 30, some 31] (by decide) ?_); refine draw_rule [(0, []), (1, []), (2, []), (3, []), (4, [3]), (5, [3]), (6, [3]), (7, [3]), (8, [])] [[], [], [0, 1], [0, 1, 2], [], [], [4, 5], [4, 5, 6], [0, 1, 2, 3, 4, 5, 6, 7]] [23, 24, 25, 26, 27, 28, 29, 30] [] (by kernel_rfl) (by kernel_rfl) (by kernel_rfl) (by kernel_rfl) (by exact trivial) ?_) | ((with_reducible refine isDraw [some 32, some 33, some 34, some 35, some 36, some 37, some 38, some 39, some 40] (by decide) ?_); refine draw_rule [(0, []), (1, []), (2, []), (3, []), (4, [3]), (5, [3]), (6, [3]), (7, [3]), (8, [])] [[], [], [0, 1], [0, 1, 2], [], [], [4, 5], [4, 5, 6], [0, 1, 2, 3, 4, 5, 6, 7]] [32, 33, 34, 35, 36, 37, 38, 39] [] (by kernel_rfl) (by kernel_rfl) (by kernel_rfl) (by kernel_rfl) (by exact trivial) ?_) | (refine And.intro ?ob ?_; case ob => ((try simp only [sxO, ne_eq, maxLen] at *); omega)) | fail) <;> (try simp (config := { maxSteps := 1000000 }) only [hb0, cE_ment, hasK_nil, cE_kill, cE_len, u32_one, u32_app1, u32_set, Nat.mul_one, hu.one, hv.one, hu.len, hu.sl, hl, hv.len, hv.sl, hm, d1, d2, ↓hold_pre, awayP, runOps, regK, step1, newK, genR, appR, obl, buildR, Value.cells, closeK, keepH, outV, retK, ret1, retC, RetV, Option.getD, runD, stepD, afterK, undef, simprocAttr, sxB, ↓sxD, sxE, sxTab]))
      exact hK
  subst hne
  have d1 : decide ((la : Int) = (la : Int)) = true := by simp
  have w1 : IntKind.i64.wrap ((la : Int) - 1) = (la : Int) - 1 := wrap_id (by omega) (by omega)
  (replace hb0 := true_and True); refine Go1.mk ?_; repeat' ((first | (with_reducible refine Go1.go ?_) | ((with_reducible first | refine brv_mk ?_ ?_ | refine gsplitD ?_ ?_ | refine gsplitG ?_ ?_) <;> intro h <;> (try simp only [Bool.not_eq_true', Bool.not_eq_false'] at h) <;> replace hb0 := h) | ((with_reducible refine isDraw [some 23, some 24, some 25, some 26, some 27, some 28, some 29, some 30, some 31] (by decide) ?_); refine draw_rule [(0, []), (1, []), (2, []), (3, []), (4, [3]), (5, [3]), (6, [3]), (7, [3]), (8, [])] [[], [], [0, 1], [0, 1, 2], [], [], [4, 5], [4, 5, 6], [0, 1, 2, 3, 4, 5, 6, 7]] [23, 24, 25, 26, 27, 28, 29, 30] [] (by kernel_rfl) (by kernel_rfl) (by kernel_rfl) (by kernel_rfl) (by exact trivial) ?_) | ((with_reducible refine isDraw [some 32, some 33, some 34, some 35, some 36, some 37, some 38, some 39, some 40] (by decide) ?_); refine draw_rule [(0, []), (1, []), (2, []), (3, []), (4, [3]), (5, [3]), (6, [3]), (7, [3]), (8, [])] [[], [], [0, 1], [0, 1, 2], [], [], [4, 5], [4, 5, 6], [0, 1, 2, 3, 4, 5, 6, 7]] [32, 33, 34, 35, 36, 37, 38, 39] [] (by kernel_rfl) (by kernel_rfl) (by kernel_rfl) (by kernel_rfl) (by exact trivial) ?_) | (refine And.intro ?ob ?_; case ob => ((try simp only [sxO, ne_eq, maxLen] at *); omega)) | fail) <;> (try simp (config := { maxSteps := 1000000 }) only [hb0, cE_ment, hasK_nil, cE_kill, cE_len, u32_one, u32_app1, u32_set, Nat.mul_one, hu.one, hv.one, hu.len, hu.sl, hl, hv.len, hv.sl, hm, d1, w1, ↓hold_pre, awayP, runOps, regK, step1, newK, genR, appR, obl, buildR, Value.cells, closeK, keepH, outV, retK, ret1, retC, RetV, Option.getD, runD, stepD, afterK, undef, simprocAttr, sxB, ↓sxD, sxE, sxTab]))
  refine ⟨fun m z => ∃ j, j = m ∧ j ≤ la ∧ (ofN x).drop j = (ofN y).drop j ∧ z = cpSt M u v j,
    ⟨la, cpSt M u v la, le_sub ⟨rfl, rfl, rfl, trivial⟩ trivial rfl rfl rfl (keepLt0 _), ⟨la, rfl, by omega, by rw [List.drop_of_length_le (by omega), List.drop_of_length_le (by omega)], rfl⟩⟩, ?_⟩
  rintro m z ⟨j, rfl, hj, hd, rfl⟩
  by_cases hlt : 0 < j
  case neg =>
    obtain rfl : j = 0 := by omega
    have d2 : decide ((0 : Int) ≤ ((0 : Nat) : Int) - 1) = false := by simp
    have e1 : x = y := ofN_inj (by simpa using hd)
    rw [show cmpN x y = 0 by unfold cmpN; rw [if_neg (by omega), if_pos e1]] at hK
    (replace hb0 := true_and True); refine Go1.mk ?_; repeat' ((first | (with_reducible refine Go1.go ?_) | ((with_reducible first | refine brv_mk ?_ ?_ | refine gsplitD ?_ ?_ | refine gsplitG ?_ ?_) <;> intro h <;> (try simp only [Bool.not_eq_true', Bool.not_eq_false'] at h) <;> replace hb0 := h) | ((with_reducible refine isDraw [some 23, some 24, some 25, some 26, some 27, some 28, some 29, some 30, some 31] (by decide) ?_); refine draw_rule [(0, []), (1, []), (2, []), (3, []), (4, [3]), (5, [3]), (6, [3]), (7, [3]), (8, [])] [[], [], [0, 1], [0, 1, 2], [], [], [4, 5], [4, 5, 6], [0, 1, 2, 3, 4, 5, 6, 7]] [23, 24, 25, 26, 27, 28, 29, 30] [] (by kernel_rfl) (by kernel_rfl) (by kernel_rfl) (by kernel_rfl) (by exact trivial) ?_) | ((with_reducible refine isDraw [some 32, some 33, some 34, some 35, some 36, some 37, some 38, some 39, some 40] (by decide) ?_); refine draw_rule [(0, []), (1, []), (2, []), (3, []), (4, [3]), (5, [3]), (6, [3]), (7, [3]), (8, [])] [[], [], [0, 1], [0, 1, 2], [], [], [4, 5], [4, 5, 6], [0, 1, 2, 3, 4, 5, 6, 7]] [32, 33, 34, 35, 36, 37, 38, 39] [] (by kernel_rfl) (by kernel_rfl) (by kernel_rfl) (by kernel_rfl) (by exact trivial) ?_) | (refine And.intro ?ob ?_; case ob => ((try simp only [sxO, ne_eq, maxLen] at *); omega)) | fail) <;> (try simp (config := { maxSteps := 1000000 }) only [hb0, cE_ment, hasK_nil, cE_kill, cE_len, u32_one, u32_app1, u32_set, Nat.mul_one, cpSt, hu.one, hv.one, d2, ↓hold_pre, awayP, runOps, regK, step1, newK, genR, appR, obl, buildR, Value.cells, closeK, keepH, outV, retK, ret1, retC, RetV, Option.getD, runD, stepD, afterK, undef, simprocAttr, sxB, ↓sxD, sxE, sxTab]))
    exact hK
  obtain ⟨i, rfl⟩ : ∃ i, j = i + 1 := ⟨j - 1, by omega⟩
  have ej : (((i + 1 : Nat) : Int) - 1) = (i : Int) := by omega
  have hil : i < (ofN x).length := by omega
  have him : i < (ofN y).length := by omega
  have hxi := hu.idx (P := Tryd.prog) (T := 70) tk70 tz70 (by omega) hil
  have hyi := hv.idx (P := Tryd.prog) (T := 70) tk70 tz70 (by omega) him
  rw [hl] at hxi
  rw [hm] at hyi
  have d2 : decide ((0 : Int) ≤ (i : Int)) = true := by simp
  have w10 : IntKind.i64.wrap ((i : Int) - 1) = (i : Int) - 1 := wrap_id (by omega) (by omega)
  have lt1 := lt_at hil him hd
  have lt2 := lt_at him hil hd.symm
  have hdx := List.drop_eq_getElem_cons hil
  have hdy := List.drop_eq_getElem_cons him
  generalize (ofN x)[i] = a at *
  generalize (ofN y)[i] = b at *
  by_cases hab : a = b
  · have d3 : decide ((a : Int) = (b : Int)) = true := by simp; omega
    (replace hb0 := true_and True); refine Go1.mk ?_; repeat' ((first | (with_reducible refine Go1.go ?_) | ((with_reducible first | refine brv_mk ?_ ?_ | refine gsplitD ?_ ?_ | refine gsplitG ?_ ?_) <;> intro h <;> (try simp only [Bool.not_eq_true', Bool.not_eq_false'] at h) <;> replace hb0 := h) | ((with_reducible refine isDraw [some 23, some 24, some 25, some 26, some 27, some 28, some 29, some 30, some 31] (by decide) ?_); refine draw_rule [(0, []), (1, []), (2, []), (3, []), (4, [3]), (5, [3]), (6, [3]), (7, [3]), (8, [])] [[], [], [0, 1], [0, 1, 2], [], [], [4, 5], [4, 5, 6], [0, 1, 2, 3, 4, 5, 6, 7]] [23, 24, 25, 26, 27, 28, 29, 30] [] (by kernel_rfl) (by kernel_rfl) (by kernel_rfl) (by kernel_rfl) (by exact trivial) ?_) | ((with_reducible refine isDraw [some 32, some 33, some 34, some 35, some 36, some 37, some 38, some 39, some 40] (by decide) ?_); refine draw_rule [(0, []), (1, []), (2, []), (3, []), (4, [3]), (5, [3]), (6, [3]), (7, [3]), (8, [])] [[], [], [0, 1], [0, 1, 2], [], [], [4, 5], [4, 5, 6], [0, 1, 2, 3, 4, 5, 6, 7]] [32, 33, 34, 35, 36, 37, 38, 39] [] (by kernel_rfl) (by kernel_rfl) (by kernel_rfl) (by kernel_rfl) (by exact trivial) ?_) | (refine And.intro ?ob ?_; case ob => ((try simp only [sxO, ne_eq, maxLen] at *); omega)) | fail) <;> (try simp (config := { maxSteps := 1000000 }) only [hb0, cE_ment, hasK_nil, cE_kill, cE_len, u32_one, u32_app1, u32_set, Nat.mul_one, cpSt, u32V, ej, hu.one, hv.one, hxi, hyi, d2, d3, w10, ↓hold_pre, awayP, runOps, regK, step1, newK, genR, appR, obl, buildR, Value.cells, closeK, keepH, outV, retK, ret1, retC, RetV, Option.getD, runD, stepD, afterK, undef, simprocAttr, sxB, ↓sxD, sxE, sxTab]))
    exact ⟨i, cpSt M u v i, by omega, le_sub ⟨rfl, rfl, rfl, trivial⟩ trivial rfl rfl rfl (keepLt0 _), i, rfl, by omega, by rw [hdx, hdy, hd, hab], rfl⟩
  · have d3 : decide ((a : Int) = (b : Int)) = false := by simp; omega
    by_cases hlt2 : a < b
    · have d4 : decide ((a : Int) < (b : Int)) = true := by simp; omega
      rw [cmpN_lt (lt1 hlt2)] at hK
      (replace hb0 := true_and True); refine Go1.mk ?_; repeat' ((first | (with_reducible refine Go1.go ?_) | ((with_reducible first | refine brv_mk ?_ ?_ | refine gsplitD ?_ ?_ | refine gsplitG ?_ ?_) <;> intro h <;> (try simp only [Bool.not_eq_true', Bool.not_eq_false'] at h) <;> replace hb0 := h) | ((with_reducible refine isDraw [some 23, some 24, some 25, some 26, some 27, some 28, some 29, some 30, some 31] (by decide) ?_); refine draw_rule [(0, []), (1, []), (2, []), (3, []), (4, [3]), (5, [3]), (6, [3]), (7, [3]), (8, [])] [[], [], [0, 1], [0, 1, 2], [], [], [4, 5], [4, 5, 6], [0, 1, 2, 3, 4, 5, 6, 7]] [23, 24, 25, 26, 27, 28, 29, 30] [] (by kernel_rfl) (by kernel_rfl) (by kernel_rfl) (by kernel_rfl) (by exact trivial) ?_) | ((with_reducible refine isDraw [some 32, some 33, some 34, some 35, some 36, some 37, some 38, some 39, some 40] (by decide) ?_); refine draw_rule [(0, []), (1, []), (2, []), (3, []), (4, [3]), (5, [3]), (6, [3]), (7, [3]), (8, [])] [[], [], [0, 1], [0, 1, 2], [], [], [4, 5], [4, 5, 6], [0, 1, 2, 3, 4, 5, 6, 7]] [32, 33, 34, 35, 36, 37, 38, 39] [] (by kernel_rfl) (by kernel_rfl) (by kernel_rfl) (by kernel_rfl) (by exact trivial) ?_) | (refine And.intro ?ob ?_; case ob => ((try simp only [sxO, ne_eq, maxLen] at *); omega)) | fail) <;> (try simp (config := { maxSteps := 1000000 }) only [hb0, cE_ment, hasK_nil, cE_kill, cE_len, u32_one, u32_app1, u32_set, Nat.mul_one, cpSt, u32V, ej, hu.one, hv.one, hxi, hyi, d2, d3, d4, w10, ↓hold_pre, awayP, runOps, regK, step1, newK, genR, appR, obl, buildR, Value.cells, closeK, keepH, outV, retK, ret1, retC, RetV, Option.getD, runD, stepD, afterK, undef, simprocAttr, sxB, ↓sxD, sxE, sxTab]))
      exact hK
    · have d4 : decide ((a : Int) < (b : Int)) = false := by simp; omega
      rw [cmpN_gt (lt2 (by omega))] at hK
      (replace hb0 := true_and True); refine Go1.mk ?_; repeat' ((first | (with_reducible refine Go1.go ?_) | ((with_reducible first | refine brv_mk ?_ ?_ | refine gsplitD ?_ ?_ | refine gsplitG ?_ ?_) <;> intro h <;> (try simp only [Bool.not_eq_true', Bool.not_eq_false'] at h) <;> replace hb0 := h) | ((with_reducible refine isDraw [some 23, some 24, some 25, some 26, some 27, some 28, some 29, some 30, some 31] (by decide) ?_); refine draw_rule [(0, []), (1, []), (2, []), (3, []), (4, [3]), (5, [3]), (6, [3]), (7, [3]), (8, [])] [[], [], [0, 1], [0, 1, 2], [], [], [4, 5], [4, 5, 6], [0, 1, 2, 3, 4, 5, 6, 7]] [23, 24, 25, 26, 27, 28, 29, 30] [] (by kernel_rfl) (by kernel_rfl) (by kernel_rfl) (by kernel_rfl) (by exact trivial) ?_) | ((with_reducible refine isDraw [some 32, some 33, some 34, some 35, some 36, some 37, some 38, some 39, some 40] (by decide) ?_); refine draw_rule [(0, []), (1, []), (2, []), (3, []), (4, [3]), (5, [3]), (6, [3]), (7, [3]), (8, [])] [[], [], [0, 1], [0, 1, 2], [], [], [4, 5], [4, 5, 6], [0, 1, 2, 3, 4, 5, 6, 7]] [32, 33, 34, 35, 36, 37, 38, 39] [] (by kernel_rfl) (by kernel_rfl) (by kernel_rfl) (by kernel_rfl) (by exact trivial) ?_) | (refine And.intro ?ob ?_; case ob => ((try simp only [sxO, ne_eq, maxLen] at *); omega)) | fail) <;> (try simp (config := { maxSteps := 1000000 }) only [hb0, cE_ment, hasK_nil, cE_kill, cE_len, u32_one, u32_app1, u32_set, Nat.mul_one, cpSt, u32V, ej, hu.one, hv.one, hxi, hyi, d2, d3, d4, w10, ↓hold_pre, awayP, runOps, regK, step1, newK, genR, appR, obl, buildR, Value.cells, closeK, keepH, outV, retK, ret1, retC, RetV, Option.getD, runD, stepD, afterK, undef, simprocAttr, sxB, ↓sxD, sxE, sxTab]))
      exact hK
def blen (n : Nat) : Nat := if h : n = 0 then 0 else blen (n / 2) + 1
termination_by n
decreasing_by exact Nat.div_lt_self (by omega) (by decide)
theorem blen_zero : blen 0 = 0 := by rw [blen]; simp
theorem blen_pos {n : Nat} (h : n ≠ 0) : blen n = blen (n / 2) + 1 := by rw [blen]; simp [h]
theorem blen_shift : ∀ (k n : Nat), 2 ^ k ≤ n → blen n = blen (n / 2 ^ k) + k
  | 0, n, _ => by simp
  | k + 1, n, h => by
    have hp := Nat.two_pow_pos k
    rw [Nat.pow_succ] at h
    rw [blen_pos (by omega), blen_shift k (n / 2) (by omega), Nat.div_div_eq_div_mul, Nat.pow_succ, Nat.mul_comm 2]
    omega
theorem blen_iff : ∀ (k n : Nat), blen n ≤ k ↔ n < 2 ^ k
  | 0, n => by
    constructor
    · intro h
      rcases Nat.eq_zero_or_pos n with h1 | h1
      · subst h1; decide
      · rw [blen_pos (by omega)] at h; omega
    · intro h
      have : n = 0 := by simpa using h
      subst this; rw [blen_zero]; exact Nat.le_refl _
  | k + 1, n => by
    by_cases h : n = 0
    · subst h; rw [blen_zero]; simp [Nat.two_pow_pos]
    · rw [blen_pos h, Nat.pow_succ]
      have := blen_iff k (n / 2)
      constructor
      · intro h1; have := this.1 (by omega); omega
      · intro h1; have := this.2 (by omega); omega
def bl8 : List Nat := [0, 1, 2, 2] ++ List.replicate 4 3 ++ List.replicate 8 4 ++ List.replicate 16 5 ++ List.replicate 32 6 ++ List.replicate 64 7 ++ List.replicate 128 8
theorem bl8_ok {i : Nat} (h : i < 256) : bl8.getD i 0 = blen i := by
  have key : ∀ k, k ≤ 8 → ∀ i, 2 ^ k ≤ 2 * i → i < 2 ^ k → blen i = k := fun k _ i h1 h2 => by
    have h3 := (blen_iff k i).2 h2
    rcases Nat.lt_or_ge (blen i) k with h4 | h4
    · exfalso
      have h5 := (blen_iff (k - 1) i).1 (by omega)
      have : k = (k - 1) + 1 := by omega
      rw [this, Nat.pow_succ] at h1
      omega
    · omega
  have tab : ∀ i, i < 256 → bl8.getD i 0 ≤ 8 ∧ (i = 0 → bl8.getD i 0 = 0) ∧ (i ≠ 0 → 2 ^ (bl8.getD i 0) ≤ 2 * i ∧ i < 2 ^ (bl8.getD i 0)) := by decide +kernel
  obtain ⟨t1, t2, t3⟩ := tab i h
  by_cases h0 : i = 0
  · rw [t2 h0, h0, blen_zero]
  · exact (key _ t1 i (t3 h0).1 (t3 h0).2).symm
theorem wrap8 (n : Nat) : IntKind.u8.wrap (n : Int) = ((n % 256 : Nat) : Int) := by
  show (n : Int) % 256 = _
  omega
theorem shr16_32 (a : Nat) : (a : Int).fdiv (2 ^ (min 16 IntKind.u32.bits)) = ((a / 65536 : Nat) : Int) := by
  have h1 : min 16 IntKind.u32.bits = 16 := rfl
  rw [h1, Int.fdiv_eq_ediv_of_nonneg _ (by decide)]; omega
theorem shr8_32 (a : Nat) : (a : Int).fdiv (2 ^ (min 8 IntKind.u32.bits)) = ((a / 256 : Nat) : Int) := by
  have h1 : min 8 IntKind.u32.bits = 8 := rfl
  rw [h1, Int.fdiv_eq_ediv_of_nonneg _ (by decide)]; omega
def Tab8 (T : ByteArray) : Prop := T.size = 256 ∧ ∀ i, i < 256 → byteAt T i = (bl8.getD i 0 : Int)
theorem len_fin (T : ByteArray) (x n e : Nat) (E : Int) (hE : E = (e : Int)) (he : e ≤ 56) (hn : n < 256) (hx : blen x = blen n + e) (hT : Tab8 T) (hK : K (.ext (.int .i64 (blen x : Int))) [] M) :
    ((0 : Int) ≤ IntKind.u8.wrap (n : Int) ∧ IntKind.u8.wrap (n : Int) < (T.size : Int)) ∧ K (.ext (.int .i64 (IntKind.i64.wrap (E + IntKind.i64.wrap (byteAt T (IntKind.u8.wrap (n : Int)).toNat))))) [] M := by
  have h1 : blen n ≤ 8 := (blen_iff 8 n).2 (by omega)
  rw [wrap8, Nat.mod_eq_of_lt hn, hT.1, Int.toNat_natCast, hT.2 n hn, bl8_ok hn, hE, wrap_id (x := (blen n : Int)) (by omega) (by omega), wrap_id (by omega) (by omega), ← Int.natCast_add, Nat.add_comm, ← hx]
  exact ⟨⟨by omega, by omega⟩, hK⟩
theorem len32_ok (x : Nat) (hx : x < 4294967296) (hK : K (.ext (.int .i64 (blen x : Int))) [] M) : CallS Tryd.prog 116 [.ext (.int .u32 (x : Int))] [] M [] K := by
  refine inlS (cs := []) Tryd.mixed Tryd.func116 rfl (by kernel_rfl) 0 rfl rfl ?_
  simp only [Tryd.f116]
  have w1 := shr16_32 x
  have w2 := shr8_32 x
  have w3 := shr8_32 (x / 65536)
  have w4 : IntKind.i64.wrap 24 = 24 := rfl
  have w5 : IntKind.i64.wrap 8 = 8 := rfl
  have b1 : 65536 ≤ x → blen x = blen (x / 65536) + 16 := fun h => blen_shift 16 x h
  have b2 : 256 ≤ x → blen x = blen (x / 256) + 8 := fun h => blen_shift 8 x h
  have b3 : 256 ≤ x / 65536 → blen (x / 65536) = blen (x / 65536 / 256) + 8 := fun h => blen_shift 8 (x / 65536) h
  by_cases h1 : 65536 ≤ x
  · have d1 : decide ((65536 : Int) ≤ (x : Int)) = true := by simp; omega
    by_cases h2 : 256 ≤ x / 65536
    · have d2 : decide ((256 : Int) ≤ ((x / 65536 : Nat) : Int)) = true := by rw [decide_eq_true_eq]; omega
      (replace hb0 := true_and True); refine Go1.mk ?_; repeat' ((first | (with_reducible refine Go1.go ?_) | ((with_reducible first | refine brv_mk ?_ ?_ | refine gsplitD ?_ ?_ | refine gsplitG ?_ ?_) <;> intro h <;> (try simp only [Bool.not_eq_true', Bool.not_eq_false'] at h) <;> replace hb0 := h) | (refine And.intro ?ob ?_; case ob => ((try simp only [sxO, ne_eq, maxLen] at *); omega)) | fail) <;> (try simp (config := { maxSteps := 1000000 }) only [hb0, d1, d2, w1, w3, w4, ↓hold_pre, awayP, runOps, regK, step1, newK, genR, appR, obl, buildR, Value.cells, closeK, keepH, outV, retK, ret1, retC, RetV, Option.getD, runD, stepD, afterK, undef, simprocAttr, sxB, ↓sxD, sxE, sxTab]))
      refine len_fin _ x _ 24 24 rfl (by omega) (by omega) (by rw [b1 (by omega)]; have := b3 (by omega); omega) ?_ hK
      exact ⟨by decide +kernel, by decide +kernel⟩
    · have d2 : decide ((256 : Int) ≤ ((x / 65536 : Nat) : Int)) = false := by rw [decide_eq_false_iff_not]; omega
      (replace hb0 := true_and True); refine Go1.mk ?_; repeat' ((first | (with_reducible refine Go1.go ?_) | ((with_reducible first | refine brv_mk ?_ ?_ | refine gsplitD ?_ ?_ | refine gsplitG ?_ ?_) <;> intro h <;> (try simp only [Bool.not_eq_true', Bool.not_eq_false'] at h) <;> replace hb0 := h) | (refine And.intro ?ob ?_; case ob => ((try simp only [sxO, ne_eq, maxLen] at *); omega)) | fail) <;> (try simp (config := { maxSteps := 1000000 }) only [hb0, d1, d2, w1, w4, ↓hold_pre, awayP, runOps, regK, step1, newK, genR, appR, obl, buildR, Value.cells, closeK, keepH, outV, retK, ret1, retC, RetV, Option.getD, runD, stepD, afterK, undef, simprocAttr, sxB, ↓sxD, sxE, sxTab]))
      refine len_fin _ x _ 16 16 rfl (by omega) (by omega) (b1 (by omega)) ?_ hK
      exact ⟨by decide +kernel, by decide +kernel⟩
  · have d1 : decide ((65536 : Int) ≤ (x : Int)) = false := by simp; omega
    by_cases h2 : 256 ≤ x
    · have d2 : decide ((256 : Int) ≤ (x : Int)) = true := by rw [decide_eq_true_eq]; omega
      (replace hb0 := true_and True); refine Go1.mk ?_; repeat' ((first | (with_reducible refine Go1.go ?_) | ((with_reducible first | refine brv_mk ?_ ?_ | refine gsplitD ?_ ?_ | refine gsplitG ?_ ?_) <;> intro h <;> (try simp only [Bool.not_eq_true', Bool.not_eq_false'] at h) <;> replace hb0 := h) | (refine And.intro ?ob ?_; case ob => ((try simp only [sxO, ne_eq, maxLen] at *); omega)) | fail) <;> (try simp (config := { maxSteps := 1000000 }) only [hb0, d1, d2, w2, w5, ↓hold_pre, awayP, runOps, regK, step1, newK, genR, appR, obl, buildR, Value.cells, closeK, keepH, outV, retK, ret1, retC, RetV, Option.getD, runD, stepD, afterK, undef, simprocAttr, sxB, ↓sxD, sxE, sxTab]))
      refine len_fin _ x _ 8 8 rfl (by omega) (by omega) (b2 (by omega)) ?_ hK
      exact ⟨by decide +kernel, by decide +kernel⟩
    · have d2 : decide ((256 : Int) ≤ (x : Int)) = false := by rw [decide_eq_false_iff_not]; omega
      (replace hb0 := true_and True); refine Go1.mk ?_; repeat' ((first | (with_reducible refine Go1.go ?_) | ((with_reducible first | refine brv_mk ?_ ?_ | refine gsplitD ?_ ?_ | refine gsplitG ?_ ?_) <;> intro h <;> (try simp only [Bool.not_eq_true', Bool.not_eq_false'] at h) <;> replace hb0 := h) | (refine And.intro ?ob ?_; case ob => ((try simp only [sxO, ne_eq, maxLen] at *); omega)) | fail) <;> (try simp (config := { maxSteps := 1000000 }) only [hb0, d1, d2, ↓hold_pre, awayP, runOps, regK, step1, newK, genR, appR, obl, buildR, Value.cells, closeK, keepH, outV, retK, ret1, retC, RetV, Option.getD, runD, stepD, afterK, undef, simprocAttr, sxB, ↓sxD, sxE, sxTab]))
      refine len_fin _ x _ 0 0 rfl (by omega) (by omega) rfl ?_ hK
      exact ⟨by decide +kernel, by decide +kernel⟩
theorem lead32_ok (x : Nat) (hx : x < 4294967296) (hK : K (.ext (.int .i64 ((32 - blen x : Nat) : Int))) [] M) : CallS Tryd.prog 99 [.ext (.int .u32 (x : Int))] [] M [] K := by
  refine inlS (cs := []) Tryd.mixed Tryd.func99 rfl (by kernel_rfl) 0 rfl rfl ?_
  simp only [Tryd.f99]
  have h1 := (blen_iff 32 x).2 (by omega)
  have w1 : IntKind.i64.wrap (32 - (blen x : Int)) = ((32 - blen x : Nat) : Int) := by rw [wrap_id (by omega) (by omega)]; omega
  (replace hb0 := true_and True); refine Go1.mk ?_; repeat' ((first | (with_reducible refine Go1.go ?_) | ((with_reducible first | refine brv_mk ?_ ?_ | refine gsplitD ?_ ?_ | refine gsplitG ?_ ?_) <;> intro h <;> (try simp only [Bool.not_eq_true', Bool.not_eq_false'] at h) <;> replace hb0 := h) | ((first | (with_reducible refine isCall (f := 116) ?_; refine callA_nil (by kernel_rfl) ?_) | (with_reducible refine isCall0 (f := 116) ?_; refine callA0_nil (by kernel_rfl) ?_)); refine (len32_ok x hx ?_)) | (refine And.intro ?ob ?_; case ob => ((try simp only [sxO, ne_eq, maxLen] at *); omega)) | fail) <;> (try simp (config := { maxSteps := 1000000 }) only [hb0, w1, ↓hold_pre, awayP, runOps, regK, step1, newK, genR, appR, obl, buildR, Value.cells, closeK, keepH, outV, retK, ret1, retC, RetV, Option.getD, runD, stepD, afterK, undef, simprocAttr, sxB, ↓sxD, sxE, sxTab]))
  exact hK
end
end Go.Proofs.YtamghpnjdohnjaaDoor.Sx
namespace Go.Proofs.YtamghpnjdohnjaaDoor.Sx
open Go Go.RowKit
set_option linter.unusedVariables false
set_option linter.unusedSimpArgs false
set_option maxRecDepth 100000
set_option maxHeartbeats 8000000
attribute [local congr] fin_congr finG_congr stepG_congr step1_congr runOps_congr brv_congr obl_congr condK_congr LoopK_congr seqK_congr CutK_congr vc_congr DrawK_congr regK_congr CallK_congr AskK_congr newK_congr retC_congr ret1_congr retK_congr outV_congr closeK_congr genR_congr appR_congr finD_congr finGD_congr stepGD_congr stepD_congr CallK0_congr runD_congr okR_congr CallS_congr vcX_congr
attribute [local congr] Stop_congr
theorem nrm_plain {y : Nat} (hy : 1 < (ofN y).length) : ∃ s, s = 32 - blen ((ofN y)[(ofN y).length - 1]'(by omega)) ∧ s < 32 ∧ (ofN (y * 2 ^ s)).length = (ofN y).length ∧ ∀ h : (ofN y).length - 1 < (ofN (y * 2 ^ s)).length, 2147483648 ≤ (ofN (y * 2 ^ s))[(ofN y).length - 1] := by
  have ht := trimmed_ofN y (by omega)
  have ho := ofN_ok_at (n := y) (show (ofN y).length - 1 < (ofN y).length by omega)
  have hsp := valN_cut (ofN y) (show (ofN y).length - 1 ≤ (ofN y).length by omega)
  rw [valN_drop (show (ofN y).length - 1 < (ofN y).length by omega), List.drop_of_length_le (by omega), valN_ofN] at hsp
  have hr := valN_lt (okN_take (okN_ofN y) ((ofN y).length - 1))
  rw [List.length_take, Nat.min_eq_left (by omega)] at hr
  generalize (ofN y)[(ofN y).length - 1] = t at *
  generalize valN ((ofN y).take ((ofN y).length - 1)) = R at *
  simp only [valN, Nat.mul_zero, Nat.add_zero] at hsp
  generalize hL : (ofN y).length = L at *
  refine ⟨32 - blen t, rfl, ?_, ?_, ?_⟩
  · have := (blen_iff 0 t).1
    rcases Nat.eq_zero_or_pos (blen t) with h | h
    · have := this (by omega); simp at this; omega
    · have := (blen_iff 32 t).2 (by omega); omega
  all_goals
    have hb1 : t < 2 ^ blen t := (blen_iff (blen t) t).1 (Nat.le_refl _)
    have hb32 := (blen_iff 32 t).2 (by omega)
    have hbp : 0 < blen t := by
      rcases Nat.eq_zero_or_pos (blen t) with h | h
      · have := (blen_iff 0 t).1 (by omega); simp at this; omega
      · exact h
    have hb2 : 2 ^ (blen t - 1) ≤ t := by
      rcases Nat.lt_or_ge t (2 ^ (blen t - 1)) with h | h
      · have := (blen_iff (blen t - 1) t).2 h; omega
      · exact h
    have hs1 : 2 ^ blen t * 2 ^ (32 - blen t) = 4294967296 := by rw [← Nat.pow_add, show blen t + (32 - blen t) = 32 by omega]
    have hs2 : 2 ^ (blen t - 1) * 2 ^ (32 - blen t) = 2147483648 := by rw [← Nat.pow_add, show blen t - 1 + (32 - blen t) = 31 by omega]
    have hps := Nat.two_pow_pos (32 - blen t)
    generalize hp2 : 2 ^ (32 - blen t) = p2 at *
    have hwp := wN_pos (L - 1)
    have hwL : wN L = 4294967296 * wN (L - 1) := by rw [← wN_succ, show L - 1 + 1 = L by omega]
    have hup : y * p2 < wN L := by
      have a1 : (t + 1) * p2 ≤ 4294967296 := by rw [← hs1]; exact Nat.mul_le_mul_right p2 hb1
      have a2 : y < wN (L - 1) * (t + 1) := by rw [Nat.mul_add, Nat.mul_one]; omega
      have a3 : y * p2 < wN (L - 1) * (t + 1) * p2 := Nat.mul_lt_mul_of_pos_right a2 hps
      have a4 := Nat.mul_le_mul_left (wN (L - 1)) a1
      rw [← Nat.mul_assoc] at a4
      rw [hwL, Nat.mul_comm 4294967296]
      omega
    have hlow : wN (L - 1) * 2147483648 ≤ y * p2 := by
      have a1 : 2147483648 ≤ t * p2 := by rw [← hs2]; exact Nat.mul_le_mul_right p2 hb2
      have a2 := Nat.mul_le_mul_left (wN (L - 1)) a1
      have a3 : wN (L - 1) * t * p2 ≤ y * p2 := Nat.mul_le_mul_right p2 (by omega)
      rw [← Nat.mul_assoc] at a2
      omega
  · have h1 := ofN_len_le hup
    have h2 := len_mono (Nat.le_mul_of_pos_right y hps)
    rw [hL] at h2
    omega
  · intro h
    have h1 := ofN_len_le hup
    have hsp2 := valN_cut (ofN (y * p2)) (show L - 1 ≤ (ofN (y * p2)).length by omega)
    rw [valN_drop h, List.drop_of_length_le (by omega), valN_ofN] at hsp2
    have hr2 := valN_lt (okN_take (okN_ofN (y * p2)) (L - 1))
    rw [List.length_take, Nat.min_eq_left (by omega)] at hr2
    generalize (ofN (y * p2))[L - 1] = t2 at *
    generalize valN ((ofN (y * p2)).take (L - 1)) = R2 at *
    simp only [valN, Nat.mul_zero, Nat.add_zero] at hsp2
    rcases Nat.lt_or_ge t2 2147483648 with h3 | h3
    · exfalso
      have := Nat.mul_le_mul_left (wN (L - 1)) (show t2 + 1 ≤ 2147483648 by omega)
      rw [Nat.mul_add, Nat.mul_one] at this
      omega
    · exact h3
structure DivI (V j m L : Nat) (U0 U Q : List Nat) : Prop where
  lu : U.length = L
  ou : okN U
  lq : Q.length = m
  oq : okN Q
  lt : valN (U.drop j) < V
  tk : U.take j = U0.take j
  eq : valN (U0.drop j) = V * valN (Q.drop j) + valN (U.drop j)
theorem div_start {V m L n : Nat} {U0 : List Nat} (hl : U0.length = L) (ho : okN U0) (hL : m + n = L) (h : valN U0 < V * wN m) : DivI V m m L U0 U0 (List.replicate m 0) := by
  refine ⟨hl, ho, by simp, okN_rep m, ?_, rfl, ?_⟩
  · rw [valN_drop_div ho (by omega), Nat.div_lt_iff_lt_mul (wN_pos m)]; exact h
  · rw [List.drop_of_length_le (by simp : (List.replicate m 0).length ≤ m)]; simp [valN]
theorem div_part {V i m L n : Nat} {U0 U Q : List Nat} (h : DivI V (i + 1) m L U0 U Q) (hV : V < wN n) (hi : i + (n + 1) ≤ L) :
    U = U.take i ++ ((U.drop i).take (n + 1) ++ U.drop (i + (n + 1))) ∧ ((U.drop i).take (n + 1)).length = n + 1 ∧ valN ((U.drop i).take (n + 1)) < 4294967296 * V ∧ valN (U.drop (i + (n + 1))) = 0 ∧ valN (U.drop i) = valN ((U.drop i).take (n + 1)) := by
  have hlu := h.lu
  have hlt := h.lt
  have hat := okN_at h.ou (show i < U.length by omega)
  have hd := valN_drop (show i < U.length by omega)
  have hU : U = U.take i ++ ((U.drop i).take (n + 1) ++ U.drop (i + (n + 1))) := by
    rw [← List.drop_drop, List.take_append_drop, List.take_append_drop]
  have hlen : ((U.drop i).take (n + 1)).length = n + 1 := by rw [List.length_take, List.length_drop]; omega
  have hsp := valN_cut (U.drop i) (i := n + 1) (by rw [List.length_drop]; omega)
  rw [List.drop_drop] at hsp
  have hlt2 : valN (U.drop i) < 4294967296 * V := by omega
  have hw : 4294967296 * V < wN (n + 1) := by rw [wN_succ]; omega
  have h0 : valN (U.drop (i + (n + 1))) = 0 := by
    rcases Nat.eq_zero_or_pos (valN (U.drop (i + (n + 1)))) with h0 | h0
    · exact h0
    · exfalso
      have := Nat.le_mul_of_pos_right (wN (n + 1)) h0
      omega
  rw [h0, Nat.mul_zero, Nat.add_zero] at hsp
  exact ⟨hU, hlen, by omega, h0, hsp⟩
theorem div_step {V i m L n d : Nat} {U0 U Q C : List Nat} (h : DivI V (i + 1) m L U0 U Q) (hV : V < wN n) (hi : i + (n + 1) ≤ L) (hl0 : U0.length = L) (him : i < m) (hC : C.length = n + 1) (hoC : okN C) (h1 : valN C + d * V = valN ((U.drop i).take (n + 1))) (h2 : valN C < V) (hd : d < 4294967296) :
    DivI V i m L U0 (U.take i ++ (C ++ U.drop (i + (n + 1)))) (Q.set i d) := by
  obtain ⟨hU, hlen, hlt, h0, hsp⟩ := div_part h hV hi
  have hlu := h.lu
  have hlt' : (U.take i).length = i := by rw [List.length_take]; omega
  have hdr : (U.take i ++ (C ++ U.drop (i + (n + 1)))).drop i = C ++ U.drop (i + (n + 1)) := by
    conv => lhs; rw [show i = (U.take i).length from hlt'.symm]
    simp [hlt']
  have hv : valN ((U.take i ++ (C ++ U.drop (i + (n + 1)))).drop i) = valN C := by rw [hdr, valN_app, h0]; omega
  refine ⟨?_, ?_, by rw [List.length_set]; exact h.lq, okN_set h.oq hd, by rw [hv]; exact h2, ?_, ?_⟩
  · rw [List.length_append, List.length_append, hlt', hC, List.length_drop]; omega
  · exact okN_app.2 ⟨okN_take h.ou i, okN_app.2 ⟨hoC, okN_drop h.ou _⟩⟩
  · rw [List.take_append_of_le_length (by omega), List.take_take, Nat.min_self]
    have := congrArg (List.take i) h.tk
    rw [List.take_take, List.take_take, Nat.min_eq_left (by omega)] at this
    exact this
  · have hat : U0[i]'(by omega) = U[i]'(by omega) := by
      have e1 : (U.take (i + 1))[i]? = (U0.take (i + 1))[i]? := by rw [h.tk]
      rw [List.getElem?_take_of_lt (by omega), List.getElem?_take_of_lt (by omega), List.getElem?_eq_getElem (by omega), List.getElem?_eq_getElem (by omega)] at e1
      exact (Option.some.inj e1).symm
    rw [hv, valN_drop (show i < U0.length by omega), h.eq, hat, drop_set_self (by rw [h.lq]; exact him)]
    rw [valN_drop (show i < U.length by omega)] at hsp
    generalize U[i]'(by omega) = a at *
    generalize valN (Q.drop (i + 1)) = q at *
    generalize valN (U.drop (i + 1)) = r at *
    rw [← hsp] at h1
    grind
theorem div_end {x y s m L : Nat} {U0 U Q : List Nat} (h : DivI (y * 2 ^ s) 0 m L U0 U Q) (hx : valN U0 = x * 2 ^ s) (hy : 0 < y) : valN Q = x / y ∧ valN U / 2 ^ s = x % y := by
  have h1 := h.eq
  have h2 := h.lt
  have hp := Nat.two_pow_pos s
  simp only [List.drop_zero] at h1 h2
  rw [hx] at h1
  have hv : 0 < y * 2 ^ s := Nat.mul_pos hy hp
  have e1 : x * 2 ^ s / (y * 2 ^ s) = valN Q := by rw [h1, Nat.mul_add_div hv, Nat.div_eq_of_lt h2, Nat.add_zero]
  have e2 : x * 2 ^ s % (y * 2 ^ s) = valN U := by rw [h1, Nat.mul_add_mod, Nat.mod_eq_of_lt h2]
  rw [Nat.mul_div_mul_right _ _ hp] at e1
  rw [Nat.mul_mod_mul_right] at e2
  exact ⟨e1.symm, by rw [← e2, Nat.mul_div_cancel _ hp]⟩
end Go.Proofs.YtamghpnjdohnjaaDoor.Sx
namespace Go.Proofs.YtamghpnjdohnjaaDoor.Sx
open Go Go.RowKit
set_option linter.unusedVariables false
set_option linter.unusedSimpArgs false
set_option maxRecDepth 100000
set_option maxHeartbeats 8000000
attribute [local congr] fin_congr finG_congr stepG_congr step1_congr runOps_congr brv_congr obl_congr condK_congr LoopK_congr seqK_congr CutK_congr vc_congr DrawK_congr regK_congr CallK_congr AskK_congr newK_congr retC_congr ret1_congr retK_congr outV_congr closeK_congr genR_congr appR_congr finD_congr finGD_congr stepGD_congr stepD_congr CallK0_congr runD_congr okR_congr CallS_congr vcX_congr
attribute [local congr] Stop_congr
section
variable {M : Mem} {K : AV → Hp → Mem → Prop}
theorem rdH_pure (P C S B : List Nat) : pureH (rdH P C S B) := ⟨⟨_, rfl⟩, ⟨_, rfl⟩, trivial⟩
theorem guess_bor (P C S B : List Nat) (j n : Nat) (hj : P.length = j) (hn : 2 ≤ n) (hn2 : n < 1000000000) (hC : C.length = n + 1) (hB : B.length = n) (hoC : okN C) (hoB : okN B) (htop : 2147483648 ≤ B[n - 1]'(by omega)) (hlt : valN C < 4294967296 * valN B)
    (hK : ∀ q, q < 4294967296 → valN C / valN B ≤ q → q ≤ valN C / valN B + 1 → K (.ext (.int .u64 ((q : Nat) : Int))) (rdH P C S B) M) : CallS Tryd.prog 102 [.slo 1013 j (n + 1) 1, .slo 2013 0 n 1] (rdH P C S B) M [] K := by
  refine CallS.bor (rdH_pure P C S B) fun us M' hM hb' => ?_
  obtain ⟨v1, _, rfl, h1, v2, _, rfl, h2, rfl⟩ := hb'
  have g1 := h1.part (g := u32V) (L := P ++ (C ++ S)) rfl (by simp; omega)
  have g2 := h2.isL (g := u32V) (L := B) rfl hB.symm
  have e : ((P ++ (C ++ S)).drop j).take (n + 1) = C := by
    subst hj
    rw [List.drop_left, ← hC, List.take_left]
  rw [e] at g1
  exact guess_ok v1 v2 n C B g1 g2 hn hn2 hC hB hoC hoB htop hlt fun q h3 h4 h5 => BorK.same (hK q h3 h4 h5)
theorem unshift_bor (k m n : Nat) (T : TypeId) (l : List Nat) (hm : m = l.length) (hx : l.length < 100000000) (hol : okN l) (hn : n < 32) (hK : ∀ w M', Mem.le M M' → IsL M' u32V w (ofN (valN l / 2 ^ n)) → FreshS M w → K (.ext w) [(k, T, cE u32V l)] M') :
    CallS Tryd.prog 103 [.slo k 0 m 1, .ext (.int .i64 (n : Int))] [(k, T, cE u32V l)] M [] K := by
  refine CallS.bor ⟨⟨_, rfl⟩, trivial⟩ fun us M' hM hb' => ?_
  obtain ⟨v1, _, rfl, h1, _, _, rfl, rfl, rfl⟩ := hb'
  have g1 := h1.isL (g := u32V) (L := l) (T := T) (by simp [lkH]) hm
  refine unshift_ok v1 l n g1 hx hol hn fun w M2 h2 h3 h4 => ?_
  exact ⟨fun j hj => rfl, fun M3 h5 h6 _ => hK w M3 h5 (h3.move h4 h6) (h4.le hM)⟩
def dvSt (M : Mem) (la m n s j : Nat) (U B Q : List Nat) : St := { env := [(12, .ext (.int .i64 ((j : Int) - 1))), (11, .slo 54 0 m 1), (10, .slo 2013 0 n 1), (9, .slo 1013 0 (la + 1) 1), (8, .ext (.int .i64 (s : Int)))], hp := [(1013, 70, cE u32V U), (2013, 70, cE u32V B), (54, 70, cE u32V Q)], M := M, kb := 0, fx := [] }
theorem divide_ok (u v : Value) (x y : Nat) (hu : IsL M u32V u (ofN x)) (hv : IsL M u32V v (ofN y)) (hx : (ofN x).length < 10000000) (hy : (ofN y).length < 10000000) (hy0 : 0 < y)
    (hK : ∀ q r M', Mem.le M M' → IsL M' u32V q (ofN (x / y)) → IsL M' u32V r (ofN (x % y)) → FreshS M q → FreshS M r → K (.ext (.tuple #[q, r])) [] M') : CallS Tryd.prog 77 [.ext u, .ext v] [] M [] K := by
  refine CallS.frzF ?_
  refine inlS (cs := []) Tryd.mixed Tryd.func77 rfl (by kernel_rfl) 0 rfl rfl ?_
  simp only [Tryd.f77]
  by_cases hlt : x < y
  · have e1 : x / y = 0 := Nat.div_eq_of_lt hlt
    have e2 : x % y = x := Nat.mod_eq_of_lt hlt
    rw [e1, e2, ofN_zero] at hK
    have c1 := cmpN_lt hlt
    (replace hb0 := true_and True); refine Go1.mk ?_; repeat' ((first | (with_reducible refine Go1.go ?_) | ((with_reducible first | refine brv_mk ?_ ?_ | refine gsplitD ?_ ?_ | refine gsplitG ?_ ?_) <;> intro h <;> (try simp only [Bool.not_eq_true', Bool.not_eq_false'] at h) <;> replace hb0 := h) | ((first | (with_reducible refine isCall (f := 60) ?_; refine callA_nil (by kernel_rfl) ?_) | (with_reducible refine isCall0 (f := 60) ?_; refine callA0_nil (by kernel_rfl) ?_)); refine (compare_ok u v x y hu hv (by omega) (by omega) ?_)) | ((first | (with_reducible refine isCall (f := 90) ?_; refine callA_nil (by kernel_rfl) ?_) | (with_reducible refine isCall0 (f := 90) ?_; refine callA0_nil (by kernel_rfl) ?_)); refine (clone_ok u (ofN x) hu (by omega) (fun w M' h1 h2 h3 => Stop.mk ?_))) | ((with_reducible refine isDraw [some 62, some 63, some 64, some 65, some 66, some 67, some 68, some 69, some 70, some 71, some 72, some 73, some 74, some 75, some 76, some 77, some 78, some 79, some 80, some 81, some 82, some 83, some 84, none] (by decide) ?_); refine draw_rule [(0, []), (1, []), (2, []), (3, []), (4, []), (5, []), (6, []), (7, []), (8, []), (9, []), (10, []), (11, []), (12, []), (13, []), (14, []), (15, []), (16, []), (17, []), (18, []), (19, []), (20, []), (21, []), (22, []), (23, [])] [[], [], [], [], [], [], [5], [4, 5, 6], [4, 5, 6, 7], [2, 3, 4, 5, 6, 7, 8], [], [], [], [], [], [14], [13, 14, 15], [13, 14, 15, 16], [11, 12, 13, 14, 15, 16, 17], [], [11, 12, 13, 14, 15, 16, 17, 18, 19], [2, 3, 4, 5, 6, 7, 8, 9, 10, 11, 12, 13, 14, 15, 16, 17, 18, 19, 20], [0, 1, 2, 3, 4, 5, 6, 7, 8, 9, 10, 11, 12, 13, 14, 15, 16, 17, 18, 19, 20, 21], [0, 1, 2, 3, 4, 5, 6, 7, 8, 9, 10, 11, 12, 13, 14, 15, 16, 17, 18, 19, 20, 21, 22]] [62, 63, 64, 65, 66, 67, 68, 69, 70, 71, 72, 73, 74, 75, 76, 77, 78, 79, 80, 81, 82, 83] [] (by kernel_rfl) (by kernel_rfl) (by kernel_rfl) (by kernel_rfl) (by exact trivial) ?_) | (refine And.intro ?ob ?_; case ob => ((try simp only [sxO, ne_eq, maxLen] at *); omega)) | fail) <;> (try simp (config := { maxSteps := 1000000 }) only [hb0, cE_ment, hasK_nil, cE_kill, cE_len, u32_one, u32_app1, u32_set, Nat.mul_one, hu.one, hv.one, c1, ↓hold_pre, awayP, runOps, regK, step1, newK, genR, appR, obl, buildR, Value.cells, closeK, keepH, outV, retK, ret1, retC, RetV, Option.getD, runD, stepD, afterK, undef, simprocAttr, sxB, ↓sxD, sxE, sxTab]))
    refine Stop.go ?_
    (replace hb0 := true_and True); refine Go1.mk ?_; repeat' ((first | (with_reducible refine Go1.go ?_) | ((with_reducible first | refine brv_mk ?_ ?_ | refine gsplitD ?_ ?_ | refine gsplitG ?_ ?_) <;> intro h <;> (try simp only [Bool.not_eq_true', Bool.not_eq_false'] at h) <;> replace hb0 := h) | ((with_reducible refine isDraw [some 62, some 63, some 64, some 65, some 66, some 67, some 68, some 69, some 70, some 71, some 72, some 73, some 74, some 75, some 76, some 77, some 78, some 79, some 80, some 81, some 82, some 83, some 84, none] (by decide) ?_); refine draw_rule [(0, []), (1, []), (2, []), (3, []), (4, []), (5, []), (6, []), (7, []), (8, []), (9, []), (10, []), (11, []), (12, []), (13, []), (14, []), (15, []), (16, []), (17, []), (18, []), (19, []), (20, []), (21, []), (22, []), (23, [])] [[], [], [], [], [], [], [5], [4, 5, 6], [4, 5, 6, 7], [2, 3, 4, 5, 6, 7, 8], [], [], [], [], [], [14], [13, 14, 15], [13, 14, 15, 16], [11, 12, 13, 14, 15, 16, 17], [], [11, 12, 13, 14, 15, 16, 17, 18, 19], [2, 3, 4, 5, 6, 7, 8, 9, 10, 11, 12, 13, 14, 15, 16, 17, 18, 19, 20], [0, 1, 2, 3, 4, 5, 6, 7, 8, 9, 10, 11, 12, 13, 14, 15, 16, 17, 18, 19, 20, 21], [0, 1, 2, 3, 4, 5, 6, 7, 8, 9, 10, 11, 12, 13, 14, 15, 16, 17, 18, 19, 20, 21, 22]] [62, 63, 64, 65, 66, 67, 68, 69, 70, 71, 72, 73, 74, 75, 76, 77, 78, 79, 80, 81, 82, 83] [] (by kernel_rfl) (by kernel_rfl) (by kernel_rfl) (by kernel_rfl) (by exact trivial) ?_) | (refine And.intro ?ob ?_; case ob => ((try simp only [sxO, ne_eq, maxLen] at *); omega)) | fail) <;> (try simp (config := { maxSteps := 1000000 }) only [hb0, h2.one, ↓hold_pre, awayP, runOps, regK, step1, newK, genR, appR, obl, buildR, Value.cells, closeK, keepH, outV, retK, ret1, retC, RetV, Option.getD, runD, stepD, afterK, undef, simprocAttr, sxB, ↓sxD, sxE, sxTab]))
    exact .inl (hK _ _ _ h1 (isL_nil _ _ _) h2 (freshS_nil _ _) h3)
  have c1 : decide (cmpN x y < 0) = false := by
    rw [decide_eq_false_iff_not]; unfold cmpN; rw [if_neg hlt]; split <;> omega
  have hlen := len_mono (show y ≤ x by omega)
  have hl1 : 0 < (ofN y).length := by
    rcases Nat.eq_zero_or_pos (ofN y).length with h | h
    · have := ofN_nil.1 (List.length_eq_zero_iff.1 h); omega
    · exact h
  by_cases hone : (ofN y).length = 1
  · have d1 : decide (((ofN y).length : Int) = 1) = true := by simp; omega
    have hyi := hv.idx (P := Tryd.prog) (T := 70) tk70 tz70 (by omega) hl1
    have hyv : (ofN y)[0] = y := by
      have := valN_ofN y
      generalize ofN y = l at *
      match l, hone with
      | [a], _ => simpa [valN] using this
    have hy32 : y < 4294967296 := by rw [← hyv]; exact ofN_ok_at hl1
    rw [hyv] at hyi
    have w1 : IntKind.u64.wrap ((x % y : Nat) : Int) = ((x % y : Nat) : Int) := wrap64_id (by have := Nat.mod_lt x hy0; omega)
    (replace hb0 := true_and True); refine Go1.mk ?_; repeat' ((first | (with_reducible refine Go1.go ?_) | ((with_reducible first | refine brv_mk ?_ ?_ | refine gsplitD ?_ ?_ | refine gsplitG ?_ ?_) <;> intro h <;> (try simp only [Bool.not_eq_true', Bool.not_eq_false'] at h) <;> replace hb0 := h) | ((first | (with_reducible refine isCall (f := 60) ?_; refine callA_nil (by kernel_rfl) ?_) | (with_reducible refine isCall0 (f := 60) ?_; refine callA0_nil (by kernel_rfl) ?_)); refine (compare_ok u v x y hu hv (by omega) (by omega) ?_)) | ((first | (with_reducible refine isCall (f := 98) ?_; refine callA_nil (by kernel_rfl) ?_) | (with_reducible refine isCall0 (f := 98) ?_; refine callA0_nil (by kernel_rfl) ?_)); refine (small_ok u x y hu (by omega) hy0 hy32 (fun w M' h1 h2 h3 => Stop.mk ?_))) | ((with_reducible refine isDraw [some 62, some 63, some 64, some 65, some 66, some 67, some 68, some 69, some 70, some 71, some 72, some 73, some 74, some 75, some 76, some 77, some 78, some 79, some 80, some 81, some 82, some 83, some 84, none] (by decide) ?_); refine draw_rule [(0, []), (1, []), (2, []), (3, []), (4, []), (5, []), (6, []), (7, []), (8, []), (9, []), (10, []), (11, []), (12, []), (13, []), (14, []), (15, []), (16, []), (17, []), (18, []), (19, []), (20, []), (21, []), (22, []), (23, [])] [[], [], [], [], [], [], [5], [4, 5, 6], [4, 5, 6, 7], [2, 3, 4, 5, 6, 7, 8], [], [], [], [], [], [14], [13, 14, 15], [13, 14, 15, 16], [11, 12, 13, 14, 15, 16, 17], [], [11, 12, 13, 14, 15, 16, 17, 18, 19], [2, 3, 4, 5, 6, 7, 8, 9, 10, 11, 12, 13, 14, 15, 16, 17, 18, 19, 20], [0, 1, 2, 3, 4, 5, 6, 7, 8, 9, 10, 11, 12, 13, 14, 15, 16, 17, 18, 19, 20, 21], [0, 1, 2, 3, 4, 5, 6, 7, 8, 9, 10, 11, 12, 13, 14, 15, 16, 17, 18, 19, 20, 21, 22]] [62, 63, 64, 65, 66, 67, 68, 69, 70, 71, 72, 73, 74, 75, 76, 77, 78, 79, 80, 81, 82, 83] [] (by kernel_rfl) (by kernel_rfl) (by kernel_rfl) (by kernel_rfl) (by exact trivial) ?_) | (refine And.intro ?ob ?_; case ob => ((try simp only [sxO, ne_eq, maxLen] at *); omega)) | fail) <;> (try simp (config := { maxSteps := 1000000 }) only [hb0, cE_ment, hasK_nil, cE_kill, cE_len, u32_one, u32_app1, u32_set, Nat.mul_one, u32V, hu.one, hv.one, hv.len, hv.sl, c1, d1, hyi, Int.natCast_zero, Int.cast_ofNat_Int, ↓hold_pre, awayP, runOps, regK, step1, newK, genR, appR, obl, buildR, Value.cells, closeK, keepH, outV, retK, ret1, retC, RetV, Option.getD, runD, stepD, afterK, undef, simprocAttr, sxB, ↓sxD, sxE, sxTab]))
    refine Stop.go ?_
    (replace hb0 := true_and True); refine Go1.mk ?_; repeat' ((first | (with_reducible refine Go1.go ?_) | ((with_reducible first | refine brv_mk ?_ ?_ | refine gsplitD ?_ ?_ | refine gsplitG ?_ ?_) <;> intro h <;> (try simp only [Bool.not_eq_true', Bool.not_eq_false'] at h) <;> replace hb0 := h) | ((first | (with_reducible refine isCall (f := 82) ?_; refine callA_nil (by kernel_rfl) ?_) | (with_reducible refine isCall0 (f := 82) ?_; refine callA0_nil (by kernel_rfl) ?_)); refine (of_ok (x % y) (by have := Nat.mod_lt x hy0; omega) (fun w2 M2 g1 g2 g3 => Stop.mk ?_))) | ((with_reducible refine isDraw [some 62, some 63, some 64, some 65, some 66, some 67, some 68, some 69, some 70, some 71, some 72, some 73, some 74, some 75, some 76, some 77, some 78, some 79, some 80, some 81, some 82, some 83, some 84, none] (by decide) ?_); refine draw_rule [(0, []), (1, []), (2, []), (3, []), (4, []), (5, []), (6, []), (7, []), (8, []), (9, []), (10, []), (11, []), (12, []), (13, []), (14, []), (15, []), (16, []), (17, []), (18, []), (19, []), (20, []), (21, []), (22, []), (23, [])] [[], [], [], [], [], [], [5], [4, 5, 6], [4, 5, 6, 7], [2, 3, 4, 5, 6, 7, 8], [], [], [], [], [], [14], [13, 14, 15], [13, 14, 15, 16], [11, 12, 13, 14, 15, 16, 17], [], [11, 12, 13, 14, 15, 16, 17, 18, 19], [2, 3, 4, 5, 6, 7, 8, 9, 10, 11, 12, 13, 14, 15, 16, 17, 18, 19, 20], [0, 1, 2, 3, 4, 5, 6, 7, 8, 9, 10, 11, 12, 13, 14, 15, 16, 17, 18, 19, 20, 21], [0, 1, 2, 3, 4, 5, 6, 7, 8, 9, 10, 11, 12, 13, 14, 15, 16, 17, 18, 19, 20, 21, 22]] [62, 63, 64, 65, 66, 67, 68, 69, 70, 71, 72, 73, 74, 75, 76, 77, 78, 79, 80, 81, 82, 83] [] (by kernel_rfl) (by kernel_rfl) (by kernel_rfl) (by kernel_rfl) (by exact trivial) ?_) | (refine And.intro ?ob ?_; case ob => ((try simp only [sxO, ne_eq, maxLen] at *); omega)) | fail) <;> (try simp (config := { maxSteps := 1000000 }) only [hb0, h2.one, w1, ↓hold_pre, awayP, runOps, regK, step1, newK, genR, appR, obl, buildR, Value.cells, closeK, keepH, outV, retK, ret1, retC, RetV, Option.getD, runD, stepD, afterK, undef, simprocAttr, sxB, ↓sxD, sxE, sxTab]))
    refine Stop.go ?_
    (replace hb0 := true_and True); refine Go1.mk ?_; repeat' ((first | (with_reducible refine Go1.go ?_) | ((with_reducible first | refine brv_mk ?_ ?_ | refine gsplitD ?_ ?_ | refine gsplitG ?_ ?_) <;> intro h <;> (try simp only [Bool.not_eq_true', Bool.not_eq_false'] at h) <;> replace hb0 := h) | ((with_reducible refine isDraw [some 62, some 63, some 64, some 65, some 66, some 67, some 68, some 69, some 70, some 71, some 72, some 73, some 74, some 75, some 76, some 77, some 78, some 79, some 80, some 81, some 82, some 83, some 84, none] (by decide) ?_); refine draw_rule [(0, []), (1, []), (2, []), (3, []), (4, []), (5, []), (6, []), (7, []), (8, []), (9, []), (10, []), (11, []), (12, []), (13, []), (14, []), (15, []), (16, []), (17, []), (18, []), (19, []), (20, []), (21, []), (22, []), (23, [])] [[], [], [], [], [], [], [5], [4, 5, 6], [4, 5, 6, 7], [2, 3, 4, 5, 6, 7, 8], [], [], [], [], [], [14], [13, 14, 15], [13, 14, 15, 16], [11, 12, 13, 14, 15, 16, 17], [], [11, 12, 13, 14, 15, 16, 17, 18, 19], [2, 3, 4, 5, 6, 7, 8, 9, 10, 11, 12, 13, 14, 15, 16, 17, 18, 19, 20], [0, 1, 2, 3, 4, 5, 6, 7, 8, 9, 10, 11, 12, 13, 14, 15, 16, 17, 18, 19, 20, 21], [0, 1, 2, 3, 4, 5, 6, 7, 8, 9, 10, 11, 12, 13, 14, 15, 16, 17, 18, 19, 20, 21, 22]] [62, 63, 64, 65, 66, 67, 68, 69, 70, 71, 72, 73, 74, 75, 76, 77, 78, 79, 80, 81, 82, 83] [] (by kernel_rfl) (by kernel_rfl) (by kernel_rfl) (by kernel_rfl) (by exact trivial) ?_) | (refine And.intro ?ob ?_; case ob => ((try simp only [sxO, ne_eq, maxLen] at *); omega)) | fail) <;> (try simp (config := { maxSteps := 1000000 }) only [hb0, h2.one, g2.one, ↓hold_pre, awayP, runOps, regK, step1, newK, genR, appR, obl, buildR, Value.cells, closeK, keepH, outV, retK, ret1, retC, RetV, Option.getD, runD, stepD, afterK, undef, simprocAttr, sxB, ↓sxD, sxE, sxTab]))
    exact .inl (hK _ _ _ (h1.trans g1) (h2.le g1) g2 h3 (g3.le h1))
  have d1 : decide (((ofN y).length : Int) = 1) = false := by simp; omega
  obtain ⟨s, hs, hs32, hbl, hbt⟩ := nrm_plain (y := y) (by omega)
  have ht32 := ofN_ok_at (show (ofN y).length - 1 < (ofN y).length by omega)
  have w1 : IntKind.i64.wrap (((ofN y).length : Int) - 1) = (((ofN y).length - 1 : Nat) : Int) := pred_i hl1 (by omega)
  have hn2 : 2 ≤ (ofN y).length := by omega
  have hn1 : (ofN y).length - 1 < (ofN y).length := by omega
  obtain ⟨t, ht⟩ : ∃ t, (ofN y)[(ofN y).length - 1]'(by omega) = t := ⟨_, rfl⟩
  have hyi := hv.idx (P := Tryd.prog) (T := 70) tk70 tz70 (by omega) (show (ofN y).length - 1 < (ofN y).length by omega)
  rw [ht] at hs ht32
  simp only [ht] at hyi
  clear ht
  generalize hl : (ofN x).length = la at *
  generalize hm : (ofN y).length = n at *
  (replace hb0 := true_and True); refine Go1.mk ?_; repeat' ((first | (with_reducible refine Go1.go ?_) | ((with_reducible first | refine brv_mk ?_ ?_ | refine gsplitD ?_ ?_ | refine gsplitG ?_ ?_) <;> intro h <;> (try simp only [Bool.not_eq_true', Bool.not_eq_false'] at h) <;> replace hb0 := h) | ((first | (with_reducible refine isCall (f := 60) ?_; refine callA_nil (by kernel_rfl) ?_) | (with_reducible refine isCall0 (f := 60) ?_; refine callA0_nil (by kernel_rfl) ?_)); refine (compare_ok u v x y hu hv (by omega) (by omega) ?_)) | ((first | (with_reducible refine isCall (f := 99) ?_; refine callA_nil (by kernel_rfl) ?_) | (with_reducible refine isCall0 (f := 99) ?_; refine callA0_nil (by kernel_rfl) ?_)); refine (lead32_ok t ht32 (Stop.mk ?_))) | ((with_reducible refine isDraw [some 62, some 63, some 64, some 65, some 66, some 67, some 68, some 69, some 70, some 71, some 72, some 73, some 74, some 75, some 76, some 77, some 78, some 79, some 80, some 81, some 82, some 83, some 84, none] (by decide) ?_); refine draw_rule [(0, []), (1, []), (2, []), (3, []), (4, []), (5, []), (6, []), (7, []), (8, []), (9, []), (10, []), (11, []), (12, []), (13, []), (14, []), (15, []), (16, []), (17, []), (18, []), (19, []), (20, []), (21, []), (22, []), (23, [])] [[], [], [], [], [], [], [5], [4, 5, 6], [4, 5, 6, 7], [2, 3, 4, 5, 6, 7, 8], [], [], [], [], [], [14], [13, 14, 15], [13, 14, 15, 16], [11, 12, 13, 14, 15, 16, 17], [], [11, 12, 13, 14, 15, 16, 17, 18, 19], [2, 3, 4, 5, 6, 7, 8, 9, 10, 11, 12, 13, 14, 15, 16, 17, 18, 19, 20], [0, 1, 2, 3, 4, 5, 6, 7, 8, 9, 10, 11, 12, 13, 14, 15, 16, 17, 18, 19, 20, 21], [0, 1, 2, 3, 4, 5, 6, 7, 8, 9, 10, 11, 12, 13, 14, 15, 16, 17, 18, 19, 20, 21, 22]] [62, 63, 64, 65, 66, 67, 68, 69, 70, 71, 72, 73, 74, 75, 76, 77, 78, 79, 80, 81, 82, 83] [] (by kernel_rfl) (by kernel_rfl) (by kernel_rfl) (by kernel_rfl) (by exact trivial) ?_) | (refine And.intro ?ob ?_; case ob => ((try simp only [sxO, ne_eq, maxLen] at *); omega)) | fail) <;> (try simp (config := { maxSteps := 1000000 }) only [hb0, cE_ment, hasK_nil, cE_kill, cE_len, u32_one, u32_app1, u32_set, Nat.mul_one, u32V, hu.one, hv.one, hv.len, hv.sl, hm, c1, d1, w1, hyi, ↓hold_pre, awayP, runOps, regK, step1, newK, genR, appR, obl, buildR, Value.cells, closeK, keepH, outV, retK, ret1, retC, RetV, Option.getD, runD, stepD, afterK, undef, simprocAttr, sxB, ↓sxD, sxE, sxTab]))
  rw [← hs]
  refine Stop.go ?_
  have o1 := ofN_len_lt (n := y * 2 ^ s) (k := n) (by omega)
  have hlo : okN (ofN (y * 2 ^ s)) := okN_ofN _
  have w2 : IntKind.i64.wrap ((la : Int) - (n : Int)) = ((la - n : Nat) : Int) := by rw [wrap_id (by omega) (by omega)]; omega
  have w3 : IntKind.i64.wrap (((la - n : Nat) : Int) + 1) = ((la - n + 1 : Nat) : Int) := succ_i (by omega)
  have w4 : IntKind.i64.wrap (((la - n + 1 : Nat) : Int) - 1) = ((la - n + 1 : Nat) : Int) - 1 := wrap_id (by omega) (by omega)
  (replace hb0 := true_and True); refine Go1.mk ?_; repeat' ((first | (with_reducible refine Go1.go ?_) | ((with_reducible first | refine brv_mk ?_ ?_ | refine gsplitD ?_ ?_ | refine gsplitG ?_ ?_) <;> intro h <;> (try simp only [Bool.not_eq_true', Bool.not_eq_false'] at h) <;> replace hb0 := h) | ((with_reducible refine isCall (f := 100) ?_); refine callA ?_) | ((with_reducible refine isCall0 (f := 100) ?_); refine callA0 ?_) | ((with_reducible refine isCallS (f := 100) ?_); refine (shift_ok 1000 u (ofN x) s hu (by omega) (okN_ofN x) hs32 (fun U0 h1 h2 h3 => Stop.mk ?_))) | ((with_reducible refine isDraw [some 62, some 63, some 64, some 65, some 66, some 67, some 68, some 69, some 70, some 71, some 72, some 73, some 74, some 75, some 76, some 77, some 78, some 79, some 80, some 81, some 82, some 83, some 84, none] (by decide) ?_); refine draw_rule [(0, []), (1, []), (2, []), (3, []), (4, []), (5, []), (6, []), (7, []), (8, []), (9, []), (10, []), (11, []), (12, []), (13, []), (14, []), (15, []), (16, []), (17, []), (18, []), (19, []), (20, []), (21, []), (22, []), (23, [])] [[], [], [], [], [], [], [5], [4, 5, 6], [4, 5, 6, 7], [2, 3, 4, 5, 6, 7, 8], [], [], [], [], [], [14], [13, 14, 15], [13, 14, 15, 16], [11, 12, 13, 14, 15, 16, 17], [], [11, 12, 13, 14, 15, 16, 17, 18, 19], [2, 3, 4, 5, 6, 7, 8, 9, 10, 11, 12, 13, 14, 15, 16, 17, 18, 19, 20], [0, 1, 2, 3, 4, 5, 6, 7, 8, 9, 10, 11, 12, 13, 14, 15, 16, 17, 18, 19, 20, 21], [0, 1, 2, 3, 4, 5, 6, 7, 8, 9, 10, 11, 12, 13, 14, 15, 16, 17, 18, 19, 20, 21, 22]] [62, 63, 64, 65, 66, 67, 68, 69, 70, 71, 72, 73, 74, 75, 76, 77, 78, 79, 80, 81, 82, 83] [] (by kernel_rfl) (by kernel_rfl) (by kernel_rfl) (by kernel_rfl) (by exact trivial) ?_) | (refine And.intro ?ob ?_; case ob => ((try simp only [sxO, ne_eq, maxLen] at *); omega)) | fail) <;> (try simp (config := { maxSteps := 1000000 }) only [hb0, cE_ment, hasK_nil, cE_kill, cE_len, u32_one, u32_app1, u32_set, Nat.mul_one, hu.one, hv.one, hu.len, hu.sl, hv.len, hv.sl, hm, hl, w2, w3, w4, ↓hold_pre, awayP, runOps, regK, step1, newK, genR, appR, obl, buildR, Value.cells, closeK, keepH, outV, retK, ret1, retC, RetV, Option.getD, runD, stepD, afterK, undef, simprocAttr, sxB, ↓sxD, sxE, sxTab]))
  rw [valN_ofN] at h3
  refine Stop.go ?_
  (replace hb0 := true_and True); refine Go1.mk ?_; repeat' ((first | (with_reducible refine Go1.go ?_) | ((with_reducible first | refine brv_mk ?_ ?_ | refine gsplitD ?_ ?_ | refine gsplitG ?_ ?_) <;> intro h <;> (try simp only [Bool.not_eq_true', Bool.not_eq_false'] at h) <;> replace hb0 := h) | ((with_reducible refine isCall (f := 100) ?_); refine callA ?_) | ((with_reducible refine isCall0 (f := 100) ?_); refine callA0 ?_) | ((with_reducible refine isCallS (f := 100) ?_); refine (shift_ok 2000 v (ofN y) s hv (by omega) (okN_ofN y) hs32 (fun V0 g1 g2 g3 => Stop.mk ?_))) | ((with_reducible refine isDraw [some 62, some 63, some 64, some 65, some 66, some 67, some 68, some 69, some 70, some 71, some 72, some 73, some 74, some 75, some 76, some 77, some 78, some 79, some 80, some 81, some 82, some 83, some 84, none] (by decide) ?_); refine draw_rule [(0, []), (1, []), (2, []), (3, []), (4, []), (5, []), (6, []), (7, []), (8, []), (9, []), (10, []), (11, []), (12, []), (13, []), (14, []), (15, []), (16, []), (17, []), (18, []), (19, []), (20, []), (21, []), (22, []), (23, [])] [[], [], [], [], [], [], [5], [4, 5, 6], [4, 5, 6, 7], [2, 3, 4, 5, 6, 7, 8], [], [], [], [], [], [14], [13, 14, 15], [13, 14, 15, 16], [11, 12, 13, 14, 15, 16, 17], [], [11, 12, 13, 14, 15, 16, 17, 18, 19], [2, 3, 4, 5, 6, 7, 8, 9, 10, 11, 12, 13, 14, 15, 16, 17, 18, 19, 20], [0, 1, 2, 3, 4, 5, 6, 7, 8, 9, 10, 11, 12, 13, 14, 15, 16, 17, 18, 19, 20, 21], [0, 1, 2, 3, 4, 5, 6, 7, 8, 9, 10, 11, 12, 13, 14, 15, 16, 17, 18, 19, 20, 21, 22]] [62, 63, 64, 65, 66, 67, 68, 69, 70, 71, 72, 73, 74, 75, 76, 77, 78, 79, 80, 81, 82, 83] [] (by kernel_rfl) (by kernel_rfl) (by kernel_rfl) (by kernel_rfl) (by exact trivial) ?_) | (refine And.intro ?ob ?_; case ob => ((try simp only [sxO, ne_eq, maxLen] at *); omega)) | fail) <;> (try simp (config := { maxSteps := 1000000 }) only [hb0, cE_ment, hasK_nil, cE_kill, cE_len, u32_one, u32_app1, u32_set, Nat.mul_one, hu.one, hv.one, hu.len, hu.sl, hv.len, hv.sl, hm, hl, w2, w3, w4, ↓hold_pre, awayP, runOps, regK, step1, newK, genR, appR, obl, buildR, Value.cells, closeK, keepH, outV, retK, ret1, retC, RetV, Option.getD, runD, stepD, afterK, undef, simprocAttr, sxB, ↓sxD, sxE, sxTab]))
  rw [valN_ofN] at g3
  rw [hm] at g1
  refine Stop.go ?_
  (replace hb0 := true_and True); refine Go1.mk ?_; repeat' ((first | (with_reducible refine Go1.go ?_) | ((with_reducible first | refine brv_mk ?_ ?_ | refine gsplitD ?_ ?_ | refine gsplitG ?_ ?_) <;> intro h <;> (try simp only [Bool.not_eq_true', Bool.not_eq_false'] at h) <;> replace hb0 := h) | ((with_reducible refine isCall (f := 94) ?_); refine callA ?_) | ((with_reducible refine isCall0 (f := 94) ?_); refine callA0 ?_) | ((with_reducible refine isCallS (f := 94) ?_); refine (trim_ok 2013 (n + 1) V0 g1 (by omega) g2 (fun m k1 k2 => Stop.mk ?_))) | ((with_reducible refine isDraw [some 62, some 63, some 64, some 65, some 66, some 67, some 68, some 69, some 70, some 71, some 72, some 73, some 74, some 75, some 76, some 77, some 78, some 79, some 80, some 81, some 82, some 83, some 84, none] (by decide) ?_); refine draw_rule [(0, []), (1, []), (2, []), (3, []), (4, []), (5, []), (6, []), (7, []), (8, []), (9, []), (10, []), (11, []), (12, []), (13, []), (14, []), (15, []), (16, []), (17, []), (18, []), (19, []), (20, []), (21, []), (22, []), (23, [])] [[], [], [], [], [], [], [5], [4, 5, 6], [4, 5, 6, 7], [2, 3, 4, 5, 6, 7, 8], [], [], [], [], [], [14], [13, 14, 15], [13, 14, 15, 16], [11, 12, 13, 14, 15, 16, 17], [], [11, 12, 13, 14, 15, 16, 17, 18, 19], [2, 3, 4, 5, 6, 7, 8, 9, 10, 11, 12, 13, 14, 15, 16, 17, 18, 19, 20], [0, 1, 2, 3, 4, 5, 6, 7, 8, 9, 10, 11, 12, 13, 14, 15, 16, 17, 18, 19, 20, 21], [0, 1, 2, 3, 4, 5, 6, 7, 8, 9, 10, 11, 12, 13, 14, 15, 16, 17, 18, 19, 20, 21, 22]] [62, 63, 64, 65, 66, 67, 68, 69, 70, 71, 72, 73, 74, 75, 76, 77, 78, 79, 80, 81, 82, 83] [] (by kernel_rfl) (by kernel_rfl) (by kernel_rfl) (by kernel_rfl) (by exact trivial) ?_) | (refine And.intro ?ob ?_; case ob => ((try simp only [sxO, ne_eq, maxLen] at *); omega)) | fail) <;> (try simp (config := { maxSteps := 1000000 }) only [hb0, cE_ment, hasK_nil, cE_kill, cE_len, u32_one, u32_app1, u32_set, Nat.mul_one, hu.one, hv.one, hu.len, hu.sl, hv.len, hv.sl, hm, hl, w2, w3, w4, ↓hold_pre, awayP, runOps, regK, step1, newK, genR, appR, obl, buildR, Value.cells, closeK, keepH, outV, retK, ret1, retC, RetV, Option.getD, runD, stepD, afterK, undef, simprocAttr, sxB, ↓sxD, sxE, sxTab]))
  rw [g3, hbl] at k2
  rw [g3]
  have k3 := k2.symm
  subst k3
  refine Stop.go ?_
  have hz0 : AV.ext (Value.int .u32 0) :: List.map AV.ext (repN [Value.int .u32 0] (la - n)) = cE u32V (List.replicate (la - n + 1) 0) := cE_rep u32V (la - n + 1) 0
  (replace hb0 := true_and True); refine Go1.mk ?_; repeat' ((first | (with_reducible refine Go1.go ?_) | ((with_reducible first | refine brv_mk ?_ ?_ | refine gsplitD ?_ ?_ | refine gsplitG ?_ ?_) <;> intro h <;> (try simp only [Bool.not_eq_true', Bool.not_eq_false'] at h) <;> replace hb0 := h) | ((with_reducible refine isDraw [some 62, some 63, some 64, some 65, some 66, some 67, some 68, some 69, some 70, some 71, some 72, some 73, some 74, some 75, some 76, some 77, some 78, some 79, some 80, some 81, some 82, some 83, some 84, none] (by decide) ?_); refine draw_rule [(0, []), (1, []), (2, []), (3, []), (4, []), (5, []), (6, []), (7, []), (8, []), (9, []), (10, []), (11, []), (12, []), (13, []), (14, []), (15, []), (16, []), (17, []), (18, []), (19, []), (20, []), (21, []), (22, []), (23, [])] [[], [], [], [], [], [], [5], [4, 5, 6], [4, 5, 6, 7], [2, 3, 4, 5, 6, 7, 8], [], [], [], [], [], [14], [13, 14, 15], [13, 14, 15, 16], [11, 12, 13, 14, 15, 16, 17], [], [11, 12, 13, 14, 15, 16, 17, 18, 19], [2, 3, 4, 5, 6, 7, 8, 9, 10, 11, 12, 13, 14, 15, 16, 17, 18, 19, 20], [0, 1, 2, 3, 4, 5, 6, 7, 8, 9, 10, 11, 12, 13, 14, 15, 16, 17, 18, 19, 20, 21], [0, 1, 2, 3, 4, 5, 6, 7, 8, 9, 10, 11, 12, 13, 14, 15, 16, 17, 18, 19, 20, 21, 22]] [62, 63, 64, 65, 66, 67, 68, 69, 70, 71, 72, 73, 74, 75, 76, 77, 78, 79, 80, 81, 82, 83] [] (by kernel_rfl) (by kernel_rfl) (by kernel_rfl) (by kernel_rfl) (by exact trivial) ?_) | (refine And.intro ?ob ?_; case ob => ((try simp only [sxO, ne_eq, maxLen] at *); omega)) | fail) <;> (try simp (config := { maxSteps := 1000000 }) only [hb0, cE_ment, hasK_nil, cE_kill, cE_len, u32_one, u32_app1, u32_set, Nat.mul_one, hu.one, hv.one, hu.len, hu.sl, hv.len, hv.sl, hm, hl, w2, w3, w4, hz0, ↓hold_pre, awayP, runOps, regK, step1, newK, genR, appR, obl, buildR, Value.cells, closeK, keepH, outV, retK, ret1, retC, RetV, Option.getD, runD, stepD, afterK, undef, simprocAttr, sxB, ↓sxD, sxE, sxTab]))
  rw [hl] at h1
  have hwn : y * 2 ^ s < wN n := o1
  have hvp : 0 < y * 2 ^ s := Nat.mul_pos hy0 (Nat.two_pow_pos s)
  have hst : DivI (y * 2 ^ s) (la - n + 1) (la - n + 1) (la + 1) U0 U0 (List.replicate (la - n + 1) 0) := by
    refine div_start (n := n) h1 h2 (by omega) ?_
    have a1 : x < wN la := ofN_len_lt (by omega)
    have a2 : wN (n - 1) ≤ y := by
      rcases Nat.lt_or_ge y (wN (n - 1)) with h | h
      · have := ofN_len_le h; omega
      · exact h
    have a3 : wN la = wN (n - 1) * wN (la - n + 1) := by rw [← wN_add]; congr 1; omega
    have a4 := Nat.mul_le_mul_right (wN (la - n + 1)) a2
    have a5 : x < y * wN (la - n + 1) := by omega
    have a6 := Nat.mul_lt_mul_of_pos_right a5 (Nat.two_pow_pos s)
    rw [h3]
    grind
  have hB0 : 0 < valN (ofN (y * 2 ^ s)) := by rw [valN_ofN]; exact hvp
  refine ⟨fun d z => ∃ j U Q, j = d ∧ j ≤ la - n + 1 ∧ DivI (y * 2 ^ s) j (la - n + 1) (la + 1) U0 U Q ∧ z = dvSt M la (la - n + 1) n s j U (ofN (y * 2 ^ s)) Q,
    ⟨la - n + 1, dvSt M la (la - n + 1) n s (la - n + 1) U0 (ofN (y * 2 ^ s)) (List.replicate (la - n + 1) 0), le_sub ⟨rfl, rfl, rfl, rfl, rfl, trivial⟩ (by simp [subHp, dvSt, lkH, hz0]) rfl rfl rfl (keepLt0 _), ⟨_, _, _, rfl, Nat.le_refl _, hst, rfl⟩⟩, ?_⟩
  rintro d z ⟨j, U, Q, rfl, hj, hI, rfl⟩
  by_cases hlt : 0 < j
  case neg =>
    obtain rfl : j = 0 := by omega
    have d2 : decide ((0 : Int) ≤ ((0 : Nat) : Int) - 1) = false := by simp
    obtain ⟨e1, e2⟩ := div_end hI h3 hy0
    (replace hb0 := true_and True); refine Go1.mk ?_; repeat' ((first | (with_reducible refine Go1.go ?_) | ((with_reducible first | refine brv_mk ?_ ?_ | refine gsplitD ?_ ?_ | refine gsplitG ?_ ?_) <;> intro h <;> (try simp only [Bool.not_eq_true', Bool.not_eq_false'] at h) <;> replace hb0 := h) | ((with_reducible refine isCall (f := 94) ?_); refine callA ?_) | ((with_reducible refine isCall0 (f := 94) ?_); refine callA0 ?_) | ((with_reducible refine isCallS (f := 94) ?_); refine (trim_ok 54 (la - n + 1) Q hI.lq (by omega) hI.oq (fun m k1 k2 => Stop.mk ?_))) | ((with_reducible refine isDraw [some 62, some 63, some 64, some 65, some 66, some 67, some 68, some 69, some 70, some 71, some 72, some 73, some 74, some 75, some 76, some 77, some 78, some 79, some 80, some 81, some 82, some 83, some 84, none] (by decide) ?_); refine draw_rule [(0, []), (1, []), (2, []), (3, []), (4, []), (5, []), (6, []), (7, []), (8, []), (9, []), (10, []), (11, []), (12, []), (13, []), (14, []), (15, []), (16, []), (17, []), (18, []), (19, []), (20, []), (21, []), (22, []), (23, [])] [[], [], [], [], [], [], [5], [4, 5, 6], [4, 5, 6, 7], [2, 3, 4, 5, 6, 7, 8], [], [], [], [], [], [14], [13, 14, 15], [13, 14, 15, 16], [11, 12, 13, 14, 15, 16, 17], [], [11, 12, 13, 14, 15, 16, 17, 18, 19], [2, 3, 4, 5, 6, 7, 8, 9, 10, 11, 12, 13, 14, 15, 16, 17, 18, 19, 20], [0, 1, 2, 3, 4, 5, 6, 7, 8, 9, 10, 11, 12, 13, 14, 15, 16, 17, 18, 19, 20, 21], [0, 1, 2, 3, 4, 5, 6, 7, 8, 9, 10, 11, 12, 13, 14, 15, 16, 17, 18, 19, 20, 21, 22]] [62, 63, 64, 65, 66, 67, 68, 69, 70, 71, 72, 73, 74, 75, 76, 77, 78, 79, 80, 81, 82, 83] [] (by kernel_rfl) (by kernel_rfl) (by kernel_rfl) (by kernel_rfl) (by exact trivial) ?_) | (refine And.intro ?ob ?_; case ob => ((try simp only [sxO, ne_eq, maxLen] at *); omega)) | fail) <;> (try simp (config := { maxSteps := 1000000 }) only [hb0, cE_ment, hasK_nil, cE_kill, cE_len, u32_one, u32_app1, u32_set, Nat.mul_one, dvSt, d2, ↓hold_pre, awayP, runOps, regK, step1, newK, genR, appR, obl, buildR, Value.cells, closeK, keepH, outV, retK, ret1, retC, RetV, Option.getD, runD, stepD, afterK, undef, simprocAttr, sxB, ↓sxD, sxE, sxTab]))
    rw [e1] at k2 ⊢
    refine Stop.go ?_
    (replace hb0 := true_and True); refine Go1.mk ?_; repeat' ((first | (with_reducible refine Go1.go ?_) | ((with_reducible first | refine brv_mk ?_ ?_ | refine gsplitD ?_ ?_ | refine gsplitG ?_ ?_) <;> intro h <;> (try simp only [Bool.not_eq_true', Bool.not_eq_false'] at h) <;> replace hb0 := h) | ((with_reducible refine isCall (f := 94) ?_); refine callA ?_) | ((with_reducible refine isCall0 (f := 94) ?_); refine callA0 ?_) | ((with_reducible refine isCallS (f := 94) ?_); refine (trim_ok 1013 (la + 1) U hI.lu (by omega) hI.ou (fun m2 k3 k4 => Stop.mk ?_))) | ((with_reducible refine isDraw [some 62, some 63, some 64, some 65, some 66, some 67, some 68, some 69, some 70, some 71, some 72, some 73, some 74, some 75, some 76, some 77, some 78, some 79, some 80, some 81, some 82, some 83, some 84, none] (by decide) ?_); refine draw_rule [(0, []), (1, []), (2, []), (3, []), (4, []), (5, []), (6, []), (7, []), (8, []), (9, []), (10, []), (11, []), (12, []), (13, []), (14, []), (15, []), (16, []), (17, []), (18, []), (19, []), (20, []), (21, []), (22, []), (23, [])] [[], [], [], [], [], [], [5], [4, 5, 6], [4, 5, 6, 7], [2, 3, 4, 5, 6, 7, 8], [], [], [], [], [], [14], [13, 14, 15], [13, 14, 15, 16], [11, 12, 13, 14, 15, 16, 17], [], [11, 12, 13, 14, 15, 16, 17, 18, 19], [2, 3, 4, 5, 6, 7, 8, 9, 10, 11, 12, 13, 14, 15, 16, 17, 18, 19, 20], [0, 1, 2, 3, 4, 5, 6, 7, 8, 9, 10, 11, 12, 13, 14, 15, 16, 17, 18, 19, 20, 21], [0, 1, 2, 3, 4, 5, 6, 7, 8, 9, 10, 11, 12, 13, 14, 15, 16, 17, 18, 19, 20, 21, 22]] [62, 63, 64, 65, 66, 67, 68, 69, 70, 71, 72, 73, 74, 75, 76, 77, 78, 79, 80, 81, 82, 83] [] (by kernel_rfl) (by kernel_rfl) (by kernel_rfl) (by kernel_rfl) (by exact trivial) ?_) | (refine And.intro ?ob ?_; case ob => ((try simp only [sxO, ne_eq, maxLen] at *); omega)) | fail) <;> (try simp (config := { maxSteps := 1000000 }) only [hb0, cE_ment, hasK_nil, cE_kill, cE_len, u32_one, u32_app1, u32_set, Nat.mul_one, dvSt, d2, ↓hold_pre, awayP, runOps, regK, step1, newK, genR, appR, obl, buildR, Value.cells, closeK, keepH, outV, retK, ret1, retC, RetV, Option.getD, runD, stepD, afterK, undef, simprocAttr, sxB, ↓sxD, sxE, sxTab]))
    refine Stop.go ?_
    (replace hb0 := true_and True); refine Go1.mk ?_; repeat' ((first | (with_reducible refine Go1.go ?_) | ((with_reducible first | refine brv_mk ?_ ?_ | refine gsplitD ?_ ?_ | refine gsplitG ?_ ?_) <;> intro h <;> (try simp only [Bool.not_eq_true', Bool.not_eq_false'] at h) <;> replace hb0 := h) | ((with_reducible refine isCall (f := 103) ?_); refine callA ?_) | ((with_reducible refine isCall0 (f := 103) ?_); refine callA0 ?_) | ((with_reducible refine isCallS (f := 103) ?_); refine (unshift_bor 1013 m2 s _ (ofN (valN U)) k4 ?_ (okN_ofN _) hs32 (fun w M' k5 k6 k7 => Stop.mk ?_))) | ((with_reducible refine isDraw [some 62, some 63, some 64, some 65, some 66, some 67, some 68, some 69, some 70, some 71, some 72, some 73, some 74, some 75, some 76, some 77, some 78, some 79, some 80, some 81, some 82, some 83, some 84, none] (by decide) ?_); refine draw_rule [(0, []), (1, []), (2, []), (3, []), (4, []), (5, []), (6, []), (7, []), (8, []), (9, []), (10, []), (11, []), (12, []), (13, []), (14, []), (15, []), (16, []), (17, []), (18, []), (19, []), (20, []), (21, []), (22, []), (23, [])] [[], [], [], [], [], [], [5], [4, 5, 6], [4, 5, 6, 7], [2, 3, 4, 5, 6, 7, 8], [], [], [], [], [], [14], [13, 14, 15], [13, 14, 15, 16], [11, 12, 13, 14, 15, 16, 17], [], [11, 12, 13, 14, 15, 16, 17, 18, 19], [2, 3, 4, 5, 6, 7, 8, 9, 10, 11, 12, 13, 14, 15, 16, 17, 18, 19, 20], [0, 1, 2, 3, 4, 5, 6, 7, 8, 9, 10, 11, 12, 13, 14, 15, 16, 17, 18, 19, 20, 21], [0, 1, 2, 3, 4, 5, 6, 7, 8, 9, 10, 11, 12, 13, 14, 15, 16, 17, 18, 19, 20, 21, 22]] [62, 63, 64, 65, 66, 67, 68, 69, 70, 71, 72, 73, 74, 75, 76, 77, 78, 79, 80, 81, 82, 83] [] (by kernel_rfl) (by kernel_rfl) (by kernel_rfl) (by kernel_rfl) (by exact trivial) ?_) | (refine And.intro ?ob ?_; case ob => ((try simp only [sxO, ne_eq, maxLen] at *); omega)) | fail) <;> (try simp (config := { maxSteps := 1000000 }) only [hb0, cE_ment, hasK_nil, cE_kill, cE_len, u32_one, u32_app1, u32_set, Nat.mul_one, ↓hold_pre, awayP, runOps, regK, step1, newK, genR, appR, obl, buildR, Value.cells, closeK, keepH, outV, retK, ret1, retC, RetV, Option.getD, runD, stepD, afterK, undef, simprocAttr, sxB, ↓sxD, sxE, sxTab]))
    · have := ofN_len_le (valN_lt hI.ou)
      rw [hI.lu] at this
      omega
    rw [valN_ofN, e2] at k6
    refine Stop.go ?_
    have k8 := k2.symm
    subst k8
    exact FrzF.tup [] [w] ((ofN (x / y)).map u32V) rfl (by simp) (fun q M2 a1 a2 a3 => hK q w M2 (Mem.le.trans k5 a1) a2 (k6.le a1) (a3.le k5) k7)
  obtain ⟨i, rfl⟩ : ∃ i, j = i + 1 := ⟨j - 1, by omega⟩
  have ej : (((i + 1 : Nat) : Int) - 1) = (i : Int) := by omega
  have d2 : decide ((0 : Int) ≤ (i : Int)) = true := by simp
  obtain ⟨hU, hlC, hCV, hS0, hvC⟩ := div_part hI hwn (show i + (n + 1) ≤ la + 1 by omega)
  have hPl : (U.take i).length = i := by rw [List.length_take, hI.lu]; omega
  have hoC : okN ((U.drop i).take (n + 1)) := okN_take (okN_drop hI.ou i) (n + 1)
  have step : ∀ (C' : List Nat) (d : Nat), C'.length = n + 1 → okN C' → valN C' + d * (y * 2 ^ s) = valN ((U.drop i).take (n + 1)) → valN C' < y * 2 ^ s → d < 4294967296 → DivI (y * 2 ^ s) i (la - n + 1) (la + 1) U0 (U.take i ++ (C' ++ U.drop (i + (n + 1)))) (Q.set i d) := fun C' d f1 f2 f3 f4 f5 =>
    div_step hI hwn (by omega) h1 (by omega) f1 f2 f3 f4 f5
  have hQl := hI.lq
  generalize U.take i = P at *
  generalize (U.drop i).take (n + 1) = C at *
  generalize U.drop (i + (n + 1)) = S at *
  subst hU
  clear hI hst hvC
  rw [← valN_ofN (y * 2 ^ s)] at hCV
  have hdC : valN C / valN (ofN (y * 2 ^ s)) < 4294967296 := by rw [Nat.div_lt_iff_lt_mul hB0]; exact hCV
  have htop : 2147483648 ≤ (ofN (y * 2 ^ s))[n - 1]'(by omega) := hbt (by omega)
  have w5 : IntKind.i64.wrap ((i : Int) + (n : Int)) = ((i + n : Nat) : Int) := by rw [wrap_id (by omega) (by omega)]; omega
  have w6 : IntKind.i64.wrap (((i + n : Nat) : Int) + 1) = ((i + n + 1 : Nat) : Int) := succ_i (by omega)
  have w7 : IntKind.i64.wrap ((i : Int) - 1) = (i : Int) - 1 := wrap_id (by omega) (by omega)
  have e5 : i + n + 1 - i = n + 1 := by omega
  have d3 : (0 : Int) ≤ (i : Int) := by omega
  have d4 : (i : Int) ≤ ((i + n + 1 : Nat) : Int) := by omega
  have d5 : ((i + n + 1 : Nat) : Int) ≤ ((la + 1 : Nat) : Int) := by omega
  have d6 : (i : Int) < ((la - n + 1 : Nat) : Int) := by omega
  have d7 : (i < Q.length) = True := by simp; omega
  (replace hb0 := true_and True); refine Go1.mk ?_; repeat' ((first | (with_reducible refine Go1.go ?_) | ((with_reducible first | refine brv_mk ?_ ?_ | refine gsplitD ?_ ?_ | refine gsplitG ?_ ?_) <;> intro h <;> (try simp only [Bool.not_eq_true', Bool.not_eq_false'] at h) <;> replace hb0 := h) | ((with_reducible refine isCall (f := 102) ?_); refine callA ?_) | ((with_reducible refine isCall0 (f := 102) ?_); refine callA0 ?_) | ((with_reducible refine isCallS (f := 102) ?_); refine (guess_bor P C S (ofN (y * 2 ^ s)) i n hPl hn2 (by omega) hlC hbl hoC (okN_ofN _) htop hCV (fun q q1 q2 q3 => Stop.mk ?_))) | ((with_reducible refine isDraw [some 62, some 63, some 64, some 65, some 66, some 67, some 68, some 69, some 70, some 71, some 72, some 73, some 74, some 75, some 76, some 77, some 78, some 79, some 80, some 81, some 82, some 83, some 84, none] (by decide) ?_); refine draw_rule [(0, []), (1, []), (2, []), (3, []), (4, []), (5, []), (6, []), (7, []), (8, []), (9, []), (10, []), (11, []), (12, []), (13, []), (14, []), (15, []), (16, []), (17, []), (18, []), (19, []), (20, []), (21, []), (22, []), (23, [])] [[], [], [], [], [], [], [5], [4, 5, 6], [4, 5, 6, 7], [2, 3, 4, 5, 6, 7, 8], [], [], [], [], [], [14], [13, 14, 15], [13, 14, 15, 16], [11, 12, 13, 14, 15, 16, 17], [], [11, 12, 13, 14, 15, 16, 17, 18, 19], [2, 3, 4, 5, 6, 7, 8, 9, 10, 11, 12, 13, 14, 15, 16, 17, 18, 19, 20], [0, 1, 2, 3, 4, 5, 6, 7, 8, 9, 10, 11, 12, 13, 14, 15, 16, 17, 18, 19, 20, 21], [0, 1, 2, 3, 4, 5, 6, 7, 8, 9, 10, 11, 12, 13, 14, 15, 16, 17, 18, 19, 20, 21, 22]] [62, 63, 64, 65, 66, 67, 68, 69, 70, 71, 72, 73, 74, 75, 76, 77, 78, 79, 80, 81, 82, 83] [] (by kernel_rfl) (by kernel_rfl) (by kernel_rfl) (by kernel_rfl) (by exact trivial) ?_) | (refine And.intro ?ob ?_; case ob => ((try simp only [sxO, ne_eq, maxLen] at *); omega)) | fail) <;> (try simp (config := { maxSteps := 1000000 }) only [hb0, cE_ment, hasK_nil, cE_kill, cE_len, u32_one, u32_app1, u32_set, Nat.mul_one, dvSt, rdH, ej, d2, d3, d4, d5, d6, d7, w5, w6, w7, e5, ↓hold_pre, awayP, runOps, regK, step1, newK, genR, appR, obl, buildR, Value.cells, closeK, keepH, outV, retK, ret1, retC, RetV, Option.getD, runD, stepD, afterK, undef, simprocAttr, sxB, ↓sxD, sxE, sxTab]))
  refine Stop.go ?_
  (replace hb0 := true_and True); refine Go1.mk ?_; repeat' ((first | (with_reducible refine Go1.go ?_) | ((with_reducible first | refine brv_mk ?_ ?_ | refine gsplitD ?_ ?_ | refine gsplitG ?_ ?_) <;> intro h <;> (try simp only [Bool.not_eq_true', Bool.not_eq_false'] at h) <;> replace hb0 := h) | ((with_reducible refine isCall (f := 101) ?_); refine callA ?_) | ((with_reducible refine isCall0 (f := 101) ?_); refine callA0 ?_) | ((with_reducible refine isCallS (f := 101) ?_); refine (reduce_ok P C S (ofN (y * 2 ^ s)) i n q hPl hlC hbl (by omega) (by omega) hoC (okN_ofN _) q1 hB0 q2 q3 (fun C' f1 f2 f3 f4 => Stop.mk ?_))) | ((with_reducible refine isDraw [some 62, some 63, some 64, some 65, some 66, some 67, some 68, some 69, some 70, some 71, some 72, some 73, some 74, some 75, some 76, some 77, some 78, some 79, some 80, some 81, some 82, some 83, some 84, none] (by decide) ?_); refine draw_rule [(0, []), (1, []), (2, []), (3, []), (4, []), (5, []), (6, []), (7, []), (8, []), (9, []), (10, []), (11, []), (12, []), (13, []), (14, []), (15, []), (16, []), (17, []), (18, []), (19, []), (20, []), (21, []), (22, []), (23, [])] [[], [], [], [], [], [], [5], [4, 5, 6], [4, 5, 6, 7], [2, 3, 4, 5, 6, 7, 8], [], [], [], [], [], [14], [13, 14, 15], [13, 14, 15, 16], [11, 12, 13, 14, 15, 16, 17], [], [11, 12, 13, 14, 15, 16, 17, 18, 19], [2, 3, 4, 5, 6, 7, 8, 9, 10, 11, 12, 13, 14, 15, 16, 17, 18, 19, 20], [0, 1, 2, 3, 4, 5, 6, 7, 8, 9, 10, 11, 12, 13, 14, 15, 16, 17, 18, 19, 20, 21], [0, 1, 2, 3, 4, 5, 6, 7, 8, 9, 10, 11, 12, 13, 14, 15, 16, 17, 18, 19, 20, 21, 22]] [62, 63, 64, 65, 66, 67, 68, 69, 70, 71, 72, 73, 74, 75, 76, 77, 78, 79, 80, 81, 82, 83] [] (by kernel_rfl) (by kernel_rfl) (by kernel_rfl) (by kernel_rfl) (by exact trivial) ?_) | (refine And.intro ?ob ?_; case ob => ((try simp only [sxO, ne_eq, maxLen] at *); omega)) | fail) <;> (try simp (config := { maxSteps := 1000000 }) only [hb0, cE_ment, hasK_nil, cE_kill, cE_len, u32_one, u32_app1, u32_set, Nat.mul_one, rdH, ej, d2, d3, d4, d5, d6, d7, w5, w6, w7, e5, ↓hold_pre, awayP, runOps, regK, step1, newK, genR, appR, obl, buildR, Value.cells, closeK, keepH, outV, retK, ret1, retC, RetV, Option.getD, runD, stepD, afterK, undef, simprocAttr, sxB, ↓sxD, sxE, sxTab]))
  rw [valN_ofN] at f3 f4 hdC ⊢
  have st := step C' _ f1 f2 f3 f4 hdC
  refine Stop.go ?_
  (replace hb0 := true_and True); refine Go1.mk ?_; repeat' ((first | (with_reducible refine Go1.go ?_) | ((with_reducible first | refine brv_mk ?_ ?_ | refine gsplitD ?_ ?_ | refine gsplitG ?_ ?_) <;> intro h <;> (try simp only [Bool.not_eq_true', Bool.not_eq_false'] at h) <;> replace hb0 := h) | ((with_reducible refine isDraw [some 62, some 63, some 64, some 65, some 66, some 67, some 68, some 69, some 70, some 71, some 72, some 73, some 74, some 75, some 76, some 77, some 78, some 79, some 80, some 81, some 82, some 83, some 84, none] (by decide) ?_); refine draw_rule [(0, []), (1, []), (2, []), (3, []), (4, []), (5, []), (6, []), (7, []), (8, []), (9, []), (10, []), (11, []), (12, []), (13, []), (14, []), (15, []), (16, []), (17, []), (18, []), (19, []), (20, []), (21, []), (22, []), (23, [])] [[], [], [], [], [], [], [5], [4, 5, 6], [4, 5, 6, 7], [2, 3, 4, 5, 6, 7, 8], [], [], [], [], [], [14], [13, 14, 15], [13, 14, 15, 16], [11, 12, 13, 14, 15, 16, 17], [], [11, 12, 13, 14, 15, 16, 17, 18, 19], [2, 3, 4, 5, 6, 7, 8, 9, 10, 11, 12, 13, 14, 15, 16, 17, 18, 19, 20], [0, 1, 2, 3, 4, 5, 6, 7, 8, 9, 10, 11, 12, 13, 14, 15, 16, 17, 18, 19, 20, 21], [0, 1, 2, 3, 4, 5, 6, 7, 8, 9, 10, 11, 12, 13, 14, 15, 16, 17, 18, 19, 20, 21, 22]] [62, 63, 64, 65, 66, 67, 68, 69, 70, 71, 72, 73, 74, 75, 76, 77, 78, 79, 80, 81, 82, 83] [] (by kernel_rfl) (by kernel_rfl) (by kernel_rfl) (by kernel_rfl) (by exact trivial) ?_) | (refine And.intro ?ob ?_; case ob => ((try simp only [sxO, ne_eq, maxLen] at *); omega)) | fail) <;> (try simp (config := { maxSteps := 1000000 }) only [hb0, cE_ment, hasK_nil, cE_kill, cE_len, u32_one, u32_app1, u32_set, Nat.mul_one, rdH, ej, d2, d3, d4, d5, d6, d7, w5, w6, w7, e5, ↓hold_pre, awayP, runOps, regK, step1, newK, genR, appR, obl, buildR, Value.cells, closeK, keepH, outV, retK, ret1, retC, RetV, Option.getD, runD, stepD, afterK, undef, simprocAttr, sxB, ↓sxD, sxE, sxTab]))
  exact ⟨i, dvSt M la (la - n + 1) n s i _ _ _, by omega, le_sub ⟨rfl, rfl, rfl, rfl, rfl, trivial⟩ ⟨rfl, rfl, rfl, trivial⟩ rfl rfl rfl (keepLt0 _), i, _, _, rfl, by omega, st, rfl⟩
end
end Go.Proofs.YtamghpnjdohnjaaDoor.Sx
namespace Go.Proofs.YtamghpnjdohnjaaDoor.Sx
open Go Go.RowKit
set_option linter.unusedVariables false
set_option linter.unusedSimpArgs false
set_option maxRecDepth 100000
set_option maxHeartbeats 8000000
attribute [local congr] fin_congr finG_congr stepG_congr step1_congr runOps_congr brv_congr obl_congr condK_congr LoopK_congr seqK_congr CutK_congr vc_congr DrawK_congr regK_congr CallK_congr AskK_congr newK_congr retC_congr ret1_congr retK_congr outV_congr closeK_congr genR_congr appR_congr finD_congr finGD_congr stepGD_congr stepD_congr CallK0_congr runD_congr okR_congr CallS_congr vcX_congr
attribute [local congr] Stop_congr
section
variable {M : Mem} {K : AV → Hp → Mem → Prop}
def gcSt (M : Mem) (u v : Value) : St := { env := [(0, .ext u), (1, .ext v)], hp := [], M := M, kb := 0, fx := [] }
theorem gcd_ok (u v : Value) (x y : Nat) (hu : IsL M u32V u (ofN x)) (hv : IsL M u32V v (ofN y)) (hx : (ofN x).length < 10000000) (hy : (ofN y).length < 10000000) (hK : NatK M K (Nat.gcd x y)) : CallS Tryd.prog 56 [.ext u, .ext v] [] M [] K := by
  refine inlS (cs := []) Tryd.mixed Tryd.func56 rfl (by kernel_rfl) 0 rfl rfl ?_
  simp only [Tryd.f56]
  (replace hb0 := true_and True); refine Go1.mk ?_; repeat' ((first | (with_reducible refine Go1.go ?_) | ((with_reducible first | refine brv_mk ?_ ?_ | refine gsplitD ?_ ?_ | refine gsplitG ?_ ?_) <;> intro h <;> (try simp only [Bool.not_eq_true', Bool.not_eq_false'] at h) <;> replace hb0 := h) | (refine And.intro ?ob ?_; case ob => ((try simp only [sxO, ne_eq, maxLen] at *); omega)) | fail) <;> (try simp (config := { maxSteps := 1000000 }) only [hb0, cE_ment, hasK_nil, cE_kill, cE_len, u32_one, u32_app1, u32_set, Nat.mul_one, hu.one, hv.one, ↓hold_pre, awayP, runOps, regK, step1, newK, genR, appR, obl, buildR, Value.cells, closeK, keepH, outV, retK, ret1, retC, RetV, Option.getD, runD, stepD, afterK, undef, simprocAttr, sxB, ↓sxD, sxE, sxTab]))
  refine ⟨fun d z => ∃ M' u v a b, b = d ∧ Mem.le M M' ∧ IsL M' u32V u (ofN a) ∧ IsL M' u32V v (ofN b) ∧ (ofN a).length < 10000000 ∧ (ofN b).length < 10000000 ∧ Nat.gcd a b = Nat.gcd x y ∧ z = gcSt M' u v,
    ⟨y, gcSt M u v, le_sub ⟨rfl, rfl, trivial⟩ trivial rfl rfl rfl (keepLt0 _), ⟨M, u, v, x, y, rfl, Mem.le.refl _, hu, hv, hx, hy, rfl, rfl⟩⟩, ?_⟩
  clear hu hv
  rintro d z ⟨M1, u, v, a, b, rfl, hM1, hu, hv, ha, hb, hg, rfl⟩
  by_cases hlt : 0 < (ofN b).length
  case neg =>
    have hl0 : (ofN b).length = 0 := by omega
    have d1 : decide ((0 : Int) < ((ofN b).length : Int)) = false := by rw [hl0]; rfl
    have hb0 : b = 0 := ofN_nil.1 (List.length_eq_zero_iff.1 hl0)
    subst hb0
    rw [Nat.gcd_zero_right] at hg
    rw [← hg] at hK
    (replace hb0 := true_and True); refine Go1.mk ?_; repeat' ((first | (with_reducible refine Go1.go ?_) | ((with_reducible first | refine brv_mk ?_ ?_ | refine gsplitD ?_ ?_ | refine gsplitG ?_ ?_) <;> intro h <;> (try simp only [Bool.not_eq_true', Bool.not_eq_false'] at h) <;> replace hb0 := h) | ((first | (with_reducible refine isCall (f := 90) ?_; refine callA_nil (by kernel_rfl) ?_) | (with_reducible refine isCall0 (f := 90) ?_; refine callA0_nil (by kernel_rfl) ?_)); refine (clone_ok u (ofN a) hu (by omega) (fun w M' h1 h2 h3 => ?_))) | (refine And.intro ?ob ?_; case ob => ((try simp only [sxO, ne_eq, maxLen] at *); omega)) | fail) <;> (try simp (config := { maxSteps := 1000000 }) only [hb0, cE_ment, hasK_nil, cE_kill, cE_len, u32_one, u32_app1, u32_set, Nat.mul_one, gcSt, d1, hu.one, hv.one, hv.len, hv.sl, ↓hold_pre, awayP, runOps, regK, step1, newK, genR, appR, obl, buildR, Value.cells, closeK, keepH, outV, retK, ret1, retC, RetV, Option.getD, runD, stepD, afterK, undef, simprocAttr, sxB, ↓sxD, sxE, sxTab]))
    exact hK _ _ (hM1.trans h1) h2 (h3.le hM1)
  have d1 : decide ((0 : Int) < ((ofN b).length : Int)) = true := by simp; omega
  have hbp : 0 < b := by
    rcases Nat.eq_zero_or_pos b with h | h
    · subst h; rw [ofN_zero] at hlt; simp at hlt
    · exact h
  have hlt2 := Nat.mod_lt a hbp
  have hlen := len_mono (Nat.le_of_lt hlt2)
  (replace hb0 := true_and True); refine Go1.mk ?_; repeat' ((first | (with_reducible refine Go1.go ?_) | ((with_reducible first | refine brv_mk ?_ ?_ | refine gsplitD ?_ ?_ | refine gsplitG ?_ ?_) <;> intro h <;> (try simp only [Bool.not_eq_true', Bool.not_eq_false'] at h) <;> replace hb0 := h) | ((first | (with_reducible refine isCall (f := 77) ?_; refine callA_nil (by kernel_rfl) ?_) | (with_reducible refine isCall0 (f := 77) ?_; refine callA0_nil (by kernel_rfl) ?_)); refine (divide_ok u v a b hu hv ha hb hbp (fun q r M' h1 h2 h3 h4 h5 => Stop.mk ?_))) | (refine And.intro ?ob ?_; case ob => ((try simp only [sxO, ne_eq, maxLen] at *); omega)) | fail) <;> (try simp (config := { maxSteps := 1000000 }) only [hb0, cE_ment, hasK_nil, cE_kill, cE_len, u32_one, u32_app1, u32_set, Nat.mul_one, gcSt, d1, hu.one, hv.one, hv.len, hv.sl, ↓hold_pre, awayP, runOps, regK, step1, newK, genR, appR, obl, buildR, Value.cells, closeK, keepH, outV, retK, ret1, retC, RetV, Option.getD, runD, stepD, afterK, undef, simprocAttr, sxB, ↓sxD, sxE, sxTab]))
  refine Stop.go ?_
  (replace hb0 := true_and True); refine Go1.mk ?_; repeat' ((first | (with_reducible refine Go1.go ?_) | ((with_reducible first | refine brv_mk ?_ ?_ | refine gsplitD ?_ ?_ | refine gsplitG ?_ ?_) <;> intro h <;> (try simp only [Bool.not_eq_true', Bool.not_eq_false'] at h) <;> replace hb0 := h) | (refine And.intro ?ob ?_; case ob => ((try simp only [sxO, ne_eq, maxLen] at *); omega)) | fail) <;> (try simp (config := { maxSteps := 1000000 }) only [hb0, cE_ment, hasK_nil, cE_kill, cE_len, u32_one, u32_app1, u32_set, Nat.mul_one, gcSt, d1, hu.one, hv.one, hv.len, hv.sl, h2.one, h3.one, ↓hold_pre, awayP, runOps, regK, step1, newK, genR, appR, obl, buildR, Value.cells, closeK, keepH, outV, retK, ret1, retC, RetV, Option.getD, runD, stepD, afterK, undef, simprocAttr, sxB, ↓sxD, sxE, sxTab]))
  exact ⟨a % b, gcSt M' v r, by omega, le_sub ⟨rfl, rfl, trivial⟩ trivial rfl rfl rfl (keepLt0 _), M', v, r, b, a % b, rfl, hM1.trans h1, hv.le h1, h3, hb, by omega, by
    rw [← hg, Nat.gcd_comm b, ← Nat.gcd_rec, Nat.gcd_comm], rfl⟩
end
end Go.Proofs.YtamghpnjdohnjaaDoor.Sx
namespace Go.Proofs.YtamghpnjdohnjaaDoor.Sx
open Go Go.RowKit
set_option linter.unusedVariables false
set_option linter.unusedSimpArgs false
set_option maxRecDepth 100000
set_option maxHeartbeats 8000000
attribute [local congr] fin_congr finG_congr stepG_congr step1_congr runOps_congr brv_congr obl_congr condK_congr LoopK_congr seqK_congr CutK_congr vc_congr DrawK_congr regK_congr CallK_congr AskK_congr newK_congr retC_congr ret1_congr retK_congr outV_congr closeK_congr genR_congr appR_congr finD_congr finGD_congr stepGD_congr stepD_congr CallK0_congr runD_congr okR_congr CallS_congr vcX_congr
attribute [local congr] Stop_congr
def chkN (l : List Nat) : Bool := decide (l.length ≤ 128) && (decide (l.length = 0) || !decide (l.getD (l.length - 1) 0 = 0))
theorem chkN_ok {l : List Nat} (ho : okN l) (h : chkN l = true) : l = ofN (valN l) ∧ l.length ≤ 128 := by
  simp only [chkN, Bool.and_eq_true, Bool.or_eq_true, decide_eq_true_eq, Bool.not_eq_true', decide_eq_false_iff_not] at h
  refine ⟨canon ho fun hl => ?_, h.1⟩
  have h2 := h.2.resolve_left (by omega)
  simpa [List.getD, show l.length - 1 < l.length by omega] using h2
theorem chkN_ofN {n : Nat} (h : (ofN n).length ≤ 128) : chkN (ofN n) = true := by
  simp only [chkN, Bool.and_eq_true, Bool.or_eq_true, decide_eq_true_eq, Bool.not_eq_true', decide_eq_false_iff_not]
  refine ⟨h, ?_⟩
  rcases Nat.eq_zero_or_pos (ofN n).length with h1 | h1
  · exact .inl h1
  · right
    have := trimmed_ofN n h1
    simpa [List.getD, show (ofN n).length - 1 < (ofN n).length by omega] using this
section
variable {M : Mem} {K : AV → Hp → Mem → Prop}
theorem check_ok (u : Value) (l : List Nat) (hu : IsL M u32V u l) (hb : l.length < 1000000000) (hK : K (.ext (.bool (chkN l))) [] M) : CallS Tryd.prog 50 [.ext u] [] M [] K := by
  refine inlS (cs := []) Tryd.mixed Tryd.func50 rfl (by kernel_rfl) 0 rfl rfl ?_
  simp only [Tryd.f50]
  by_cases h1 : l.length ≤ 128
  · have d1 : decide ((l.length : Int) ≤ 128) = true := by simp; omega
    by_cases h2 : l.length = 0
    · have d2 : decide ((l.length : Int) = 0) = true := by rw [h2]; rfl
      rw [show chkN l = true by simp [chkN, h1, h2]] at hK
      (replace hb0 := true_and True); refine Go1.mk ?_; repeat' ((first | (with_reducible refine Go1.go ?_) | ((with_reducible first | refine brv_mk ?_ ?_ | refine gsplitD ?_ ?_ | refine gsplitG ?_ ?_) <;> intro h <;> (try simp only [Bool.not_eq_true', Bool.not_eq_false'] at h) <;> replace hb0 := h) | (refine And.intro ?ob ?_; case ob => ((try simp only [sxO, ne_eq, maxLen] at *); omega)) | fail) <;> (try simp (config := { maxSteps := 1000000 }) only [hb0, cE_ment, hasK_nil, cE_kill, cE_len, u32_one, u32_app1, u32_set, Nat.mul_one, hu.one, hu.len, hu.sl, d1, d2, ↓hold_pre, awayP, runOps, regK, step1, newK, genR, appR, obl, buildR, Value.cells, closeK, keepH, outV, retK, ret1, retC, RetV, Option.getD, runD, stepD, afterK, undef, simprocAttr, sxB, ↓sxD, sxE, sxTab]))
      exact hK
    · have d2 : decide ((l.length : Int) = 0) = false := by rw [decide_eq_false_iff_not]; omega
      have hi := hu.idx (P := Tryd.prog) (T := 70) tk70 tz70 (by omega) (show l.length - 1 < l.length by omega)
      have w1 : IntKind.i64.wrap ((l.length : Int) - 1) = ((l.length - 1 : Nat) : Int) := pred_i (by omega) (by omega)
      have hc : chkN l = !decide ((l[l.length - 1]'(by omega) : Int) = 0) := by
        have e : decide ((l[l.length - 1]'(by omega) : Int) = 0) = decide (l[l.length - 1]'(by omega) = 0) := by
          rw [decide_eq_decide]; omega
        rw [e]
        simp [chkN, h1, h2, List.getD, show l.length - 1 < l.length by omega]
      rw [hc] at hK
      (replace hb0 := true_and True); refine Go1.mk ?_; repeat' ((first | (with_reducible refine Go1.go ?_) | ((with_reducible first | refine brv_mk ?_ ?_ | refine gsplitD ?_ ?_ | refine gsplitG ?_ ?_) <;> intro h <;> (try simp only [Bool.not_eq_true', Bool.not_eq_false'] at h) <;> replace hb0 := h) | (refine And.intro ?ob ?_; case ob => ((try simp only [sxO, ne_eq, maxLen] at *); omega)) | fail) <;> (try simp (config := { maxSteps := 1000000 }) only [hb0, cE_ment, hasK_nil, cE_kill, cE_len, u32_one, u32_app1, u32_set, Nat.mul_one, u32V, hu.one, hu.len, hu.sl, d1, d2, hi, w1, ↓hold_pre, awayP, runOps, regK, step1, newK, genR, appR, obl, buildR, Value.cells, closeK, keepH, outV, retK, ret1, retC, RetV, Option.getD, runD, stepD, afterK, undef, simprocAttr, sxB, ↓sxD, sxE, sxTab]))
      exact hK
  · have d1 : decide ((l.length : Int) ≤ 128) = false := by simp; omega
    rw [show chkN l = false by simp [chkN, h1]] at hK
    (replace hb0 := true_and True); refine Go1.mk ?_; repeat' ((first | (with_reducible refine Go1.go ?_) | ((with_reducible first | refine brv_mk ?_ ?_ | refine gsplitD ?_ ?_ | refine gsplitG ?_ ?_) <;> intro h <;> (try simp only [Bool.not_eq_true', Bool.not_eq_false'] at h) <;> replace hb0 := h) | (refine And.intro ?ob ?_; case ob => ((try simp only [sxO, ne_eq, maxLen] at *); omega)) | fail) <;> (try simp (config := { maxSteps := 1000000 }) only [hb0, cE_ment, hasK_nil, cE_kill, cE_len, u32_one, u32_app1, u32_set, Nat.mul_one, hu.one, hu.len, hu.sl, d1, ↓hold_pre, awayP, runOps, regK, step1, newK, genR, appR, obl, buildR, Value.cells, closeK, keepH, outV, retK, ret1, retC, RetV, Option.getD, runD, stepD, afterK, undef, simprocAttr, sxB, ↓sxD, sxE, sxTab]))
    exact hK
end
end Go.Proofs.YtamghpnjdohnjaaDoor.Sx
namespace Go.Proofs.YtamghpnjdohnjaaDoor.Sx
open Go Go.RowKit
set_option linter.unusedVariables false
set_option linter.unusedSimpArgs false
set_option maxRecDepth 100000
set_option maxHeartbeats 8000000
attribute [local congr] fin_congr finG_congr stepG_congr step1_congr runOps_congr brv_congr obl_congr condK_congr LoopK_congr seqK_congr CutK_congr vc_congr DrawK_congr regK_congr CallK_congr AskK_congr newK_congr retC_congr ret1_congr retK_congr outV_congr closeK_congr genR_congr appR_congr finD_congr finGD_congr stepGD_congr stepD_congr CallK0_congr runD_congr okR_congr CallS_congr vcX_congr
attribute [local congr] Stop_congr
def NatR (M : Mem) (K : AV → Hp → Mem → Prop) (r : Int × List Nat) : Prop := ∀ w M', Mem.le M M' → IsL M' u32V w r.2 → FreshS M w → K (.ext (.tuple #[w, .int .i64 r.1])) [] M'
section
variable {M : Mem} {K : AV → Hp → Mem → Prop}
theorem NatR.err (e : Int) (h : NatR M K (e, [])) : K (.ext (.tuple #[.slice none 0 0, .int .i64 e])) [] M := h _ _ (Mem.le.refl _) (isL_nil _ _ _) (freshS_nil _ _)
theorem natOf_ok (n : Nat) (hn : n < 18446744073709551616) (hK : NatK M K n) : CallS Tryd.prog 54 [.ext (.int .u64 (n : Int))] [] M [] K := by
  refine inlS (cs := []) Tryd.mixed Tryd.func54 rfl (by kernel_rfl) 0 rfl rfl ?_
  simp only [Tryd.f54]
  (replace hb0 := true_and True); refine Go1.mk ?_; repeat' ((first | (with_reducible refine Go1.go ?_) | ((with_reducible first | refine brv_mk ?_ ?_ | refine gsplitD ?_ ?_ | refine gsplitG ?_ ?_) <;> intro h <;> (try simp only [Bool.not_eq_true', Bool.not_eq_false'] at h) <;> replace hb0 := h) | ((first | (with_reducible refine isCall (f := 82) ?_; refine callA_nil (by kernel_rfl) ?_) | (with_reducible refine isCall0 (f := 82) ?_; refine callA0_nil (by kernel_rfl) ?_)); refine (of_ok n hn (fun w M' h1 h2 h3 => Stop.mk ?_))) | (refine And.intro ?ob ?_; case ob => ((try simp only [sxO, ne_eq, maxLen] at *); omega)) | fail) <;> (try simp (config := { maxSteps := 1000000 }) only [hb0, ↓hold_pre, awayP, runOps, regK, step1, newK, genR, appR, obl, buildR, Value.cells, closeK, keepH, outV, retK, ret1, retC, RetV, Option.getD, runD, stepD, afterK, undef, simprocAttr, sxB, ↓sxD, sxE, sxTab]))
  refine Stop.go ?_
  (replace hb0 := true_and True); refine Go1.mk ?_; repeat' ((first | (with_reducible refine Go1.go ?_) | ((with_reducible first | refine brv_mk ?_ ?_ | refine gsplitD ?_ ?_ | refine gsplitG ?_ ?_) <;> intro h <;> (try simp only [Bool.not_eq_true', Bool.not_eq_false'] at h) <;> replace hb0 := h) | (refine And.intro ?ob ?_; case ob => ((try simp only [sxO, ne_eq, maxLen] at *); omega)) | fail) <;> (try simp (config := { maxSteps := 1000000 }) only [hb0, h2.one, ↓hold_pre, awayP, runOps, regK, step1, newK, genR, appR, obl, buildR, Value.cells, closeK, keepH, outV, retK, ret1, retC, RetV, Option.getD, runD, stepD, afterK, undef, simprocAttr, sxB, ↓sxD, sxE, sxTab]))
  exact hK _ _ h1 h2 h3
variable {u v : Value} {l1 l2 : List Nat}
def NatD (M : Mem) (K : AV → Hp → Mem → Prop) (r : Int × List Nat × List Nat) : Prop := ∀ q w M', Mem.le M M' → IsL M' u32V q r.2.1 → IsL M' u32V w r.2.2 → FreshS M q → FreshS M w → K (.ext (.tuple #[q, w, .int .i64 r.1])) [] M'
theorem NatD.err (e : Int) (h : NatD M K (e, [], [])) : K (.ext (.tuple #[.slice none 0 0, .slice none 0 0, .int .i64 e])) [] M := h _ _ _ (Mem.le.refl _) (isL_nil _ _ _) (isL_nil _ _ _) (freshS_nil _ _) (freshS_nil _ _)
end
end Go.Proofs.YtamghpnjdohnjaaDoor.Sx
