import Derived.Test.YtamghpnjdohnjaaDoorRefC
/- Numbers: the reference's short quotients, shifts, and what takes a multiple off. -/
namespace Go.Proofs.YtamghpnjdohnjaaDoor.Sx
open Go Go.RowKit
set_option linter.unusedVariables false
set_option linter.unusedSimpArgs false
set_option maxRecDepth 100000
set_option maxHeartbeats 8000000
attribute [local congr] fin_congr finG_congr stepG_congr step1_congr runOps_congr brv_congr obl_congr condK_congr LoopK_congr seqK_congr CutK_congr vc_congr DrawK_congr regK_congr CallK_congr AskK_congr newK_congr retC_congr ret1_congr retK_congr outV_congr closeK_congr genR_congr appR_congr finD_congr finGD_congr stepGD_congr stepD_congr CallK0_congr runD_congr okR_congr CallS_congr vcX_congr
attribute [local congr] Stop_congr
theorem bits32_or {a b : Nat} (ha : a < 2 ^ 32) (hb : b < 2 ^ 32) : bits .or .u32 (a : Int) (b : Int) = ((a ||| b : Nat) : Int) := by
  show IntKind.u32.wrap ((BitVec.ofInt 32 (a : Int) ||| BitVec.ofInt 32 (b : Int)).toNat : Int) = _
  rw [BitVec.ofInt_natCast, BitVec.ofInt_natCast, BitVec.toNat_or, BitVec.toNat_ofNat, BitVec.toNat_ofNat]
  rw [Nat.mod_eq_of_lt ha, Nat.mod_eq_of_lt hb]
  exact wrap32_id (Nat.or_lt_two_pow ha hb)
theorem and32 (a : Nat) (ha : a < 18446744073709551616) : bits .and .u64 (a : Int) 4294967295 = ((a % 4294967296 : Nat) : Int) := by
  show IntKind.u64.wrap ((BitVec.ofInt 64 (a : Int) &&& BitVec.ofInt 64 ((4294967295 : Nat) : Int)).toNat : Int) = _
  rw [BitVec.ofInt_natCast, BitVec.ofInt_natCast, BitVec.toNat_and, BitVec.toNat_ofNat, BitVec.toNat_ofNat]
  rw [Nat.mod_eq_of_lt (show a < 2 ^ 64 by omega), Nat.mod_eq_of_lt (show 4294967295 < 2 ^ 64 by decide)]
  have h := Nat.and_two_pow_sub_one_eq_mod a 32
  rw [show (2 : Nat) ^ 32 - 1 = 4294967295 by decide, show (2 : Nat) ^ 32 = 4294967296 by decide] at h
  rw [h, wrap64_id (by omega)]
theorem subW_comm {x y b : Nat} (hx : x < 4294967296) (hy : y < 4294967296) (hb : b ≤ 1) : subW (subW x y) b = subW (subW x b) y := by
  unfold subW; omega
/-- the lower limb of what is shifted up has no digit where the carry lies -/
theorem low_or {a n o : Nat} (hn : n < 32) (ho : o < 2 ^ n) : o ||| (a * 2 ^ n % 4294967296) = o + a * 2 ^ n % 4294967296 := by
  have h1 := pow32 hn
  have h2 : a * 2 ^ n % 4294967296 = (a % 2 ^ (32 - n)) * 2 ^ n := by
    rw [← h1, Nat.mul_comm (2 ^ n) (2 ^ (32 - n)), Nat.mul_mod_mul_right]
  rw [h2, Nat.or_comm, or_add ho, Nat.add_comm]
section
variable {M : Mem} {K : AV → Hp → Mem → Prop}
def rsSt (M : Mem) (u : Value) (d : Nat) (la j r : Nat) (out : List Nat) : St := { env := [(8, .ext (.int .i64 ((j : Int) - 1))), (7, .ext (.int .u64 (r : Int))), (6, .slo 11 0 la 1), (0, .ext u), (1, .ext (.int .u64 (d : Int)))], hp := [(11, 70, cE u32V out)], M := M, kb := 0, fx := [] }
theorem rsmall_ok (u : Value) (x d : Nat) (hu : IsL M u32V u (ofN x)) (hx : (ofN x).length < 100000000) (hd : 0 < d) (hd2 : d < 4294967296)
    (hK : ∀ w M', Mem.le M M' → IsL M' u32V w (ofN (x / d)) → FreshS M w → K (.ext (.tuple #[w, .int .u64 ((x % d : Nat) : Int)])) [] M') : CallS Tryd.prog 104 [.ext u, .ext (.int .u64 (d : Int))] [] M [] K := by
  refine inlS (cs := []) Tryd.mixed Tryd.func104 rfl (by kernel_rfl) 0 rfl rfl ?_
  simp only [Tryd.f104]
  generalize hl : (ofN x).length = la at *
  have w1 : IntKind.i64.wrap ((la : Int) - 1) = (la : Int) - 1 := wrap_id (by omega) (by omega)
  (replace hb0 := true_and True); refine Go1.mk ?_; repeat' ((first | (with_reducible refine Go1.go ?_) | ((with_reducible first | refine brv_mk ?_ ?_ | refine gsplitD ?_ ?_ | refine gsplitG ?_ ?_) <;> intro h <;> (try simp only [Bool.not_eq_true', Bool.not_eq_false'] at h) <;> replace hb0 := h) | (refine And.intro ?ob ?_; case ob => ((try simp only [sxO, ne_eq, maxLen] at *); omega)) | fail) <;> (try simp (config := { maxSteps := 1000000 }) only [hb0, cE_ment, hasK_nil, cE_kill, cE_len, u32_one, u32_app1, u32_set, Nat.mul_one, hu.one, hu.len, hu.sl, hl, w1, ↓hold_pre, awayP, runOps, regK, step1, newK, genR, appR, obl, buildR, Value.cells, closeK, keepH, outV, retK, ret1, retC, RetV, Option.getD, runD, stepD, afterK, undef, simprocAttr, sxB, ↓sxD, sxE, sxTab]))
  have hz0 : List.map AV.ext (repN [Value.int .u32 0] la) = cE u32V (List.replicate la 0) := cE_rep u32V la 0
  refine ⟨fun m z => ∃ j r out, j = m ∧ j ≤ la ∧ out.length = la ∧ okN out ∧ r < d ∧ valN ((ofN x).drop j) = d * valN (out.drop j) + r ∧ z = rsSt M u d la j r out,
    ⟨la, rsSt M u d la la 0 (List.replicate la 0), le_sub ⟨rfl, rfl, rfl, rfl, rfl, trivial⟩ (by simp [subHp, rsSt, lkH, hz0]) rfl rfl rfl (keepLt0 _), ⟨la, 0, _, rfl, by omega, by simp, okN_rep _, hd, by rw [List.drop_of_length_le (by omega), List.drop_of_length_le (by simp)]; simp [valN], rfl⟩⟩, ?_⟩
  rintro m z ⟨j, r, out, rfl, hj, hlo, ho, hr, hval, rfl⟩
  by_cases hlt : 0 < j
  case neg =>
    obtain rfl : j = 0 := by omega
    have d1 : decide ((0 : Int) ≤ ((0 : Nat) : Int) - 1) = false := by simp
    rw [List.drop_zero, List.drop_zero, valN_ofN] at hval
    have e1 : valN out = x / d := by
      rw [hval, Nat.mul_add_div hd, Nat.div_eq_of_lt hr, Nat.add_zero]
    have e2 : x % d = r := by rw [hval, Nat.mul_add_mod, Nat.mod_eq_of_lt hr]
    rw [e2] at hK
    (replace hb0 := true_and True); refine Go1.mk ?_; repeat' ((first | (with_reducible refine Go1.go ?_) | ((with_reducible first | refine brv_mk ?_ ?_ | refine gsplitD ?_ ?_ | refine gsplitG ?_ ?_) <;> intro h <;> (try simp only [Bool.not_eq_true', Bool.not_eq_false'] at h) <;> replace hb0 := h) | ((with_reducible refine isCall (f := 89) ?_); refine callA ?_) | ((with_reducible refine isCall0 (f := 89) ?_); refine callA0 ?_) | ((with_reducible refine isCallS (f := 89) ?_); refine (rtrim_bor 11 la _ out hlo.symm ho (by omega) (fun w M' g1 g2 g3 => Stop.mk ?_))) | (refine And.intro ?ob ?_; case ob => ((try simp only [sxO, ne_eq, maxLen] at *); omega)) | fail) <;> (try simp (config := { maxSteps := 1000000 }) only [hb0, cE_ment, hasK_nil, cE_kill, cE_len, u32_one, u32_app1, u32_set, Nat.mul_one, rsSt, hu.one, hu.len, hu.sl, hl, d1, hlo, ↓hold_pre, awayP, runOps, regK, step1, newK, genR, appR, obl, buildR, Value.cells, closeK, keepH, outV, retK, ret1, retC, RetV, Option.getD, runD, stepD, afterK, undef, simprocAttr, sxB, ↓sxD, sxE, sxTab]))
    rw [e1] at g2
    refine Stop.go ?_
    (replace hb0 := true_and True); refine Go1.mk ?_; repeat' ((first | (with_reducible refine Go1.go ?_) | ((with_reducible first | refine brv_mk ?_ ?_ | refine gsplitD ?_ ?_ | refine gsplitG ?_ ?_) <;> intro h <;> (try simp only [Bool.not_eq_true', Bool.not_eq_false'] at h) <;> replace hb0 := h) | (refine And.intro ?ob ?_; case ob => ((try simp only [sxO, ne_eq, maxLen] at *); omega)) | fail) <;> (try simp (config := { maxSteps := 1000000 }) only [hb0, cE_ment, hasK_nil, cE_kill, cE_len, u32_one, u32_app1, u32_set, Nat.mul_one, g2.one, ↓hold_pre, awayP, runOps, regK, step1, newK, genR, appR, obl, buildR, Value.cells, closeK, keepH, outV, retK, ret1, retC, RetV, Option.getD, runD, stepD, afterK, undef, simprocAttr, sxB, ↓sxD, sxE, sxTab]))
    exact hK _ _ g1 g2 g3
  obtain ⟨i, rfl⟩ : ∃ i, j = i + 1 := ⟨j - 1, by omega⟩
  have ej : (((i + 1 : Nat) : Int) - 1) = (i : Int) := by omega
  have hil : i < (ofN x).length := by omega
  have hxi := hu.idx (P := Tryd.prog) (T := 70) tk70 tz70 (by omega) hil
  rw [hl] at hxi
  have hx0 : (ofN x)[i] < 4294967296 := ofN_ok_at hil
  have hdr := valN_drop hil
  generalize (ofN x)[i] = a at *
  have d1 : decide ((0 : Int) ≤ (i : Int)) = true := by simp
  have d2 : (i < la) = True := by simp; omega
  have w3 : IntKind.u64.wrap (a : Int) = (a : Int) := wrap64_id (by omega)
  have w4 := shl32 (a := r) (by omega)
  have w5 := or32 (a := r) (b := a) (by omega) hx0
  have w6 : IntKind.u64.wrap (d : Int) = (d : Int) := wrap64_id (by omega)
  have w7 := quo64 (s := r * 4294967296 + a) (d := d) (by omega)
  have w8 := rem64 (r * 4294967296 + a) d
  have hq := small_lt hr hx0
  have w9 := wrap32_id hq
  have w10 : IntKind.i64.wrap ((i : Int) - 1) = (i : Int) - 1 := wrap_id (by omega) (by omega)
  (replace hb0 := true_and True); refine Go1.mk ?_; repeat' ((first | (with_reducible refine Go1.go ?_) | ((with_reducible first | refine brv_mk ?_ ?_ | refine gsplitD ?_ ?_ | refine gsplitG ?_ ?_) <;> intro h <;> (try simp only [Bool.not_eq_true', Bool.not_eq_false'] at h) <;> replace hb0 := h) | (refine And.intro ?ob ?_; case ob => ((try simp only [sxO, ne_eq, maxLen] at *); omega)) | fail) <;> (try simp (config := { maxSteps := 1000000 }) only [hb0, cE_ment, hasK_nil, cE_kill, cE_len, u32_one, u32_app1, u32_set, Nat.mul_one, rsSt, u32V, ej, hu.one, hu.len, hu.sl, hl, hxi, d1, d2, w3, w4, w5, w6, w7, w8, w9, w10, hlo, ↓hold_pre, awayP, runOps, regK, step1, newK, genR, appR, obl, buildR, Value.cells, closeK, keepH, outV, retK, ret1, retC, RetV, Option.getD, runD, stepD, afterK, undef, simprocAttr, sxB, ↓sxD, sxE, sxTab]))
  exact ⟨i, rsSt M u d la i _ _, by omega, le_sub ⟨rfl, rfl, rfl, rfl, rfl, trivial⟩ ⟨rfl, trivial⟩ rfl rfl rfl (keepLt0 _), i, _, _, rfl, by omega, by rw [List.length_set]; exact hlo, okN_set ho hq, Nat.mod_lt _ hd, by
    rw [hdr, drop_set_self (by omega)]; exact small_step hd hval, rfl⟩
def upSt (M : Mem) (u : Value) (n la i kb : Nat) (out : List Nat) : St := { env := [(6, .ext (.int .i64 (i : Int))), (5, .slo (kb + 11) 0 (la + 1) 1), (0, .ext u), (1, .ext (.int .i64 (n : Int)))], hp := [(kb + 11, 70, cE u32V out)], M := M, kb := kb, fx := [] }
theorem up_ok (kb : Nat) (u : Value) (l : List Nat) (n : Nat) (hu : IsL M u32V u l) (hx : l.length < 100000000) (hol : okN l) (hn : n < 32)
    (hK : ∀ out, out.length = l.length + 1 → okN out → valN out = valN l * 2 ^ n → K (.slo (kb + 11) 0 (l.length + 1) 1) [(kb + 11, 70, cE u32V out)] M) : CallS Tryd.prog 105 [.ext u, .ext (.int .i64 (n : Int))] [] M [] K := by
  refine inlS (cs := []) Tryd.mixed Tryd.func105 rfl (by kernel_rfl) kb rfl rfl ?_
  simp only [Tryd.f105]
  generalize hl : l.length = la at *
  have w1 : IntKind.i64.wrap ((la : Int) + 1) = ((la + 1 : Nat) : Int) := succ_i (by omega)
  (replace hb0 := true_and True); refine Go1.mk ?_; repeat' ((first | (with_reducible refine Go1.go ?_) | ((with_reducible first | refine brv_mk ?_ ?_ | refine gsplitD ?_ ?_ | refine gsplitG ?_ ?_) <;> intro h <;> (try simp only [Bool.not_eq_true', Bool.not_eq_false'] at h) <;> replace hb0 := h) | (refine And.intro ?ob ?_; case ob => ((try simp only [sxO, ne_eq, maxLen] at *); omega)) | fail) <;> (try simp (config := { maxSteps := 1000000 }) only [hb0, cE_ment, hasK_nil, cE_kill, cE_len, u32_one, u32_app1, u32_set, Nat.mul_one, hu.one, hu.len, hu.sl, hl, w1, ↓hold_pre, awayP, runOps, regK, step1, newK, genR, appR, obl, buildR, Value.cells, closeK, keepH, outV, retK, ret1, retC, RetV, Option.getD, runD, stepD, afterK, undef, simprocAttr, sxB, ↓sxD, sxE, sxTab]))
  have hz0 : AV.ext (Value.int .u32 0) :: List.map AV.ext (repN [Value.int .u32 0] la) = cE u32V (List.replicate (la + 1) 0) := cE_rep u32V (la + 1) 0
  have k1 : keepLt kb (upSt M u n la 0 kb (List.replicate (la + 1) 0)).hp [(kb + 11, 70, cE u32V (List.replicate (la + 1) 0))] := ⟨.inl (by omega), trivial⟩
  refine ⟨fun d z => ∃ i out, d = la - i ∧ i ≤ la ∧ out.length = la + 1 ∧ okN out ∧ out.getD i 0 < 2 ^ n ∧ valN (out.take (i + 1)) = valN (l.take i) * 2 ^ n ∧ z = upSt M u n la i kb out,
    ⟨la, upSt M u n la 0 kb (List.replicate (la + 1) 0), le_sub ⟨rfl, rfl, rfl, rfl, trivial⟩ (by simp [subHp, upSt, lkH, hz0]) rfl rfl rfl (by rw [hz0]; exact k1), ⟨0, _, rfl, by omega, by simp, okN_rep _, by simp [List.getD, Nat.two_pow_pos n], by simp [valN, List.replicate_succ], rfl⟩⟩, ?_⟩
  rintro d z ⟨i, out, rfl, hi, hlo, ho, hc, hval, rfl⟩
  have hp2 : (2 : Nat) ^ n ≤ 2 ^ 31 := Nat.pow_le_pow_right (by decide) (by omega)
  by_cases hlt : i < la
  case neg =>
    obtain rfl : i = la := by omega
    have d1 : decide ((i : Int) < (i : Int)) = false := by simp
    rw [take_all (by omega), take_all (by omega)] at hval
    (replace hb0 := true_and True); refine Go1.mk ?_; repeat' ((first | (with_reducible refine Go1.go ?_) | ((with_reducible first | refine brv_mk ?_ ?_ | refine gsplitD ?_ ?_ | refine gsplitG ?_ ?_) <;> intro h <;> (try simp only [Bool.not_eq_true', Bool.not_eq_false'] at h) <;> replace hb0 := h) | (refine And.intro ?ob ?_; case ob => ((try simp only [sxO, ne_eq, maxLen] at *); omega)) | fail) <;> (try simp (config := { maxSteps := 1000000 }) only [hb0, cE_ment, hasK_nil, cE_kill, cE_len, u32_one, u32_app1, u32_set, Nat.mul_one, upSt, hu.one, hu.len, hu.sl, hl, d1, ↓hold_pre, awayP, runOps, regK, step1, newK, genR, appR, obl, buildR, Value.cells, closeK, keepH, outV, retK, ret1, retC, RetV, Option.getD, runD, stepD, afterK, undef, simprocAttr, sxB, ↓sxD, sxE, sxTab]))
    exact hK _ hlo ho hval
  have hil : i < l.length := by omega
  have hxi := hu.idx (P := Tryd.prog) (T := 70) tk70 tz70 (by omega) hil
  rw [hl] at hxi
  have hx0 : l[i] < 4294967296 := okN_at hol hil
  have hgx : l.getD i 0 = l[i] := by simp [List.getD, hil]
  generalize l[i] = a at *
  have hio : i < out.length := by omega
  have hat := u32_at hio
  have hgo : out.getD i 0 = out[i] := by simp [List.getD, hio]
  rw [hgo] at hc
  have htk := valN_take_succ hio
  generalize out[i] = o at *
  have hs0 := shlN hx0 hn
  have hxm := shl_carry (c := 0) hx0 (Nat.two_pow_pos n)
  rw [Nat.add_zero] at hxm
  have hxb : a * 2 ^ n ≤ a * 2 ^ 31 := Nat.mul_le_mul_left a hp2
  have hor := low_or (a := a) hn hc
  have hlow : o + a * 2 ^ n % 4294967296 < 4294967296 := by
    rw [← hor]; exact Nat.or_lt_two_pow (n := 32) (by omega) (Nat.mod_lt _ (by decide))
  have hdm := Nat.div_add_mod (a * 2 ^ n) 4294967296
  obtain ⟨x, hxe⟩ : ∃ x, a * 2 ^ n = x := ⟨_, rfl⟩
  rw [hxe] at hs0 hxm hxb hor hlow hdm
  have w3 : IntKind.u64.wrap (a : Int) = (a : Int) := wrap64_id (by omega)
  have w4 := wrap32 x
  have w5 : bits .or .u32 (o : Int) ((x % 4294967296 : Nat) : Int) = ((o + x % 4294967296 : Nat) : Int) := by
    rw [bits32_or (by omega) (Nat.mod_lt _ (by decide)), hor]
  have w6 := shr32 x
  have w7 : IntKind.u32.wrap ((x / 4294967296 : Nat) : Int) = ((x / 4294967296 : Nat) : Int) := wrap32_id (by omega)
  have w8 : IntKind.i64.wrap ((i : Int) + 1) = ((i + 1 : Nat) : Int) := succ_i (by omega)
  have d1 : decide ((i : Int) < (la : Int)) = true := by simp; omega
  have d2 : (i < la + 1) = True := by simp; omega
  have d3 : (i + 1 < la + 1) = True := by simp; omega
  have d4 : (0 : Int) ≤ (i : Int) := by omega
  have d5 : (i : Int) < ((la + 1 : Nat) : Int) := by omega
  have d6 : (0 : Int) ≤ ((i + 1 : Nat) : Int) := by omega
  have d7 : ((i + 1 : Nat) : Int) < ((la + 1 : Nat) : Int) := by omega
  (replace hb0 := true_and True); refine Go1.mk ?_; repeat' ((first | (with_reducible refine Go1.go ?_) | ((with_reducible first | refine brv_mk ?_ ?_ | refine gsplitD ?_ ?_ | refine gsplitG ?_ ?_) <;> intro h <;> (try simp only [Bool.not_eq_true', Bool.not_eq_false'] at h) <;> replace hb0 := h) | (refine And.intro ?ob ?_; case ob => ((try simp only [sxO, ne_eq, maxLen] at *); omega)) | fail) <;> (try simp (config := { maxSteps := 1000000 }) only [hb0, cE_ment, hasK_nil, cE_kill, cE_len, u32_one, u32_app1, u32_set, Nat.mul_one, upSt, u32V, hu.one, hu.len, hu.sl, hl, hxi, hat, d1, d2, d3, d4, d5, d6, d7, hs0, w3, w4, w5, w6, w7, w8, hlo, List.length_set, ↓hold_pre, awayP, runOps, regK, step1, newK, genR, appR, obl, buildR, Value.cells, closeK, keepH, outV, retK, ret1, retC, RetV, Option.getD, runD, stepD, afterK, undef, simprocAttr, sxB, ↓sxD, sxE, sxTab]))
  have e1 : ((out.set i (o + x % 4294967296)).set (i + 1) (x / 4294967296)).take (i + 1 + 1) = out.take i ++ [o + x % 4294967296] ++ [x / 4294967296] := by
    rw [take_set_self (by rw [List.length_set]; omega), take_set_self hio]
  exact ⟨la - (i + 1), upSt M u n la (i + 1) kb _, by omega, le_sub ⟨rfl, rfl, rfl, rfl, trivial⟩ (by simp [subHp, upSt, lkH]; rfl) rfl rfl rfl ⟨.inl (Nat.le_add_right _ _), trivial⟩, i + 1, _, rfl, by omega, by rw [List.length_set, List.length_set]; exact hlo, okN_set (okN_set ho hlow) (by omega), by
    simp only [List.getD, List.getElem?_set_self (show i + 1 < (out.set i (o + x % 4294967296)).length by rw [List.length_set]; omega), Option.getD_some]; exact hxm, by
    have hti : (out.take i).length = i := by rw [List.length_take]; omega
    rw [e1, valN_snoc, valN_snoc, List.length_append, List.length_singleton, hti, take_val, hgx, Nat.add_mul, ← hval, htk, wN_succ]
    have e2 : wN i * a * 2 ^ n = wN i * (4294967296 * (x / 4294967296) + x % 4294967296) := by rw [hdm, Nat.mul_assoc, hxe]
    rw [e2]
    generalize x / 4294967296 = q
    generalize x % 4294967296 = r
    grind, rfl⟩
theorem u32_part {L : List Nat} {off m i : Nat} (h : off + m ≤ L.length) (hi : i < m) {hil : i < ((L.drop off).take m).length} : (cE u32V L)[off + i]? = some (.ext (.int .u32 (((L.drop off).take m)[i] : Int))) := by
  have e : L[off + i]? = some (((L.drop off).take m)[i]) := by
    rw [List.getElem_take, List.getElem_drop]
    exact List.getElem?_eq_getElem (by omega)
  unfold cE
  rw [List.getElem?_map, List.getElem?_map, e]; rfl
def cuSt (M : Mem) (k off m j : Nat) (L : List Nat) : St := { env := [(3, .ext (.int .i64 (j : Int))), (0, .slo k off m 1)], hp := [(k, 70, cE u32V L)], M := M, kb := k + 1, fx := [k] }
theorem cut_ok (k off m : Nat) (L : List Nat) (hm : off + m ≤ L.length) (hb : m < 1000000000) (ho : okN L) (hK : ∀ m', ((L.drop off).take m).take m' = ofN (valN ((L.drop off).take m)) → m' = (ofN (valN ((L.drop off).take m))).length → m' ≤ m → K (.slo k off m' 1) [(k, 70, cE u32V L)] M) :
    CallS Tryd.prog 115 [.slo k off m 1] [(k, 70, cE u32V L)] M [] K := by
  refine inlS (cs := []) (f := 115) Tryd.mixed Tryd.func115 rfl (by kernel_rfl) (k + 1) rfl (by simp [ltB, keysH]) ?_
  simp only [Tryd.f115]
  (replace hb0 := true_and True); refine Go1.mk ?_; repeat' ((first | (with_reducible refine Go1.go ?_) | ((with_reducible first | refine brv_mk ?_ ?_ | refine gsplitD ?_ ?_ | refine gsplitG ?_ ?_) <;> intro h <;> (try simp only [Bool.not_eq_true', Bool.not_eq_false'] at h) <;> replace hb0 := h) | (refine And.intro ?ob ?_; case ob => ((try simp only [sxO, ne_eq, maxLen] at *); omega)) | fail) <;> (try simp (config := { maxSteps := 1000000 }) only [hb0, cE_ment, hasK_nil, cE_kill, cE_len, u32_one, u32_app1, u32_set, Nat.mul_one, ↓hold_pre, awayP, runOps, regK, step1, newK, genR, appR, obl, buildR, Value.cells, closeK, keepH, outV, retK, ret1, retC, RetV, Option.getD, runD, stepD, afterK, undef, simprocAttr, sxB, ↓sxD, sxE, sxTab]))
  have hll : ((L.drop off).take m).length = m := by rw [List.length_take, List.length_drop]; omega
  have hol := okN_take (okN_drop ho off) m
  have hat : ∀ i (h : i < ((L.drop off).take m).length), (cE u32V L)[off + i]? = some (.ext (.int .u32 (((L.drop off).take m)[i] : Int))) := fun i h => u32_part hm (by omega)
  generalize (L.drop off).take m = l at *
  refine ⟨fun d z => ∃ j, j = d ∧ j ≤ m ∧ (∀ i (h : i < l.length), j ≤ i → l[i] = 0) ∧ z = cuSt M k off m j L, ⟨m, cuSt M k off m m L, le_sub ⟨rfl, rfl, trivial⟩ ⟨by simp [lkH], trivial⟩ rfl rfl rfl (by simp [keepLt, cuSt, lkH]), ⟨_, rfl, Nat.le_refl _, fun i h hi => by omega, rfl⟩⟩, ?_⟩
  rintro d z ⟨j, rfl, hj, hz, rfl⟩
  have d6 : (j : Int) ≤ (m : Int) := by omega
  have d7 : (0 : Int) ≤ (j : Int) := by omega
  have key : (∀ h : 0 < j, l[j - 1] ≠ 0) → K (.slo k off j 1) [(k, 70, cE u32V L)] M := fun h => by
    have e := take_canon hol (by omega) hz h
    exact hK j e (by rw [← e, List.length_take]; omega) hj
  by_cases hlt : 0 < j
  case neg =>
    obtain rfl : j = 0 := by omega
    have d1 : decide ((0 : Int) < ((0 : Nat) : Int)) = false := by decide
    (replace hb0 := true_and True); refine Go1.mk ?_; repeat' ((first | (with_reducible refine Go1.go ?_) | ((with_reducible first | refine brv_mk ?_ ?_ | refine gsplitD ?_ ?_ | refine gsplitG ?_ ?_) <;> intro h <;> (try simp only [Bool.not_eq_true', Bool.not_eq_false'] at h) <;> replace hb0 := h) | (refine And.intro ?ob ?_; case ob => ((try simp only [sxO, ne_eq, maxLen] at *); omega)) | fail) <;> (try simp (config := { maxSteps := 1000000 }) only [hb0, cE_ment, hasK_nil, cE_kill, cE_len, u32_one, u32_app1, u32_set, Nat.mul_one, cuSt, d1, d6, d7, Nat.sub_zero, ↓hold_pre, awayP, runOps, regK, step1, newK, genR, appR, obl, buildR, Value.cells, closeK, keepH, outV, retK, ret1, retC, RetV, Option.getD, runD, stepD, afterK, undef, simprocAttr, sxB, ↓sxD, sxE, sxTab]))
    exact key (fun h => by omega)
  have d1 : decide ((0 : Int) < (j : Int)) = true := by simp; omega
  have w1 := pred_i hlt (by omega)
  have hi : j - 1 < l.length := by omega
  have hat2 := hat _ hi
  have d2 : (0 : Int) ≤ ((j - 1 : Nat) : Int) := by omega
  have d3 : ((j - 1 : Nat) : Int) < (m : Int) := by omega
  by_cases h0 : l[j - 1] = 0
  · have d4 : decide ((l[j - 1] : Int) = 0) = true := by simp; omega
    (replace hb0 := true_and True); refine Go1.mk ?_; repeat' ((first | (with_reducible refine Go1.go ?_) | ((with_reducible first | refine brv_mk ?_ ?_ | refine gsplitD ?_ ?_ | refine gsplitG ?_ ?_) <;> intro h <;> (try simp only [Bool.not_eq_true', Bool.not_eq_false'] at h) <;> replace hb0 := h) | (refine And.intro ?ob ?_; case ob => ((try simp only [sxO, ne_eq, maxLen] at *); omega)) | fail) <;> (try simp (config := { maxSteps := 1000000 }) only [hb0, cE_ment, hasK_nil, cE_kill, cE_len, u32_one, u32_app1, u32_set, Nat.mul_one, cuSt, d1, d2, d3, d4, w1, hat2, ↓hold_pre, awayP, runOps, regK, step1, newK, genR, appR, obl, buildR, Value.cells, closeK, keepH, outV, retK, ret1, retC, RetV, Option.getD, runD, stepD, afterK, undef, simprocAttr, sxB, ↓sxD, sxE, sxTab]))
    exact ⟨j - 1, cuSt M k off m (j - 1) L, by omega, le_sub ⟨rfl, rfl, trivial⟩ ⟨by simp [lkH], trivial⟩ rfl rfl rfl (by simp [keepLt, cuSt, lkH]), j - 1, rfl, by omega, fun i h hi => by
      rcases Nat.lt_or_ge i j with h1 | h1
      · obtain rfl : i = j - 1 := by omega
        exact h0
      · exact hz i h h1, rfl⟩
  · have d4 : decide ((l[j - 1] : Int) = 0) = false := by simp; omega
    (replace hb0 := true_and True); refine Go1.mk ?_; repeat' ((first | (with_reducible refine Go1.go ?_) | ((with_reducible first | refine brv_mk ?_ ?_ | refine gsplitD ?_ ?_ | refine gsplitG ?_ ?_) <;> intro h <;> (try simp only [Bool.not_eq_true', Bool.not_eq_false'] at h) <;> replace hb0 := h) | (refine And.intro ?ob ?_; case ob => ((try simp only [sxO, ne_eq, maxLen] at *); omega)) | fail) <;> (try simp (config := { maxSteps := 1000000 }) only [hb0, cE_ment, hasK_nil, cE_kill, cE_len, u32_one, u32_app1, u32_set, Nat.mul_one, cuSt, d1, d2, d3, d4, d6, d7, w1, hat2, Nat.sub_zero, ↓hold_pre, awayP, runOps, regK, step1, newK, genR, appR, obl, buildR, Value.cells, closeK, keepH, outV, retK, ret1, retC, RetV, Option.getD, runD, stepD, afterK, undef, simprocAttr, sxB, ↓sxD, sxE, sxTab]))
    exact key (fun h => h0)
/-- a number in a block of one's own -/
structure OwnN (L : List Nat) (o m x : Nat) : Prop where
  le : o + m ≤ L.length
  ok : okN L
  eq : (L.drop o).take m = ofN x
theorem OwnN.len {L : List Nat} {o m x : Nat} (h : OwnN L o m x) : m = (ofN x).length := by
  rw [← h.eq, List.length_take, List.length_drop]
  have := h.le
  omega
theorem OwnN.val {L : List Nat} {o m x : Nat} (h : OwnN L o m x) : valN ((L.drop o).take m) = x := by rw [h.eq, valN_ofN]
theorem down_plain {l : List Nat} (ho : okN l) (n : Nat) : valN (l.drop (min l.length (n / 32))) / 2 ^ (n % 32) = valN l / 2 ^ n := by
  rcases Nat.lt_or_ge (n / 32) l.length with h | h
  · rw [Nat.min_eq_right (by omega), valN_drop_div ho (by omega), wN_two, Nat.div_div_eq_div_mul, ← Nat.pow_add, Nat.div_add_mod]
  · rw [Nat.min_eq_left h, List.drop_of_length_le (Nat.le_refl _), show valN [] = 0 from rfl, Nat.zero_div]
    symm
    apply Nat.div_eq_of_lt
    have h1 := valN_lt ho
    rw [wN_two] at h1
    exact Nat.lt_of_lt_of_le h1 (Nat.pow_le_pow_right (by decide) (by omega))
def dnSt (M : Mem) (k o m n i : Nat) (L : List Nat) : St := { env := [(5, .ext (.int .i64 (i : Int))), (0, .slo k o m 1), (1, .ext (.int .i64 (n : Int)))], hp := [(k, 70, cE u32V L)], M := M, kb := k + 1, fx := [k] }
theorem down_ok (k off m n : Nat) (L : List Nat) (hm : off + m ≤ L.length) (hb : L.length < 100000000) (hn : n < 1000000000000) (ho : okN L) (hK : ∀ L' o' m', L'.length = L.length → OwnN L' o' m' (valN ((L.drop off).take m) / 2 ^ n) → K (.slo k o' m' 1) [(k, 70, cE u32V L')] M) :
    CallS Tryd.prog 92 [.slo k off m 1, .ext (.int .i64 (n : Int))] [(k, 70, cE u32V L)] M [] K := by
  refine inlS (cs := []) (f := 92) Tryd.mixed Tryd.func92 rfl (by kernel_rfl) (k + 1) rfl (by simp [ltB, keysH]) ?_
  simp only [Tryd.f92]
  obtain ⟨w, hw⟩ : ∃ w, min m (n / 32) = w := ⟨_, rfl⟩
  have w1 : IntKind.i64.wrap ((n : Int).tdiv 32) = ((n / 32 : Nat) : Int) := by
    rw [show (32 : Int) = ((32 : Nat) : Int) from rfl, ← Int.ofNat_tdiv, wrap_id (by omega) (by omega)]
  have w2 : (if ((n / 32 : Nat) : Int) < (m : Int) then ((n / 32 : Nat) : Int) else (m : Int)) = (w : Int) := by
    split <;> omega
  have d1 : (0 : Int) ≤ (w : Int) := by omega
  have d2 : (w : Int) ≤ (m : Int) := by omega
  have d3 : (m : Int) ≤ (m : Int) := by omega
  (replace hb0 := true_and True); refine Go1.mk ?_; repeat' ((first | (with_reducible refine Go1.go ?_) | ((with_reducible first | refine brv_mk ?_ ?_ | refine gsplitD ?_ ?_ | refine gsplitG ?_ ?_) <;> intro h <;> (try simp only [Bool.not_eq_true', Bool.not_eq_false'] at h) <;> replace hb0 := h) | (refine And.intro ?ob ?_; case ob => ((try simp only [sxO, ne_eq, maxLen] at *); omega)) | fail) <;> (try simp (config := { maxSteps := 1000000 }) only [hb0, cE_ment, hasK_nil, cE_kill, cE_len, u32_one, u32_app1, u32_set, Nat.mul_one, w1, w2, d1, d2, d3, ↓hold_pre, awayP, runOps, regK, step1, newK, genR, appR, obl, buildR, Value.cells, closeK, keepH, outV, retK, ret1, retC, RetV, Option.getD, runD, stepD, afterK, undef, simprocAttr, sxB, ↓sxD, sxE, sxTab]))
  have hwm : w ≤ m := by omega
  obtain ⟨o, hoo⟩ : ∃ o, off + w = o := ⟨_, rfl⟩
  obtain ⟨m2, hm2⟩ : ∃ m2, m - w = m2 := ⟨_, rfl⟩
  rw [hoo, hm2]
  have hll : ((L.drop off).take m).length = m := by rw [List.length_take, List.length_drop]; omega
  have hpl := down_plain (okN_take (okN_drop ho off) m) n
  rw [hll, hw] at hpl
  have hdd : ((L.drop off).take m).drop w = (L.drop o).take m2 := by
    rw [List.drop_take, List.drop_drop, hoo, hm2]
  rw [hdd] at hpl
  rw [← hpl] at hK
  have hL : L = L.take o ++ ((L.drop o).take m2 ++ L.drop (o + m2)) := by
    rw [← List.drop_drop, List.take_append_drop, List.take_append_drop]
  have hCl : ((L.drop o).take m2).length = m2 := by rw [List.length_take, List.length_drop]; omega
  have hPl : (L.take o).length = o := by rw [List.length_take]; omega
  have hoC := okN_take (okN_drop ho o) m2
  have hoP := okN_take ho o
  have hoS := okN_drop ho (o + m2)
  have hLl : ((L.take o).length + m2 + (L.drop (o + m2)).length) = L.length := by rw [hPl, List.length_drop]; omega
  clear hpl hdd hll
  generalize L.take o = P at *
  generalize (L.drop o).take m2 = C0 at *
  generalize L.drop (o + m2) = S at *
  subst hL
  have w3 : (n : Int).tmod 32 = ((n % 32 : Nat) : Int) := by rw [show (32 : Int) = ((32 : Nat) : Int) from rfl, ← Int.ofNat_tmod]
  have hs32 : n % 32 < 32 := Nat.mod_lt _ (by decide)
  generalize n % 32 = s at *
  refine ⟨fun d z => ∃ i C, d = m2 - i ∧ i ≤ m2 ∧ C.length = m2 ∧ okN C ∧ C.drop i = C0.drop i ∧ valN (C.take i) = valN C0 / 2 ^ s % wN i ∧ z = dnSt M k o m2 n i (P ++ (C ++ S)),
    ⟨m2, dnSt M k o m2 n 0 (P ++ (C0 ++ S)), le_sub ⟨rfl, rfl, rfl, trivial⟩ ⟨by simp [lkH], trivial⟩ rfl rfl rfl (by simp [keepLt, dnSt, lkH]), ⟨0, C0, rfl, by omega, hCl, hoC, rfl, by simp [valN, wN, Nat.mod_one], rfl⟩⟩, ?_⟩
  rintro d z ⟨i, C, rfl, hi, hC, hoC2, hdr, hval, rfl⟩
  by_cases hlt : i < m2
  case neg =>
    obtain rfl : i = m2 := by omega
    have d5 : decide ((i : Int) < (i : Int)) = false := by simp
    have e1 : valN C = valN C0 / 2 ^ s := by
      rw [take_all (by omega)] at hval
      rw [hval]
      refine Nat.mod_eq_of_lt (Nat.lt_of_le_of_lt (Nat.div_le_self _ _) ?_)
      rw [← hCl]; exact valN_lt hoC
    have hpart : ((P ++ (C ++ S)).drop o).take i = C := by
      rw [← hPl, List.drop_left, ← hC, List.take_left]
    have hfl : (P ++ (C ++ S)).length = (P ++ (C0 ++ S)).length := by simp [hC, hCl]
    have hok : okN (P ++ (C ++ S)) := okN_app.2 ⟨hoP, okN_app.2 ⟨hoC2, hoS⟩⟩
    have hol : o + i ≤ (P ++ (C ++ S)).length := by simp [hC, hPl]
    (replace hb0 := true_and True); refine Go1.mk ?_; repeat' ((first | (with_reducible refine Go1.go ?_) | ((with_reducible first | refine brv_mk ?_ ?_ | refine gsplitD ?_ ?_ | refine gsplitG ?_ ?_) <;> intro h <;> (try simp only [Bool.not_eq_true', Bool.not_eq_false'] at h) <;> replace hb0 := h) | ((with_reducible refine isCall (f := 115) ?_); refine callA ?_) | ((with_reducible refine isCall0 (f := 115) ?_); refine callA0 ?_) | ((with_reducible refine isCallS (f := 115) ?_); refine (cut_ok k o i (P ++ (C ++ S)) hol (by omega) hok (fun m' c1 c2 c3 => Stop.mk ?_))) | (refine And.intro ?ob ?_; case ob => ((try simp only [sxO, ne_eq, maxLen] at *); omega)) | fail) <;> (try simp (config := { maxSteps := 1000000 }) only [hb0, cE_ment, hasK_nil, cE_kill, cE_len, u32_one, u32_app1, u32_set, Nat.mul_one, dnSt, d5, ↓hold_pre, awayP, runOps, regK, step1, newK, genR, appR, obl, buildR, Value.cells, closeK, keepH, outV, retK, ret1, retC, RetV, Option.getD, runD, stepD, afterK, undef, simprocAttr, sxB, ↓sxD, sxE, sxTab]))
    rw [hpart, e1] at c1 c2
    refine Stop.go ?_
    (replace hb0 := true_and True); refine Go1.mk ?_; repeat' ((first | (with_reducible refine Go1.go ?_) | ((with_reducible first | refine brv_mk ?_ ?_ | refine gsplitD ?_ ?_ | refine gsplitG ?_ ?_) <;> intro h <;> (try simp only [Bool.not_eq_true', Bool.not_eq_false'] at h) <;> replace hb0 := h) | (refine And.intro ?ob ?_; case ob => ((try simp only [sxO, ne_eq, maxLen] at *); omega)) | fail) <;> (try simp (config := { maxSteps := 1000000 }) only [hb0, cE_ment, hasK_nil, cE_kill, cE_len, u32_one, u32_app1, u32_set, Nat.mul_one, ↓hold_pre, awayP, runOps, regK, step1, newK, genR, appR, obl, buildR, Value.cells, closeK, keepH, outV, retK, ret1, retC, RetV, Option.getD, runD, stepD, afterK, undef, simprocAttr, sxB, ↓sxD, sxE, sxTab]))
    refine hK _ o m' hfl ⟨by omega, hok, ?_⟩
    have hp2 := congrArg (List.take m') hpart
    rw [List.take_take, Nat.min_eq_left c3] at hp2
    rw [← c1, hp2]
  have hiC : i < C.length := by omega
  have hat := u32_mid (S := S) hPl hiC
  have hx0 := okN_at hoC2 hiC
  have hCi : C[i] = C0[i]'(by omega) := by
    have e1 : (C.drop i)[0]? = (C0.drop i)[0]? := by rw [hdr]
    rw [List.getElem?_drop, List.getElem?_drop, Nat.add_zero, List.getElem?_eq_getElem hiC, List.getElem?_eq_getElem (by omega)] at e1
    exact Option.some.inj e1
  have hdr0 := valN_drop (l := C0) (show i < C0.length by omega)
  rw [← hCi] at hdr0
  have hdv := valN_drop_div hoC (i := i) (by omega)
  have hwd := wN_div (valN C0) i (n := s)
  have d4 : decide ((i : Int) < (m2 : Int)) = true := by simp; omega
  have d5 : (0 : Int) ≤ (i : Int) := by omega
  have d6 : (i : Int) < (m2 : Int) := by omega
  have d7 : (o + i < (P ++ (C ++ S)).length) = True := by simp [hC, hPl]; omega
  have w4 : IntKind.i64.wrap ((i : Int) + 1) = ((i + 1 : Nat) : Int) := succ_i (by omega)
  have fin : ∀ (r : Nat) (st : St), r < 4294967296 → valN C0 / wN i / 2 ^ s % 4294967296 = r → lk st.env 5 = .ext (.int .i64 ((i + 1 : Nat) : Int)) → lk st.env 0 = .slo k o m2 1 → lk st.env 1 = .ext (.int .i64 (n : Int)) → lkH st.hp k = some (70, cE u32V (P ++ (C.set i r ++ S))) → st.M = M → st.kb = k + 1 → st.fx = [k] → keepLt (k + 1) [(k, 70, cE u32V (P ++ (C.set i r ++ S)))] st.hp →
      ∃ m' z, m' < m2 - i ∧ Le st z ∧ ∃ i C, m' = m2 - i ∧ i ≤ m2 ∧ C.length = m2 ∧ okN C ∧ C.drop i = C0.drop i ∧ valN (C.take i) = valN C0 / 2 ^ s % wN i ∧ z = dnSt M k o m2 n i (P ++ (C ++ S)) := fun r st hr hd e5 e0 e1 eh eM ek ef hkl =>
    ⟨m2 - (i + 1), dnSt M k o m2 n (i + 1) (P ++ (C.set i r ++ S)), by omega, le_sub ⟨e5, e0, e1, trivial⟩ ⟨eh, trivial⟩ eM.symm ek.symm ef.symm (by rw [ek]; exact hkl), i + 1, _, rfl, by omega, by rw [List.length_set]; exact hC, okN_set hoC2 hr, by
      rw [List.drop_set_of_lt (by omega)]
      have := congrArg (List.drop 1) hdr
      rw [List.drop_drop, List.drop_drop] at this
      exact this, by
      rw [take_set_self hiC, valN_snoc, List.length_take, Nat.min_eq_left (by omega), hval, hwd, hd], rfl⟩
  have v1 : IntKind.u64.wrap (C[i] : Int) = (C[i] : Int) := wrap64_id (by omega)
  by_cases hy : i + 1 < m2
  · have hiC2 : i + 1 < C.length := by omega
    have hat2 := u32_mid (S := S) hPl hiC2
    have hy0 := okN_at hoC2 hiC2
    have hCj : C[i + 1] = C0[i + 1]'(by omega) := by
      have e1 : (C.drop i)[1]? = (C0.drop i)[1]? := by rw [hdr]
      rw [List.getElem?_drop, List.getElem?_drop, List.getElem?_eq_getElem hiC2, List.getElem?_eq_getElem (by omega)] at e1
      exact Option.some.inj e1
    have hdr2 := valN_drop (l := C0) (show i + 1 < C0.length by omega)
    rw [← hCj] at hdr2
    have d8 : decide (((i + 1 : Nat) : Int) < (m2 : Int)) = true := by rw [decide_eq_true_eq]; omega
    have d9 : (0 : Int) ≤ ((i + 1 : Nat) : Int) := by omega
    have d10 : ((i + 1 : Nat) : Int) < (m2 : Int) := by omega
    obtain ⟨b, hbe⟩ : ∃ b, C[i + 1] = b := ⟨_, rfl⟩
    obtain ⟨a, hae⟩ : ∃ a, C[i] = a := ⟨_, rfl⟩
    rw [hbe] at hat2 hy0 hdr2
    rw [hae] at hat hx0 hdr0 v1
    have v2 : IntKind.u64.wrap (b : Int) = (b : Int) := wrap64_id (by omega)
    have v3 := shl32 hy0
    have v4 : bits .or .u64 (a : Int) ((b * 4294967296 : Nat) : Int) = ((b * 4294967296 + a : Nat) : Int) := by
      rw [bits64_or (by omega) (by omega), Nat.or_comm, show (4294967296 : Nat) = 2 ^ 32 by decide, or_add (by omega)]
    have v5 := shrN (b * 4294967296 + a) hs32
    have v6 := wrap32 ((b * 4294967296 + a) / 2 ^ s)
    have hdig : valN C0 / wN i / 2 ^ s % 4294967296 = (b * 4294967296 + a) / 2 ^ s % 4294967296 := by
      rw [← hdv, hdr0, hdr2, shr_digit hs32, Nat.add_comm, Nat.mul_comm 4294967296 b]
    have hms := mid_set P C S o i ((b * 4294967296 + a) / 2 ^ s % 4294967296) hPl hiC
    (replace hb0 := true_and True); refine Go1.mk ?_; repeat' ((first | (with_reducible refine Go1.go ?_) | ((with_reducible first | refine brv_mk ?_ ?_ | refine gsplitD ?_ ?_ | refine gsplitG ?_ ?_) <;> intro h <;> (try simp only [Bool.not_eq_true', Bool.not_eq_false'] at h) <;> replace hb0 := h) | (refine And.intro ?ob ?_; case ob => ((try simp only [sxO, ne_eq, maxLen] at *); omega)) | fail) <;> (try simp (config := { maxSteps := 1000000 }) only [hb0, cE_ment, hasK_nil, cE_kill, cE_len, u32_one, u32_app1, u32_set, Nat.mul_one, dnSt, hat, hat2, d4, d5, d6, d7, d8, d9, d10, w3, w4, v1, v2, v3, v4, v5, v6, hms, ↓hold_pre, awayP, runOps, regK, step1, newK, genR, appR, obl, buildR, Value.cells, closeK, keepH, outV, retK, ret1, retC, RetV, Option.getD, runD, stepD, afterK, undef, simprocAttr, sxB, ↓sxD, sxE, sxTab]))
    exact fin _ _ (Nat.mod_lt _ (by decide)) hdig rfl rfl rfl (by simp [lkH]) rfl rfl rfl (by simp [keepLt, lkH])
  · have d8 : decide (((i + 1 : Nat) : Int) < (m2 : Int)) = false := by rw [decide_eq_false_iff_not]; omega
    have hdr2 : C0.drop (i + 1) = [] := List.drop_of_length_le (by omega)
    obtain ⟨a, hae⟩ : ∃ a, C[i] = a := ⟨_, rfl⟩
    rw [hae] at hat hx0 hdr0 v1
    have v5 := shrN a hs32
    have v6 := wrap32 (a / 2 ^ s)
    have hdig : valN C0 / wN i / 2 ^ s % 4294967296 = a / 2 ^ s % 4294967296 := by
      rw [← hdv, hdr0, hdr2]; simp [valN]
    have hms := mid_set P C S o i (a / 2 ^ s % 4294967296) hPl hiC
    (replace hb0 := true_and True); refine Go1.mk ?_; repeat' ((first | (with_reducible refine Go1.go ?_) | ((with_reducible first | refine brv_mk ?_ ?_ | refine gsplitD ?_ ?_ | refine gsplitG ?_ ?_) <;> intro h <;> (try simp only [Bool.not_eq_true', Bool.not_eq_false'] at h) <;> replace hb0 := h) | (refine And.intro ?ob ?_; case ob => ((try simp only [sxO, ne_eq, maxLen] at *); omega)) | fail) <;> (try simp (config := { maxSteps := 1000000 }) only [hb0, cE_ment, hasK_nil, cE_kill, cE_len, u32_one, u32_app1, u32_set, Nat.mul_one, dnSt, hat, d4, d5, d6, d7, d8, w3, w4, v1, v5, v6, hms, ↓hold_pre, awayP, runOps, regK, step1, newK, genR, appR, obl, buildR, Value.cells, closeK, keepH, outV, retK, ret1, retC, RetV, Option.getD, runD, stepD, afterK, undef, simprocAttr, sxB, ↓sxD, sxE, sxTab]))
    exact fin _ _ (Nat.mod_lt _ (by decide)) hdig rfl rfl rfl (by simp [lkH]) rfl rfl rfl (by simp [keepLt, lkH])
end
end Go.Proofs.YtamghpnjdohnjaaDoor.Sx
