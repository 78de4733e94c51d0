/- Part 3 of the texts of this claim: a symbolic executor and contracts of functions. -/
import Derived.Test.YtjapnklocibgaaaOLbRP2
namespace Go.Proofs.Ytjapnklocibgaaa.Sx
open Go Go.RowKit
set_option linter.unusedVariables false
set_option linter.unusedSimpArgs false
set_option maxRecDepth 100000
set_option maxHeartbeats 8000000
attribute [local congr] fin_congr finG_congr stepG_congr step1_congr runOps_congr brv_congr obl_congr condK_congr LoopK_congr seqK_congr CutK_congr vc_congr DrawK_congr regK_congr CallK_congr AskK_congr newK_congr retC_congr ret1_congr retK_congr outV_congr closeK_congr genR_congr appR_congr finD_congr finGD_congr stepGD_congr stepD_congr CallK0_congr runD_congr okR_congr CallS_congr vcX_congr
attribute [local congr] Stop_congr
theorem exF_small {x y : Nat} (h0 : 0 < y) (hx : (ofN x).length ≤ 128) (hy : (ofN y).length ≤ 128) : (exF x y).1 = 0 ∧ (exF x y).2.1 ≤ x ∧ (exF x y).2.2 ≤ y ∧ 0 < (exF x y).2.2 ∧ chkF (ofN (exF x y).2.1) (ofN (exF x y).2.2) = true := by
  have hg0 : 0 < Nat.gcd x y := Nat.gcd_pos_of_pos_right _ h0
  have hp := Nat.div_pos (Nat.gcd_le_right x h0) hg0
  have hq1 := Nat.div_le_self x (Nat.gcd x y)
  have hq2 := Nat.div_le_self y (Nat.gcd x y)
  have hgg := Nat.gcd_div_gcd_div_gcd_of_pos_right (n := x) h0
  rw [exF_is hx hy]
  refine ⟨rfl, hq1, hq2, hp, ?_⟩
  unfold chkF
  simp only
  rw [chkN_ofN (Nat.le_trans (len_mono hq1) hx), chkN_ofN (Nat.le_trans (len_mono hq2) hy), valN_ofN, valN_ofN, hgg, decide_eq_false (by omega)]; rfl
theorem mulF_len' (a b c d : List Nat) : (ofN (mulF a b c d).2.1).length ≤ 128 ∧ (ofN (mulF a b c d).2.2).length ≤ 128 := by
  unfold mulF
  split
  · exact exF_len' _ _
  · simp only [ofN_zero]; simp
theorem losV_cons (L : List IR) (x : Int) (r : List Int) (e : Int) (n d : Nat) : losV L (x :: r) e n d = losV L r (e + costA L x) (exF (n * (exF (valN (itA L x.toNat).l1 * (e + costA L x).toNat) (valN (itA L x.toNat).l2)).2.2 + (exF (valN (itA L x.toNat).l1 * (e + costA L x).toNat) (valN (itA L x.toNat).l2)).2.1 * d) (d * (exF (valN (itA L x.toNat).l1 * (e + costA L x).toNat) (valN (itA L x.toNat).l2)).2.2)).2.1 (exF (n * (exF (valN (itA L x.toNat).l1 * (e + costA L x).toNat) (valN (itA L x.toNat).l2)).2.2 + (exF (valN (itA L x.toNat).l1 * (e + costA L x).toNat) (valN (itA L x.toNat).l2)).2.1 * d) (d * (exF (valN (itA L x.toNat).l1 * (e + costA L x).toNat) (valN (itA L x.toNat).l2)).2.2)).2.2 := rfl
def bigB : Nat := 288230376151711744
theorem bigB_fits : bigB ≤ wN 2 := by rw [show wN 2 = 18446744073709551616 from rfl]; decide
section
variable {M : Mem} {K : AV → Hp → Mem → Prop} {u v : Value} {L : List IR} {o : List Int}
def olSt (M : Mem) (u v w1 w2 : Value) (n i : Nat) (e : Int) : St := { env := [(23, .ext (.int .i64 (i : Int))), (22, .ext (.int .i64 (n : Int))), (21, .ext v), (8, .ext (.int .i64 e)), (7, .own 7 0), (4, .own 4 0), (0, .ext u)], hp := [(7, 34, [.ext w1, .ext w2]), (4, 34, [.ext (.slice none 0 0), .ext (.slice none 0 0)])], M := M, kb := 0, fx := [] }
theorem oloss_ok (hu : IsR M 5 IR.c u L) (hL : okIL M L) (hb : L.length < 1000000) (hv : IsL M intV64 v o) (hb2 : o.length < 1000000) (hK : FracK M K (errO L o, (losP L o).1, (losP L o).2)) : CallS Try.prog 12 [.ext u, .ext v] [] M [] K := by
  refine inlS (cs := []) Try.mixed Try.func12 rfl (by kernel_rfl) 0 rfl rfl ?_
  simp only [Try.f12]
  (replace hb0 := true_and True); refine Go1.mk ?_; repeat' ((first | (with_reducible refine Go1.go ?_) | ((with_reducible first | refine brv_mk ?_ ?_ | refine gsplitD ?_ ?_ | refine gsplitG ?_ ?_) <;> intro h <;> (try simp only [Bool.not_eq_true', Bool.not_eq_false'] at h) <;> replace hb0 := h) | ((first | (with_reducible refine isCall (f := 41) ?_; refine callA_nil (by kernel_rfl) ?_) | (with_reducible refine isCall0 (f := 41) ?_; refine callA0_nil (by kernel_rfl) ?_)); refine (ocheckO_ok hu hL hb hv hb2 (fun M1 m1 => Stop.mk ?_))) | (refine And.intro ?ob ?_; case ob => ((try simp only [sxO, ne_eq, maxLen] at *); omega)) | fail) <;> (try simp (config := { maxSteps := 1000000 }) only [hb0, hu.one, hv.one, ↓hold_pre, awayP, runOps, regK, step1, newK, genR, appR, obl, buildR, Value.cells, closeK, keepH, outV, retK, ret1, retC, RetV, Option.getD, runD, stepD, afterK, undef, simprocAttr, sxB, ↓sxD, sxE, sxTab]))
  have m1 : Mem.le M M1 := m1
  have hu1 := hu.le m1
  have hL1 := hL.le m1
  have hv1 := hv.le m1
  unfold losP at hK
  by_cases h0 : errO L o = 0
  case neg =>
    have d1 : decide (errO L o = 0) = false := decide_eq_false h0
    rw [if_neg h0] at hK
    refine Stop.go ?_
    (replace hb0 := true_and True); refine Go1.mk ?_; repeat' ((first | (with_reducible refine Go1.go ?_) | ((with_reducible first | refine brv_mk ?_ ?_ | refine gsplitD ?_ ?_ | refine gsplitG ?_ ?_) <;> intro h <;> (try simp only [Bool.not_eq_true', Bool.not_eq_false'] at h) <;> replace hb0 := h) | (refine And.intro ?ob ?_; case ob => ((try simp only [sxO, ne_eq, maxLen] at *); omega)) | fail) <;> (try simp (config := { maxSteps := 1000000 }) only [hb0, d1, ↓hold_pre, awayP, runOps, regK, step1, newK, genR, appR, obl, buildR, Value.cells, closeK, keepH, outV, retK, ret1, retC, RetV, Option.getD, runD, stepD, afterK, undef, simprocAttr, sxB, ↓sxD, sxE, sxTab]))
    exact hK.err _ m1
  obtain ⟨hci, h64, hol, hin⟩ := errO_zero h0
  rw [h0] at hK
  simp only [if_true] at hK
  refine Stop.go ?_
  (replace hb0 := true_and True); refine Go1.mk ?_; repeat' ((first | (with_reducible refine Go1.go ?_) | ((with_reducible first | refine brv_mk ?_ ?_ | refine gsplitD ?_ ?_ | refine gsplitG ?_ ?_) <;> intro h <;> (try simp only [Bool.not_eq_true', Bool.not_eq_false'] at h) <;> replace hb0 := h) | ((first | (with_reducible refine isCall (f := 36) ?_; refine callA_nil (by kernel_rfl) ?_) | (with_reducible refine isCall0 (f := 36) ?_; refine callA0_nil (by kernel_rfl) ?_)); refine (whole_ok 0 (by decide) (fun w1 w2 M2 a1 a2 a3 a4 a5 => Stop.mk ?_))) | (refine And.intro ?ob ?_; case ob => ((try simp only [sxO, ne_eq, maxLen] at *); omega)) | fail) <;> (try simp (config := { maxSteps := 1000000 }) only [hb0, h0, hv1.one, ↓hold_pre, awayP, runOps, regK, step1, newK, genR, appR, obl, buildR, Value.cells, closeK, keepH, outV, retK, ret1, retC, RetV, Option.getD, runD, stepD, afterK, undef, simprocAttr, sxB, ↓sxD, sxE, sxTab]))
  have a1 : Mem.le M1 M2 := a1
  have hv2 := hv1.le a1
  refine Stop.go ?_
  (replace hb0 := true_and True); refine Go1.mk ?_; repeat' ((first | (with_reducible refine Go1.go ?_) | ((with_reducible first | refine brv_mk ?_ ?_ | refine gsplitD ?_ ?_ | refine gsplitG ?_ ?_) <;> intro h <;> (try simp only [Bool.not_eq_true', Bool.not_eq_false'] at h) <;> replace hb0 := h) | (refine And.intro ?ob ?_; case ob => ((try simp only [sxO, ne_eq, maxLen] at *); omega)) | fail) <;> (try simp (config := { maxSteps := 1000000 }) only [hb0, hv2.one, hv2.sl, hv2.len, a2.one, a3.one, ↓hold_pre, awayP, runOps, regK, step1, newK, genR, appR, obl, buildR, Value.cells, closeK, keepH, outV, retK, ret1, retC, RetV, Option.getD, runD, stepD, afterK, undef, simprocAttr, sxB, ↓sxD, sxE, sxTab]))
  refine ⟨fun m z => ∃ M' w1 w2 n d i e, m = o.length - i ∧ i ≤ o.length ∧ Mem.le M2 M' ∧ IsL M' u32V w1 (ofN n) ∧ IsL M' u32V w2 (ofN d) ∧ FreshS M1 w1 ∧ FreshS M1 w2 ∧ SumOK bigB i n d ∧ 0 ≤ e ∧ e ≤ (i : Int) * 1048576 ∧ losV L (o.drop i) e n d = losV L o 0 0 1 ∧ z = olSt M' u v w1 w2 o.length i e,
    ⟨o.length, olSt M2 u v w1 w2 o.length 0 0, le_sub ⟨rfl, rfl, rfl, rfl, rfl, rfl, rfl, trivial⟩ ⟨rfl, rfl, trivial⟩ rfl rfl rfl (keepLt0 _), ⟨M2, w1, w2, 0, 1, 0, 0, by omega, by omega, Mem.le.refl _, a2, a3, a4, a5, SumOK.zero _, by omega, by omega, rfl, rfl⟩⟩, ?_⟩
  clear a2 a3 a4 a5
  rintro m z ⟨M3, w1, w2, n, d, i, e, rfl, hi, hM, hw1, hw2, fw1, fw2, hS, e0, e1, hp, rfl⟩
  have hv3 := hv2.le hM
  have hM1 := a1.trans hM
  have hu3 := hu1.le hM1
  have hL3 := hL1.le hM1
  by_cases hlt : i < o.length
  case neg =>
    obtain rfl : i = o.length := by omega
    have d1 : decide ((o.length : Int) < (o.length : Int)) = false := by simp
    rw [List.drop_length] at hp
    rw [← hp] at hK
    (replace hb0 := true_and True); refine Go1.mk ?_; repeat' ((first | (with_reducible refine Go1.go ?_) | ((with_reducible first | refine brv_mk ?_ ?_ | refine gsplitD ?_ ?_ | refine gsplitG ?_ ?_) <;> intro h <;> (try simp only [Bool.not_eq_true', Bool.not_eq_false'] at h) <;> replace hb0 := h) | (refine And.intro ?ob ?_; case ob => ((try simp only [sxO, ne_eq, maxLen] at *); omega)) | fail) <;> (try simp (config := { maxSteps := 1000000 }) only [hb0, olSt, hv3.one, hw1.one, hw2.one, d1, ↓hold_pre, awayP, runOps, regK, step1, newK, genR, appR, obl, buildR, Value.cells, closeK, keepH, outV, retK, ret1, retC, RetV, Option.getD, runD, stepD, afterK, undef, simprocAttr, sxB, ↓sxD, sxE, sxTab]))
    exact hK _ _ _ (m1.trans hM1) hw1 hw2 (fw1.le m1) (fw2.le m1)
  have d1 : decide ((i : Int) < (o.length : Int)) = true := by rw [decide_eq_true_eq]; omega
  have b1 : (0 : Int) ≤ (i : Int) := by omega
  have b2 : (i : Int) < (o.length : Int) := by omega
  have hnn := hv3.nn hlt
  have hat := hv3.at (P := Try.prog) (T := 3) tk3 tz3 hlt
  have wi : IntKind.i64.wrap ((i : Int) + 1) = ((i + 1 : Nat) : Int) := succ_i (by omega)
  obtain ⟨x0, x1⟩ := hin _ (List.getElem_mem hlt)
  have hdr : o.drop i = o[i] :: o.drop (i + 1) := List.drop_eq_getElem_cons hlt
  rw [hdr, losV_cons] at hp
  have hcb := costA_in hci x0 x1
  have hat : lookM Try.prog 3 M3 (elemP v 1 i) = some (.int .i64 o[i]) := hat
  generalize o[i] = x at *
  obtain ⟨k, rfl⟩ := Int.eq_ofNat_of_zero_le x0
  have hkl : k < L.length := by omega
  have b3 : (0 : Int) ≤ (k : Int) := by omega
  have b4 : (k : Int) < (L.length : Int) := by omega
  have p1 := hu3.pt hkl
  have hnu := hu3.nn hkl
  have hac := hu3.part (P := Try.prog) (fun _ => rfl) tk34 tz34 (o := 2) hkl (by decide)
  have hco : costA L (k : Int) = L[k].cost := by unfold costA; rw [Int.toNat_natCast, itA_in hkl]
  have hcc := hu3.atF (P := Try.prog) (T := 3) (fun _ => rfl) tk3 tz3 hkl (o := 4) (v := .int .i64 L[k].cost) rfl
  rw [← hco] at hcc
  clear hco
  rw [Int.toNat_natCast, itA_in hkl] at hp
  generalize costA L (k : Int) = co at *
  have hck := hci _ (List.getElem_mem hkl)
  have hxo := hL3 _ (List.getElem_mem hkl)
  generalize L[k] = y at *
  obtain ⟨q1, q2, l1, l2, y0, yg⟩ := chkI_val hxo hck
  obtain ⟨hchk, _⟩ := chkI_parts hck
  obtain ⟨pk, ts, x1', x2', y1, y2, co'⟩ := y
  have hac : lookM Try.prog 34 M3 (addP (elemP u 5 k) 2) = some (.agg #[x1', x2']) := hac
  have hF1 : IsF M3 x1' x2' y1 y2 := hxo.f
  simp only at q1 q2 l1 l2 y0 yg hchk hp
  have we : IntKind.i64.wrap (e + co) = e + co := wrap_id (by omega) (by omega)
  obtain ⟨E, hE⟩ := Int.eq_ofNat_of_zero_le (show 0 ≤ e + co by omega)
  rw [hE] at we
  have hE26 : E ≤ 67108864 := by omega
  rw [hE, Int.toNat_natCast] at hp
  have hEl : (ofN E).length ≤ 1 := ofN_len_le (by rw [show wN 1 = 4294967296 from rfl]; omega)
  have h1l : (ofN 1).length ≤ 1 := by rw [ofN_u32 (by decide) (by decide)]; decide
  have hEc : chkF (ofN E) (ofN 1) = true := by
    unfold chkF
    rw [chkN_ofN (by omega), chkN_ofN (by omega), valN_ofN, valN_ofN, Nat.gcd_one_right]; rfl
  have hmul : mulF y1 y2 (ofN E) (ofN 1) = exF (valN y1 * E) (valN y2) := by
    unfold mulF
    rw [hchk, hEc, Bool.and_self, if_pos rfl, valN_ofN, valN_ofN, Nat.mul_one]
  have hml := mul_len (valN y1) E
  have hy1 : (ofN (valN y1)).length ≤ 1 := ofN_len_le (by rw [show wN 1 = 4294967296 from rfl]; exact l1)
  have hy2 : (ofN (valN y2)).length ≤ 1 := ofN_len_le (by rw [show wN 1 = 4294967296 from rfl]; exact l2)
  obtain ⟨t0, t1, t2, t3, t4⟩ := exF_small (x := valN y1 * E) (y := valN y2) y0 (by omega) (by omega)
  have hXB : valN y1 * E ≤ bigB := Nat.le_trans (Nat.mul_le_mul (Nat.le_of_lt l1) hE26) (by decide)
  rw [← hmul] at t0 t1 t2 t3 t4 hp
  have tl := mulF_len' y1 y2 (ofN E) (ofN 1)
  obtain ⟨s1, s2⟩ := hS.add (n' := (mulF y1 y2 (ofN E) (ofN 1)).2.1) (d' := (mulF y1 y2 (ofN E) (ofN 1)).2.2) (by omega) bigB_fits (Nat.le_trans t1 hXB) t3 (by omega)
  have hlen := hS.len (by omega) bigB_fits
  have hadd : addF (ofN n) (ofN d) (ofN (mulF y1 y2 (ofN E) (ofN 1)).2.1) (ofN (mulF y1 y2 (ofN E) (ofN 1)).2.2) = exF (n * (mulF y1 y2 (ofN E) (ofN 1)).2.2 + (mulF y1 y2 (ofN E) (ofN 1)).2.1 * d) (d * (mulF y1 y2 (ofN E) (ofN 1)).2.2) := addF_of (hS.chk (by omega) bigB_fits) t4
  clear hmul hml hXB q1 q2 t1 t2
  (replace hb0 := true_and True); refine Go1.mk ?_; repeat' ((first | (with_reducible refine Go1.go ?_) | ((with_reducible first | refine brv_mk ?_ ?_ | refine gsplitD ?_ ?_ | refine gsplitG ?_ ?_) <;> intro h <;> (try simp only [Bool.not_eq_true', Bool.not_eq_false'] at h) <;> replace hb0 := h) | ((first | (with_reducible refine isCall (f := 36) ?_; refine callA_nil (by kernel_rfl) ?_) | (with_reducible refine isCall0 (f := 36) ?_; refine callA0_nil (by kernel_rfl) ?_)); refine (whole_ok E (by omega) (fun w3 w4 M4 c1 c2 c3 c4 c5 => Stop.mk ?_))) | ((with_reducible refine isDraw [some 35, some 36, some 37, some 38, some 39, some 40, some 41, some 42, some 34, some 43, some 44, some 11, none, some 12] (by decide) ?_); refine draw_rule [(0, []), (1, []), (2, []), (3, []), (4, []), (5, [4]), (11, [4]), (6, [4]), (7, []), (8, []), (9, []), (10, []), (12, []), (13, [])] [[], [], [0, 1], [0, 1, 2], [0, 1, 2, 3], [], [5], [0, 1, 2, 3, 4, 5, 6], [0, 1, 2, 3, 4, 5, 6, 7], [0, 1, 2, 3, 4, 5, 6, 7, 8], [0, 1, 2, 3, 4, 5, 6, 7, 8], [], [0, 1, 2, 3, 4, 5, 6, 7, 8, 9, 11], [0, 1, 2, 3, 4, 5, 6, 7, 8, 9, 10, 11, 12]] [35, 36, 37, 38, 39, 40, 41, 42, 34, 43, 44, 11] [] (by kernel_rfl) (by kernel_rfl) (by kernel_rfl) (by kernel_rfl) (by exact trivial) ?_) | (refine And.intro ?ob ?_; case ob => ((try simp only [sxO, ne_eq, maxLen] at *); omega)) | fail) <;> (try simp (config := { maxSteps := 1000000 }) only [hb0, olSt, hu3.one, hu3.len, hu3.sl, hv3.one, hv3.len, hv3.sl, hnn, hnu, p1, d1, b1, b2, b3, b4, hat, hac, hcc, hE, we, hw1.one, hw2.one, hF1.n.one, hF1.d.one, ↓hold_pre, awayP, runOps, regK, step1, newK, genR, appR, obl, buildR, Value.cells, closeK, keepH, outV, retK, ret1, retC, RetV, Option.getD, runD, stepD, afterK, undef, simprocAttr, sxB, ↓sxD, sxE, sxTab]))
  have c1 : Mem.le M3 M4 := c1
  have hF4 := hF1.le c1
  have hw1' := hw1.le c1
  have hw2' := hw2.le c1
  refine Stop.go ?_
  (replace hb0 := true_and True); refine Go1.mk ?_; repeat' ((first | (with_reducible refine Go1.go ?_) | ((with_reducible first | refine brv_mk ?_ ?_ | refine gsplitD ?_ ?_ | refine gsplitG ?_ ?_) <;> intro h <;> (try simp only [Bool.not_eq_true', Bool.not_eq_false'] at h) <;> replace hb0 := h) | ((first | (with_reducible refine isCall (f := 21) ?_; refine callA_nil (by kernel_rfl) ?_) | (with_reducible refine isCall0 (f := 21) ?_; refine callA0_nil (by kernel_rfl) ?_)); refine (fmul_ok hF4 ⟨c2, c3, okN_ofN _, okN_ofN _, by omega, by omega⟩ (fun v1 v2 M5 f1 f2 f3 f4 f5 => Stop.mk ?_))) | ((with_reducible refine isDraw [some 35, some 36, some 37, some 38, some 39, some 40, some 41, some 42, some 34, some 43, some 44, some 11, none, some 12] (by decide) ?_); refine draw_rule [(0, []), (1, []), (2, []), (3, []), (4, []), (5, [4]), (11, [4]), (6, [4]), (7, []), (8, []), (9, []), (10, []), (12, []), (13, [])] [[], [], [0, 1], [0, 1, 2], [0, 1, 2, 3], [], [5], [0, 1, 2, 3, 4, 5, 6], [0, 1, 2, 3, 4, 5, 6, 7], [0, 1, 2, 3, 4, 5, 6, 7, 8], [0, 1, 2, 3, 4, 5, 6, 7, 8], [], [0, 1, 2, 3, 4, 5, 6, 7, 8, 9, 11], [0, 1, 2, 3, 4, 5, 6, 7, 8, 9, 10, 11, 12]] [35, 36, 37, 38, 39, 40, 41, 42, 34, 43, 44, 11] [] (by kernel_rfl) (by kernel_rfl) (by kernel_rfl) (by kernel_rfl) (by exact trivial) ?_) | (refine And.intro ?ob ?_; case ob => ((try simp only [sxO, ne_eq, maxLen] at *); omega)) | fail) <;> (try simp (config := { maxSteps := 1000000 }) only [hb0, hF4.n.one, hF4.d.one, c2.one, c3.one, ↓hold_pre, awayP, runOps, regK, step1, newK, genR, appR, obl, buildR, Value.cells, closeK, keepH, outV, retK, ret1, retC, RetV, Option.getD, runD, stepD, afterK, undef, simprocAttr, sxB, ↓sxD, sxE, sxTab]))
  have f1 : Mem.le M4 M5 := f1
  have hw1' := hw1'.le f1
  have hw2' := hw2'.le f1
  have d2 : decide ((mulF y1 y2 (ofN E) (ofN 1)).1 = 0) = true := decide_eq_true t0
  refine Stop.go ?_
  (replace hb0 := true_and True); refine Go1.mk ?_; repeat' ((first | (with_reducible refine Go1.go ?_) | ((with_reducible first | refine brv_mk ?_ ?_ | refine gsplitD ?_ ?_ | refine gsplitG ?_ ?_) <;> intro h <;> (try simp only [Bool.not_eq_true', Bool.not_eq_false'] at h) <;> replace hb0 := h) | ((first | (with_reducible refine isCall (f := 42) ?_; refine callA_nil (by kernel_rfl) ?_) | (with_reducible refine isCall0 (f := 42) ?_; refine callA0_nil (by kernel_rfl) ?_)); refine (fadd_ok ⟨hw1', hw2', okN_ofN _, okN_ofN _, by omega, by omega⟩ ⟨f2, f3, okN_ofN _, okN_ofN _, by omega, by omega⟩ (fun v3 v4 M6 g1 g2 g3 g4 g5 => Stop.mk ?_))) | ((with_reducible refine isDraw [some 35, some 36, some 37, some 38, some 39, some 40, some 41, some 42, some 34, some 43, some 44, some 11, none, some 12] (by decide) ?_); refine draw_rule [(0, []), (1, []), (2, []), (3, []), (4, []), (5, [4]), (11, [4]), (6, [4]), (7, []), (8, []), (9, []), (10, []), (12, []), (13, [])] [[], [], [0, 1], [0, 1, 2], [0, 1, 2, 3], [], [5], [0, 1, 2, 3, 4, 5, 6], [0, 1, 2, 3, 4, 5, 6, 7], [0, 1, 2, 3, 4, 5, 6, 7, 8], [0, 1, 2, 3, 4, 5, 6, 7, 8], [], [0, 1, 2, 3, 4, 5, 6, 7, 8, 9, 11], [0, 1, 2, 3, 4, 5, 6, 7, 8, 9, 10, 11, 12]] [35, 36, 37, 38, 39, 40, 41, 42, 34, 43, 44, 11] [] (by kernel_rfl) (by kernel_rfl) (by kernel_rfl) (by kernel_rfl) (by exact trivial) ?_) | (refine And.intro ?ob ?_; case ob => ((try simp only [sxO, ne_eq, maxLen] at *); omega)) | fail) <;> (try simp (config := { maxSteps := 1000000 }) only [hb0, f2.one, f3.one, hw1'.one, hw2'.one, d2, ↓hold_pre, awayP, runOps, regK, step1, newK, genR, appR, obl, buildR, Value.cells, closeK, keepH, outV, retK, ret1, retC, RetV, Option.getD, runD, stepD, afterK, undef, simprocAttr, sxB, ↓sxD, sxE, sxTab]))
  have g1 : Mem.le M5 M6 := g1
  rw [hadd] at g2 g3
  have d3 : decide ((addF (ofN n) (ofN d) (ofN (mulF y1 y2 (ofN E) (ofN 1)).2.1) (ofN (mulF y1 y2 (ofN E) (ofN 1)).2.2)).1 = 0) = true := by rw [hadd]; exact decide_eq_true s1
  refine Stop.go ?_
  (replace hb0 := true_and True); refine Go1.mk ?_; repeat' ((first | (with_reducible refine Go1.go ?_) | ((with_reducible first | refine brv_mk ?_ ?_ | refine gsplitD ?_ ?_ | refine gsplitG ?_ ?_) <;> intro h <;> (try simp only [Bool.not_eq_true', Bool.not_eq_false'] at h) <;> replace hb0 := h) | ((with_reducible refine isDraw [some 35, some 36, some 37, some 38, some 39, some 40, some 41, some 42, some 34, some 43, some 44, some 11, none, some 12] (by decide) ?_); refine draw_rule [(0, []), (1, []), (2, []), (3, []), (4, []), (5, [4]), (11, [4]), (6, [4]), (7, []), (8, []), (9, []), (10, []), (12, []), (13, [])] [[], [], [0, 1], [0, 1, 2], [0, 1, 2, 3], [], [5], [0, 1, 2, 3, 4, 5, 6], [0, 1, 2, 3, 4, 5, 6, 7], [0, 1, 2, 3, 4, 5, 6, 7, 8], [0, 1, 2, 3, 4, 5, 6, 7, 8], [], [0, 1, 2, 3, 4, 5, 6, 7, 8, 9, 11], [0, 1, 2, 3, 4, 5, 6, 7, 8, 9, 10, 11, 12]] [35, 36, 37, 38, 39, 40, 41, 42, 34, 43, 44, 11] [] (by kernel_rfl) (by kernel_rfl) (by kernel_rfl) (by kernel_rfl) (by exact trivial) ?_) | (refine And.intro ?ob ?_; case ob => ((try simp only [sxO, ne_eq, maxLen] at *); omega)) | fail) <;> (try simp (config := { maxSteps := 1000000 }) only [hb0, g2.one, g3.one, d3, wi, ↓hold_pre, awayP, runOps, regK, step1, newK, genR, appR, obl, buildR, Value.cells, closeK, keepH, outV, retK, ret1, retC, RetV, Option.getD, runD, stepD, afterK, undef, simprocAttr, sxB, ↓sxD, sxE, sxTab]))
  have hMM := (c1.trans f1).trans g1
  exact ⟨o.length - (i + 1), olSt M6 u v v3 v4 o.length (i + 1) (E : Int), by omega, le_sub ⟨rfl, rfl, rfl, rfl, rfl, rfl, rfl, trivial⟩ ⟨rfl, rfl, trivial⟩ rfl rfl rfl (keepLt0 _), M6, v3, v4, _, _, i + 1, (E : Int), rfl, by omega, hM.trans hMM, g2, g3, g4.le (hM1.trans (c1.trans f1)), g5.le (hM1.trans (c1.trans f1)), s2, by omega, by omega, hp, rfl⟩
end
end Go.Proofs.Ytjapnklocibgaaa.Sx
namespace Go.Proofs.Ytjapnklocibgaaa.Sx
open Go Go.RowKit
set_option linter.unusedVariables false
set_option linter.unusedSimpArgs false
set_option maxRecDepth 100000
set_option maxHeartbeats 8000000
attribute [local congr] fin_congr finG_congr stepG_congr step1_congr runOps_congr brv_congr obl_congr condK_congr LoopK_congr seqK_congr CutK_congr vc_congr DrawK_congr regK_congr CallK_congr AskK_congr newK_congr retC_congr ret1_congr retK_congr outV_congr closeK_congr genR_congr appR_congr finD_congr finGD_congr stepGD_congr stepD_congr CallK0_congr runD_congr okR_congr CallS_congr vcX_congr
attribute [local congr] Stop_congr
def sbV (l : Bst) : Value := .string (bs l)
def irC (L : List IR) : List AV := (L.flatMap IR.c).map .ext
theorem irC_len (L : List IR) : (irC L).length = L.length * 5 := by
  unfold irC
  rw [List.length_map, flat_len (z := 5) (fun _ => rfl)]
theorem irC_ment (L : List IR) : mentL (irC L) = [] := mentL_ext _
theorem irC_kill (k : Nat) (L : List IR) : killL k (irC L) = irC L := killL_ext _ _
theorem irC_app (L : List IR) (x : IR) : irC L ++ [.ext (.string (bs x.pk)), .ext (.string (bs x.ts)), .ext x.u1, .ext x.u2, .ext (.int .i64 x.cost)] = irC (L ++ [x]) := by simp [irC, IR.c]
structure ItOK (M : Mem) (x : IR) : Prop where
  ok : x.ok M
  chk : chkI x = true
theorem ItOK.le {M M' : Mem} {x : IR} (h : ItOK M x) (hM : Mem.le M M') : ItOK M' x := ⟨h.ok.le hM, h.chk⟩
theorem itOK_of {M : Mem} {w1 w2 : Value} {n d : Nat} (pk ts : Bst) (c : Nat) (h1 : IsL M u32V w1 (ofN n)) (h2 : IsL M u32V w2 (ofN d)) (hn : n < 4294967296) (hd0 : 0 < d) (hd : d < 4294967296) (hg : Nat.gcd n d = 1) (hc : 0 < c) (hc2 : c ≤ 1048576) : ItOK M ⟨pk, ts, w1, w2, ofN n, ofN d, (c : Int)⟩ := by
  have e1 : (ofN n).length ≤ 1 := ofN_len_le (by rw [show wN 1 = 4294967296 from rfl]; exact hn)
  have e2 : (ofN d).length ≤ 1 := ofN_len_le (by rw [show wN 1 = 4294967296 from rfl]; exact hd)
  refine ⟨⟨⟨h1, h2, okN_ofN _, okN_ofN _, by simp only; omega, by simp only; omega⟩, by simp only; omega, by simp only; omega⟩, ?_⟩
  unfold chkI chkF
  simp only
  rw [chkN_ofN (by omega), chkN_ofN (by omega), valN_ofN, valN_ofN, hg, decide_eq_false (show ¬ d = 0 by omega), decide_eq_true e1, decide_eq_true e2, decide_eq_true (show (1 : Int) ≤ (c : Int) by omega), decide_eq_true (show (c : Int) ≤ 1048576 by omega)]; rfl
theorem sml_low (num den : Nat) (hn : num ≤ 2147483648) (hd : 0 < den) (hd2 : den ≤ 2147483648) : num / Nat.gcd num den < 4294967296 ∧ 0 < den / Nat.gcd num den ∧ den / Nat.gcd num den < 4294967296 ∧ Nat.gcd (num / Nat.gcd num den) (den / Nat.gcd num den) = 1 := by
  have hg0 : 0 < Nat.gcd num den := Nat.gcd_pos_of_pos_right _ hd
  have h1 := Nat.div_le_self num (Nat.gcd num den)
  have h2 := Nat.div_le_self den (Nat.gcd num den)
  exact ⟨by omega, Nat.div_pos (Nat.gcd_le_right num hd) hg0, by omega, Nat.gcd_div_gcd_div_gcd_of_pos_right hd⟩
section
variable {M : Mem} {K : AV → Hp → Mem → Prop}
theorem item_ok (ts : Bst) (num den : Nat) (cost : Int) (hn : num ≤ 2147483648) (hd : 0 < den) (hd2 : den ≤ 2147483648)
    (hK : ∀ w1 w2 M', Mem.le M M' → IsL M' u32V w1 (ofN (num / Nat.gcd num den)) → IsL M' u32V w2 (ofN (den / Nat.gcd num den)) → FreshS M w1 → FreshS M w2 → K (.ext (.agg #[.string (bs [112]), .string (bs ts), w1, w2, .int .i64 cost])) [] M') : CallS Try.prog 19 [.ext (.string (bs ts)), .ext (.int .i64 (num : Int)), .ext (.int .i64 (den : Int)), .ext (.int .i64 cost)] [] M [] K := by
  refine inlS (cs := []) Try.mixed Try.func19 rfl (by kernel_rfl) 0 rfl rfl ?_
  simp only [Try.f19]
  (replace hb0 := true_and True); refine Go1.mk ?_; repeat' ((first | (with_reducible refine Go1.go ?_) | ((with_reducible first | refine brv_mk ?_ ?_ | refine gsplitD ?_ ?_ | refine gsplitG ?_ ?_) <;> intro h <;> (try simp only [Bool.not_eq_true', Bool.not_eq_false'] at h) <;> replace hb0 := h) | ((first | (with_reducible refine isCall (f := 22) ?_; refine callA_nil (by kernel_rfl) ?_) | (with_reducible refine isCall0 (f := 22) ?_; refine callA0_nil (by kernel_rfl) ?_)); refine (sml_ok num den hn hd hd2 (fun w1 w2 M1 a1 a2 a3 a4 a5 => Stop.mk ?_))) | (refine And.intro ?ob ?_; case ob => ((try simp only [sxO, ne_eq, maxLen] at *); omega)) | fail) <;> (try simp (config := { maxSteps := 1000000 }) only [hb0, bs_mk, bs_app, bs_ext, bs_size, bs_toList, bs_at, bs_cells, List.take_length, imp_ga, guard_pk, guard_pk2, ↓hold_pre, awayP, runOps, regK, step1, newK, genR, appR, obl, buildR, Value.cells, closeK, keepH, outV, retK, ret1, retC, RetV, Option.getD, runD, stepD, afterK, undef, simprocAttr, sxB, ↓sxD, sxE, sxTab]))
  have hk := hK w1 w2 M1 a1 a2 a3 a4 a5
  refine Stop.go ?_
  (replace hb0 := true_and True); refine Go1.mk ?_; repeat' ((first | (with_reducible refine Go1.go ?_) | ((with_reducible first | refine brv_mk ?_ ?_ | refine gsplitD ?_ ?_ | refine gsplitG ?_ ?_) <;> intro h <;> (try simp only [Bool.not_eq_true', Bool.not_eq_false'] at h) <;> replace hb0 := h) | (refine And.intro ?ob ?_; case ob => ((try simp only [sxO, ne_eq, maxLen] at *); omega)) | fail) <;> (try simp (config := { maxSteps := 1000000 }) only [hb0, a2.one, a3.one, bs_mk, bs_app, bs_ext, bs_size, bs_toList, bs_at, bs_cells, List.take_length, imp_ga, guard_pk, guard_pk2, ↓hold_pre, awayP, runOps, regK, step1, newK, genR, appR, obl, buildR, Value.cells, closeK, keepH, outV, retK, ret1, retC, RetV, Option.getD, runD, stepD, afterK, undef, simprocAttr, sxB, ↓sxD, sxE, sxTab]))
  exact hk
end
end Go.Proofs.Ytjapnklocibgaaa.Sx
namespace Go.Proofs.Ytjapnklocibgaaa.Sx
open Go Go.RowKit
set_option linter.unusedVariables false
set_option linter.unusedSimpArgs false
set_option maxRecDepth 100000
set_option maxHeartbeats 8000000
attribute [local congr] fin_congr finG_congr stepG_congr step1_congr runOps_congr brv_congr obl_congr condK_congr LoopK_congr seqK_congr CutK_congr vc_congr DrawK_congr regK_congr CallK_congr AskK_congr newK_congr retC_congr ret1_congr retK_congr outV_congr closeK_congr genR_congr appR_congr finD_congr finGD_congr stepGD_congr stepD_congr CallK0_congr runD_congr okR_congr CallS_congr vcX_congr
attribute [local congr] Stop_congr
section
variable {M : Mem} {K : AV → Hp → Mem → Prop}
def sameSt (M : Mem) (u1 u2 : Value) (i : Nat) : St := { env := [(5, .ext (.int .i64 (i : Int))), (4, .ext (.bool false)), (1, .ext u2), (0, .ext u1)], hp := [], M := M, kb := 0, fx := [] }
theorem sameInts_ok (u1 u2 : Value) (l1 l2 : List Int) (h1 : IsL M intV64 u1 l1) (h2 : IsL M intV64 u2 l2) (hb : l1.length < 1000000000) (hb2 : l2.length < 1000000000) (hK : K (.ext (.bool (decide (l1 = l2)))) [] M) : CallS Try.prog 23 [.ext u1, .ext u2] [] M [] K := by
  refine inlS (cs := []) Try.mixed Try.func23 rfl (by kernel_rfl) 0 rfl rfl ?_
  simp only [Try.f23]
  by_cases hl : l1.length = l2.length
  · have hl2 : decide ((l1.length : Int) = (l2.length : Int)) = true := by simp [hl]
    (replace hb0 := true_and True); refine Go1.mk ?_; repeat' ((first | (with_reducible refine Go1.go ?_) | ((with_reducible first | refine brv_mk ?_ ?_ | refine gsplitD ?_ ?_ | refine gsplitG ?_ ?_) <;> intro h <;> (try simp only [Bool.not_eq_true', Bool.not_eq_false'] at h) <;> replace hb0 := h) | ((with_reducible refine isDraw [some 17, some 18, some 19, some 20, some 21, some 22, some 23, some 24, some 25] (by decide) ?_); refine draw_rule [(0, []), (1, []), (2, []), (3, []), (4, [3]), (5, [3]), (6, [3]), (7, [3]), (8, [])] [[], [], [0, 1], [0, 1, 2], [], [], [4, 5], [4, 5, 6], [0, 1, 2, 3, 4, 5, 6, 7]] [17, 18, 19, 20, 21, 22, 23, 24] [] (by kernel_rfl) (by kernel_rfl) (by kernel_rfl) (by kernel_rfl) (by exact trivial) ?_) | (refine And.intro ?ob ?_; case ob => ((try simp only [sxO, ne_eq, maxLen] at *); omega)) | fail) <;> (try simp (config := { maxSteps := 1000000 }) only [hb0, h1.len, h1.sl, h2.len, h2.sl, hl2, ↓hold_pre, awayP, runOps, regK, step1, newK, genR, appR, obl, buildR, Value.cells, closeK, keepH, outV, retK, ret1, retC, RetV, Option.getD, runD, stepD, afterK, undef, simprocAttr, sxB, ↓sxD, sxE, sxTab]))
    refine ⟨fun m z => ∃ i, i ≤ l1.length ∧ l1.take i = l2.take i ∧ m = l1.length - i ∧ z = sameSt M u1 u2 i, ⟨l1.length, sameSt M u1 u2 0, le_sub ⟨rfl, rfl, rfl, rfl, trivial⟩ trivial rfl rfl rfl (keepLt0 _), ⟨0, by omega, rfl, rfl, rfl⟩⟩, ?_⟩
    rintro m z ⟨i, hi, hpre, rfl, rfl⟩
    by_cases hlt : i < l1.length
    · have hlt2 : i < l2.length := by omega
      have f1 := h1.idx (P := Try.prog) (T := 3) tk3 tz3 (by omega) hlt
      have f2 := h2.idx (P := Try.prog) (T := 3) tk3 tz3 (by omega) hlt2
      (replace hb0 := true_and True); refine Go1.mk ?_; repeat' ((first | (with_reducible refine Go1.go ?_) | ((with_reducible first | refine brv_mk ?_ ?_ | refine gsplitD ?_ ?_ | refine gsplitG ?_ ?_) <;> intro h <;> (try simp only [Bool.not_eq_true', Bool.not_eq_false'] at h) <;> replace hb0 := h) | ((with_reducible refine isDraw [some 17, some 18, some 19, some 20, some 21, some 22, some 23, some 24, some 25] (by decide) ?_); refine draw_rule [(0, []), (1, []), (2, []), (3, []), (4, [3]), (5, [3]), (6, [3]), (7, [3]), (8, [])] [[], [], [0, 1], [0, 1, 2], [], [], [4, 5], [4, 5, 6], [0, 1, 2, 3, 4, 5, 6, 7]] [17, 18, 19, 20, 21, 22, 23, 24] [] (by kernel_rfl) (by kernel_rfl) (by kernel_rfl) (by kernel_rfl) (by exact trivial) ?_) | (refine And.intro ?ob ?_; case ob => ((try simp only [sxO, ne_eq, maxLen] at *); omega)) | fail) <;> (try simp (config := { maxSteps := 1000000 }) only [hb0, f1, f2, intV64, sameSt, ↓hold_pre, awayP, runOps, regK, step1, newK, genR, appR, obl, buildR, Value.cells, closeK, keepH, outV, retK, ret1, retC, RetV, Option.getD, runD, stepD, afterK, undef, simprocAttr, sxB, ↓sxD, sxE, sxTab]))
      · have e : decide (l1 = l2) = false := by
          simp only [Bool.not_eq_true', decide_eq_false_iff_not] at h ⊢
          intro e; subst e; exact h rfl
        rw [e] at hK; exact hK
      · simp only [Bool.not_eq_false', decide_eq_true_eq] at h
        refine ⟨l1.length - (i + 1), sameSt M u1 u2 (i + 1), by omega, le_sub ⟨rfl, rfl, rfl, rfl, trivial⟩ trivial rfl rfl rfl (keepLt0 _), i + 1, by omega, ?_, rfl, rfl⟩
        rw [List.take_succ_eq_append_getElem hlt, List.take_succ_eq_append_getElem hlt2, hpre, h]
    · have f1 := h1.fin hlt
      have ei : i = l1.length := by omega
      subst ei
      rw [List.take_length, hl, List.take_length] at hpre
      have e : decide (l1 = l2) = true := by simp [hpre]
      rw [e] at hK
      (replace hb0 := true_and True); refine Go1.mk ?_; repeat' ((first | (with_reducible refine Go1.go ?_) | ((with_reducible first | refine brv_mk ?_ ?_ | refine gsplitD ?_ ?_ | refine gsplitG ?_ ?_) <;> intro h <;> (try simp only [Bool.not_eq_true', Bool.not_eq_false'] at h) <;> replace hb0 := h) | ((with_reducible refine isDraw [some 17, some 18, some 19, some 20, some 21, some 22, some 23, some 24, some 25] (by decide) ?_); refine draw_rule [(0, []), (1, []), (2, []), (3, []), (4, [3]), (5, [3]), (6, [3]), (7, [3]), (8, [])] [[], [], [0, 1], [0, 1, 2], [], [], [4, 5], [4, 5, 6], [0, 1, 2, 3, 4, 5, 6, 7]] [17, 18, 19, 20, 21, 22, 23, 24] [] (by kernel_rfl) (by kernel_rfl) (by kernel_rfl) (by kernel_rfl) (by exact trivial) ?_) | (refine And.intro ?ob ?_; case ob => ((try simp only [sxO, ne_eq, maxLen] at *); omega)) | fail) <;> (try simp (config := { maxSteps := 1000000 }) only [hb0, f1, sameSt, ↓hold_pre, awayP, runOps, regK, step1, newK, genR, appR, obl, buildR, Value.cells, closeK, keepH, outV, retK, ret1, retC, RetV, Option.getD, runD, stepD, afterK, undef, simprocAttr, sxB, ↓sxD, sxE, sxTab]))
      exact hK
  · have hl2 : decide ((l1.length : Int) = (l2.length : Int)) = false := by simp; omega
    have e : decide (l1 = l2) = false := by
      simp only [decide_eq_false_iff_not]
      intro e; subst e; exact hl rfl
    rw [e] at hK
    (replace hb0 := true_and True); refine Go1.mk ?_; repeat' ((first | (with_reducible refine Go1.go ?_) | ((with_reducible first | refine brv_mk ?_ ?_ | refine gsplitD ?_ ?_ | refine gsplitG ?_ ?_) <;> intro h <;> (try simp only [Bool.not_eq_true', Bool.not_eq_false'] at h) <;> replace hb0 := h) | ((with_reducible refine isDraw [some 17, some 18, some 19, some 20, some 21, some 22, some 23, some 24, some 25] (by decide) ?_); refine draw_rule [(0, []), (1, []), (2, []), (3, []), (4, [3]), (5, [3]), (6, [3]), (7, [3]), (8, [])] [[], [], [0, 1], [0, 1, 2], [], [], [4, 5], [4, 5, 6], [0, 1, 2, 3, 4, 5, 6, 7]] [17, 18, 19, 20, 21, 22, 23, 24] [] (by kernel_rfl) (by kernel_rfl) (by kernel_rfl) (by kernel_rfl) (by exact trivial) ?_) | (refine And.intro ?ob ?_; case ob => ((try simp only [sxO, ne_eq, maxLen] at *); omega)) | fail) <;> (try simp (config := { maxSteps := 1000000 }) only [hb0, h1.len, h1.sl, h2.len, h2.sl, hl2, ↓hold_pre, awayP, runOps, regK, step1, newK, genR, appR, obl, buildR, Value.cells, closeK, keepH, outV, retK, ret1, retC, RetV, Option.getD, runD, stepD, afterK, undef, simprocAttr, sxB, ↓sxD, sxE, sxTab]))
    exact hK
theorem IsL.nat {u : Value} {l : List Nat} (h : IsL M natV u l) : IsL M intV64 u (l.map fun (x : Nat) => (x : Int)) := by
  unfold IsL at h ⊢
  rw [List.map_map, List.length_map]
  exact h
theorem same_bor {k : Nat} {u : Value} {l1 l2 : List Int} {T : TypeId} {H : Hp} (hp : pureH H) (hk : lkH H k = some (T, cE intV64 l2)) {n : Nat} (hn : n = l2.length) (hu : IsL M intV64 u l1) (hb : l1.length < 1000000000) (hb2 : l2.length < 1000000000) (hK : K (.ext (.bool (decide (l1 = l2)))) H M) : CallS Try.prog 23 [.ext u, .slo k 0 n 1] H M [] K := by
  refine CallS.bor hp fun us M' hM hb' => ?_
  obtain ⟨_, _, rfl, rfl, v2, _, rfl, h2, rfl⟩ := hb'
  exact sameInts_ok _ v2 l1 l2 (hu.le hM) (h2.isL hk hn) hb hb2 (BorK.same hK)
theorem BorV.isI {M : Mem} {H : Hp} {k n : Nat} {L : List IR} {u : Value} {T : TypeId} (h : BorV M H (.slo k 0 n 5) u) (hk : lkH H k = some (T, irC L)) (hn : n = L.length) : IsR M 5 IR.c u L := by
  have hl := flat_len (z := 5) (f := IR.c) (fun _ => rfl) L
  have := h T (L.flatMap IR.c) hk (by omega)
  rw [List.drop_zero, List.take_of_length_le (by omega), hn] at this
  exact this
theorem oorder_bor (k n : Nat) (T : TypeId) {L : List IR} (hn : n = L.length) (hL : okIL M L) (hb : L.length < 1000000) (hK : ∀ v Z M', Mem.le M M' → ordS L Z → IsL M' natV v Z → K (.ext (.tuple #[v, .int .i64 (ordE L)])) [(k, T, irC L)] M') :
    CallS Try.prog 11 [.slo k 0 n 5] [(k, T, irC L)] M [] K := by
  refine CallS.bor ⟨⟨_, rfl⟩, trivial⟩ fun us M' hM hb' => ?_
  obtain ⟨v1, _, rfl, h1, rfl⟩ := hb'
  have g1 := h1.isI (L := L) (T := T) (by simp [lkH]) hn
  refine order_ok g1 (hL.le hM) hb fun v Z M2 a1 a2 a3 a4 => ?_
  exact ⟨fun j hj => rfl, fun M3 h5 h6 _ => hK v Z M3 h5 a2 (a3.move a4 h6)⟩
theorem oloss_bor (k n : Nat) (T : TypeId) {L : List IR} {v : Value} {o : List Int} (hn : n = L.length) (hL : okIL M L) (hb : L.length < 1000000) (hv : IsL M intV64 v o) (hb2 : o.length < 1000000) (hK : ∀ w1 w2 M', Mem.le M M' → IsL M' u32V w1 (ofN (losP L o).1) → IsL M' u32V w2 (ofN (losP L o).2) → K (.ext (.tuple #[.agg #[w1, w2], .int .i64 (errO L o)])) [(k, T, irC L)] M') :
    CallS Try.prog 12 [.slo k 0 n 5, .ext v] [(k, T, irC L)] M [] K := by
  refine CallS.bor ⟨⟨_, rfl⟩, trivial⟩ fun us M' hM hb' => ?_
  obtain ⟨v1, _, rfl, h1, v2, _, rfl, rfl, rfl⟩ := hb'
  have g1 := h1.isI (L := L) (T := T) (by simp [lkH]) hn
  refine oloss_ok g1 (hL.le hM) hb (hv.le hM) hb2 fun w1 w2 M2 a1 a2 a3 a4 a5 => ?_
  exact ⟨fun j hj => rfl, fun M3 h5 h6 _ => hK w1 w2 M3 h5 (a2.move a4 h6) (a3.move a5 h6)⟩
end
end Go.Proofs.Ytjapnklocibgaaa.Sx
namespace Go.Proofs.Ytjapnklocibgaaa.Sx
open Go
theorem ratC_pre {L : List IR} (hc : ∀ x ∈ L, chkI x = true) : PreO (ratC L) := by
  have pos : ∀ x, 0 < (itA L x).cost.toNat * valN (itA L x).l2 := fun x => by
    by_cases hx : x < L.length
    · rw [itA_in hx]
      have h := chkI_parts (hc _ (List.getElem_mem hx))
      exact Nat.mul_pos (by omega) (chkF_pos h.1)
    · have : itA L x = itD := by unfold itA; rw [List.getElem?_eq_none (by omega)]; rfl
      rw [this]; decide
  have h1 : PreO (fun x y => cmpN (valN (itA L y).l1 * ((itA L x).cost.toNat * valN (itA L x).l2)) (valN (itA L x).l1 * ((itA L y).cost.toNat * valN (itA L y).l2))) := ⟨fun x y => cmpN_anti _ _, fun x y z g1 g2 => by
    have px := pos x
    have py := pos y
    have pz := pos z
    rw [cmpN_le0] at g1 g2 ⊢
    generalize (itA L x).cost.toNat * valN (itA L x).l2 = kx at *
    generalize (itA L y).cost.toNat * valN (itA L y).l2 = ky at *
    generalize (itA L z).cost.toNat * valN (itA L z).l2 = kz at *
    generalize valN (itA L x).l1 = nx at *
    generalize valN (itA L y).l1 = ny at *
    generalize valN (itA L z).l1 = nz at *
    have q1 := Nat.mul_le_mul_right kz g1
    have q2 := Nat.mul_le_mul_right kx g2
    refine Nat.le_of_mul_le_mul_right (c := ky) ?_ py
    calc nz * kx * ky = nz * ky * kx := by rw [Nat.mul_right_comm]
      _ ≤ ny * kz * kx := q2
      _ = ny * kx * kz := by rw [Nat.mul_right_comm]
      _ ≤ nx * ky * kz := q1
      _ = nx * kz * ky := by rw [Nat.mul_right_comm]⟩
  exact h1.lex ((cmp_S.pre fun x => (itA L x).pk).lex (cmp_S.pre fun x => (itA L x).ts))
theorem ordS_one {L : List IR} {Z W : List Nat} (hc : chkIL L = true) (h : ordS L Z) (hW : W.Perm (List.range L.length)) (hs : W.Pairwise (ltS (ratC L))) : Z = W := by
  unfold ordS at h
  rw [if_pos hc] at h
  have hcc := hc
  unfold chkIL at hcc
  rw [Bool.and_eq_true] at hcc
  exact sorted_one (ratC_pre (List.all_eq_true.1 hcc.2)).cmp (h.1.trans hW.symm) h.2 hs
def knoL (w1 w2 w3 w4 w5 w6 : Value) : List IR := [⟨[112], [97], w1, w2, ofN 1, ofN 2, 4⟩, ⟨[112], [98], w3, w4, ofN 1, ofN 3, 1⟩, ⟨[112], [99], w5, w6, ofN 1, ofN 4, 2⟩]
theorem kno_chk (w1 w2 w3 w4 w5 w6 : Value) : chkIL (knoL w1 w2 w3 w4 w5 w6) = true := by
  have h1 : ofN 1 = [1] := ofN_u32 (by decide) (by decide)
  have h2 : ofN 2 = [2] := ofN_u32 (by decide) (by decide)
  have h3 : ofN 3 = [3] := ofN_u32 (by decide) (by decide)
  have h4 : ofN 4 = [4] := ofN_u32 (by decide) (by decide)
  have c2 : chkF [1] [2] = true := by decide +kernel
  have c3 : chkF [1] [3] = true := by decide +kernel
  have c4 : chkF [1] [4] = true := by decide +kernel
  simp [chkIL, knoL, chkI, h1, h2, h3, h4, c2, c3, c4]
theorem kno_ord {w1 w2 w3 w4 w5 w6 : Value} {Z : List Nat} (h : ordS (knoL w1 w2 w3 w4 w5 w6) Z) : Z = [1, 0, 2] := by
  refine ordS_one (kno_chk _ _ _ _ _ _) h (by show List.Perm [1, 0, 2] (List.range 3); decide) ?_
  have e1 : ratC (knoL w1 w2 w3 w4 w5 w6) 1 0 = -1 := by
    simp only [ratC, knoL, itA, List.getElem?_cons_succ, List.getElem?_cons_zero, Option.getD_some, valN_ofN]; decide
  have e2 : ratC (knoL w1 w2 w3 w4 w5 w6) 1 2 = -1 := by
    simp only [ratC, knoL, itA, List.getElem?_cons_succ, List.getElem?_cons_zero, Option.getD_some, valN_ofN]; decide
  have e3 : ratC (knoL w1 w2 w3 w4 w5 w6) 0 2 = -1 := by
    simp only [ratC, knoL, itA, List.getElem?_cons_succ, List.getElem?_cons_zero, Option.getD_some, valN_ofN]; decide
  simp [ltS, e1, e2, e3]
theorem kno_err (w1 w2 w3 w4 w5 w6 : Value) : errO (knoL w1 w2 w3 w4 w5 w6) [1, 0, 2] = 0 := by
  unfold errO
  rw [kno_chk, if_pos rfl]
  have : permB (knoL w1 w2 w3 w4 w5 w6).length [1, 0, 2] = true := by show permB 3 [1, 0, 2] = true; decide
  rw [this, if_pos rfl]
theorem exF_num {x y n d : Nat} (h0 : 0 < y) (hd : 0 < d) (h : x * d = n * y) (hg : Nat.gcd n d = 1) (h1 : n < 4294967296) (h2 : d < 4294967296) : exF x y = (0, n, d) := exF_eq h0 hd h hg (Nat.le_trans (ofN_len_le (k := 1) (by rw [show wN 1 = 4294967296 from rfl]; exact h1)) (by decide)) (Nat.le_trans (ofN_len_le (k := 1) (by rw [show wN 1 = 4294967296 from rfl]; exact h2)) (by decide))
theorem kno_los (w1 w2 w3 w4 w5 w6 : Value) : losP (knoL w1 w2 w3 w4 w5 w6) [1, 0, 2] = (55, 12) := by
  unfold losP
  rw [kno_err, if_pos rfl]
  have a1 : exF 1 3 = (0, 1, 3) := exF_num (by decide) (by decide) (by decide) (by decide) (by decide) (by decide)
  have a2 : exF 5 2 = (0, 5, 2) := exF_num (by decide) (by decide) (by decide) (by decide) (by decide) (by decide)
  have a3 : exF 7 4 = (0, 7, 4) := exF_num (by decide) (by decide) (by decide) (by decide) (by decide) (by decide)
  have b2 : exF 17 6 = (0, 17, 6) := exF_num (by decide) (by decide) (by decide) (by decide) (by decide) (by decide)
  have b3 : exF 110 24 = (0, 55, 12) := exF_num (by decide) (by decide) (by decide) (by decide) (by decide) (by decide)
  simp [losV, costA, knoL, itA, valN_ofN, a1, a2, a3, b2, b3]
end Go.Proofs.Ytjapnklocibgaaa.Sx
namespace Go.Proofs.Ytjapnklocibgaaa.Sx
open Go Go.RowKit
set_option linter.unusedVariables false
set_option linter.unusedSimpArgs false
set_option maxRecDepth 100000
set_option maxHeartbeats 8000000
attribute [local congr] fin_congr finG_congr stepG_congr step1_congr runOps_congr brv_congr obl_congr condK_congr LoopK_congr seqK_congr CutK_congr vc_congr DrawK_congr regK_congr CallK_congr AskK_congr newK_congr retC_congr ret1_congr retK_congr outV_congr closeK_congr genR_congr appR_congr finD_congr finGD_congr stepGD_congr stepD_congr CallK0_congr runD_congr okR_congr CallS_congr vcX_congr
attribute [local congr] Stop_congr
section
variable {M : Mem} {K : AV → Hp → Mem → Prop}
theorem kno_ok {M : Mem} {w1 w2 w3 w4 w5 w6 : Value} (h1 : IsL M u32V w1 (ofN 1)) (h2 : IsL M u32V w2 (ofN 2)) (h3 : IsL M u32V w3 (ofN 1)) (h4 : IsL M u32V w4 (ofN 3)) (h5 : IsL M u32V w5 (ofN 1)) (h6 : IsL M u32V w6 (ofN 4)) : okIL M (knoL w1 w2 w3 w4 w5 w6) := fun x hx => by
  unfold knoL at hx
  simp only [List.mem_cons, List.not_mem_nil, or_false] at hx
  rcases hx with rfl | rfl | rfl
  · exact (itOK_of [112] [97] 4 h1 h2 (by decide) (by decide) (by decide) (by decide) (by decide) (by decide)).ok
  · exact (itOK_of [112] [98] 1 h3 h4 (by decide) (by decide) (by decide) (by decide) (by decide) (by decide)).ok
  · exact (itOK_of [112] [99] 2 h5 h6 (by decide) (by decide) (by decide) (by decide) (by decide) (by decide)).ok
theorem same102_ok (k : Nat) (T : TypeId) {v : Value} (hv : IsL M intV64 v [1, 0, 2]) (hK : K (.ext (.bool true)) [(k, T, [.ext (.int .i64 1), .ext (.int .i64 0), .ext (.int .i64 2)])] M) : CallS Try.prog 23 [.ext v, .slo k 0 3 1] [(k, T, [.ext (.int .i64 1), .ext (.int .i64 0), .ext (.int .i64 2)])] M [] K :=
  same_bor (H := [(k, T, [.ext (.int .i64 1), .ext (.int .i64 0), .ext (.int .i64 2)])]) (l1 := [1, 0, 2]) (l2 := [1, 0, 2]) (T := T) ⟨⟨[.int .i64 1, .int .i64 0, .int .i64 2], rfl⟩, trivial⟩ (by simp [lkH, cE, intV64]) rfl hv (by show 3 < 1000000000; decide) (by show 3 < 1000000000; decide) (by rw [decide_eq_true rfl]; exact hK)
theorem known29_ok (hK : ∀ M', Mem.le M M' → K (.ext (.bool true)) [] M') : CallS Try.prog 15 [] [] M [] K := by
  refine inlS (cs := []) Try.mixed Try.func15 rfl (by kernel_rfl) 0 rfl rfl ?_
  simp only [Try.f15]
  (replace hb0 := true_and True); refine Go1.mk ?_; repeat' ((first | (with_reducible refine Go1.go ?_) | ((with_reducible first | refine brv_mk ?_ ?_ | refine gsplitD ?_ ?_ | refine gsplitG ?_ ?_) <;> intro h <;> (try simp only [Bool.not_eq_true', Bool.not_eq_false'] at h) <;> replace hb0 := h) | ((first | (with_reducible refine isCall (f := 19) ?_; refine callA_nil (by kernel_rfl) ?_) | (with_reducible refine isCall0 (f := 19) ?_; refine callA0_nil (by kernel_rfl) ?_)); refine (item_ok [97] 1 2 4 (by decide) (by decide) (by decide) (fun w1 w2 M1 a1 a2 a3 _ _ => Stop.mk ?_))) | (refine And.intro ?ob ?_; case ob => ((try simp only [sxO, ne_eq, maxLen] at *); omega)) | fail) <;> (try simp (config := { maxSteps := 1000000 }) only [hb0, bs_mk, bs_app, bs_ext, bs_size, bs_toList, bs_at, bs_cells, List.take_length, imp_ga, guard_pk, guard_pk2, ↓hold_pre, awayP, runOps, regK, step1, newK, genR, appR, obl, buildR, Value.cells, closeK, keepH, outV, retK, ret1, retC, RetV, Option.getD, runD, stepD, afterK, undef, simprocAttr, sxB, ↓sxD, sxE, sxTab]))
  have a1 : Mem.le M M1 := a1
  have a2 : IsL M1 u32V w1 (ofN 1) := a2
  have a3 : IsL M1 u32V w2 (ofN 2) := a3
  refine Stop.go ?_
  (replace hb0 := true_and True); refine Go1.mk ?_; repeat' ((first | (with_reducible refine Go1.go ?_) | ((with_reducible first | refine brv_mk ?_ ?_ | refine gsplitD ?_ ?_ | refine gsplitG ?_ ?_) <;> intro h <;> (try simp only [Bool.not_eq_true', Bool.not_eq_false'] at h) <;> replace hb0 := h) | ((first | (with_reducible refine isCall (f := 19) ?_; refine callA_nil (by kernel_rfl) ?_) | (with_reducible refine isCall0 (f := 19) ?_; refine callA0_nil (by kernel_rfl) ?_)); refine (item_ok [98] 1 3 1 (by decide) (by decide) (by decide) (fun w3 w4 M2 b1 b2 b3 _ _ => Stop.mk ?_))) | (refine And.intro ?ob ?_; case ob => ((try simp only [sxO, ne_eq, maxLen] at *); omega)) | fail) <;> (try simp (config := { maxSteps := 1000000 }) only [hb0, a2.one, a3.one, bs_mk, bs_app, bs_ext, bs_size, bs_toList, bs_at, bs_cells, List.take_length, imp_ga, guard_pk, guard_pk2, ↓hold_pre, awayP, runOps, regK, step1, newK, genR, appR, obl, buildR, Value.cells, closeK, keepH, outV, retK, ret1, retC, RetV, Option.getD, runD, stepD, afterK, undef, simprocAttr, sxB, ↓sxD, sxE, sxTab]))
  have b1 : Mem.le M1 M2 := b1
  have b2 : IsL M2 u32V w3 (ofN 1) := b2
  have b3 : IsL M2 u32V w4 (ofN 3) := b3
  refine Stop.go ?_
  (replace hb0 := true_and True); refine Go1.mk ?_; repeat' ((first | (with_reducible refine Go1.go ?_) | ((with_reducible first | refine brv_mk ?_ ?_ | refine gsplitD ?_ ?_ | refine gsplitG ?_ ?_) <;> intro h <;> (try simp only [Bool.not_eq_true', Bool.not_eq_false'] at h) <;> replace hb0 := h) | ((first | (with_reducible refine isCall (f := 19) ?_; refine callA_nil (by kernel_rfl) ?_) | (with_reducible refine isCall0 (f := 19) ?_; refine callA0_nil (by kernel_rfl) ?_)); refine (item_ok [99] 1 4 2 (by decide) (by decide) (by decide) (fun w5 w6 M3 c1 c2 c3 _ _ => Stop.mk ?_))) | (refine And.intro ?ob ?_; case ob => ((try simp only [sxO, ne_eq, maxLen] at *); omega)) | fail) <;> (try simp (config := { maxSteps := 1000000 }) only [hb0, a2.one, a3.one, b2.one, b3.one, bs_mk, bs_app, bs_ext, bs_size, bs_toList, bs_at, bs_cells, List.take_length, imp_ga, guard_pk, guard_pk2, ↓hold_pre, awayP, runOps, regK, step1, newK, genR, appR, obl, buildR, Value.cells, closeK, keepH, outV, retK, ret1, retC, RetV, Option.getD, runD, stepD, afterK, undef, simprocAttr, sxB, ↓sxD, sxE, sxTab]))
  have c1 : Mem.le M2 M3 := c1
  have c2 : IsL M3 u32V w5 (ofN 1) := c2
  have c3 : IsL M3 u32V w6 (ofN 4) := c3
  have hok := kno_ok ((a2.le b1).le c1) ((a3.le b1).le c1) (b2.le c1) (b3.le c1) c2 c3
  refine Stop.go ?_
  (replace hb0 := true_and True); refine Go1.mk ?_; repeat' ((first | (with_reducible refine Go1.go ?_) | ((with_reducible first | refine brv_mk ?_ ?_ | refine gsplitD ?_ ?_ | refine gsplitG ?_ ?_) <;> intro h <;> (try simp only [Bool.not_eq_true', Bool.not_eq_false'] at h) <;> replace hb0 := h) | ((with_reducible refine isCall (f := 11) ?_); refine callA ?_) | ((with_reducible refine isCall0 (f := 11) ?_); refine callA0 ?_) | ((with_reducible refine isCallS (f := 11) ?_); refine (oorder_bor 9 3 _ (L := knoL w1 w2 w3 w4 w5 w6) rfl hok (by show 3 < 1000000; decide) (fun v Z M4 d1 d2 d3 => Stop.mk ?_))) | (refine And.intro ?ob ?_; case ob => ((try simp only [sxO, ne_eq, maxLen] at *); omega)) | fail) <;> (try simp (config := { maxSteps := 1000000 }) only [hb0, a2.one, a3.one, b2.one, b3.one, c2.one, c3.one, bs_mk, bs_app, bs_ext, bs_size, bs_toList, bs_at, bs_cells, List.take_length, imp_ga, guard_pk, guard_pk2, ↓hold_pre, awayP, runOps, regK, step1, newK, genR, appR, obl, buildR, Value.cells, closeK, keepH, outV, retK, ret1, retC, RetV, Option.getD, runD, stepD, afterK, undef, simprocAttr, sxB, ↓sxD, sxE, sxTab]))
  have d1 : Mem.le M3 M4 := d1
  obtain rfl := kno_ord d2
  have hE : ordE (knoL w1 w2 w3 w4 w5 w6) = 0 := by unfold ordE; rw [kno_chk, if_pos rfl]
  have d4 := d3.nat
  have d5 : IsL M4 intV64 v [1, 0, 2] := d4
  have hok2 := hok.le d1
  have hkm := irC_ment (knoL w1 w2 w3 w4 w5 w6)
  have hkk := fun k => irC_kill k (knoL w1 w2 w3 w4 w5 w6)
  have hEe := kno_err w1 w2 w3 w4 w5 w6
  have hM4 := ((a1.trans b1).trans c1).trans d1
  refine Stop.go ?_
  (replace hb0 := true_and True); refine Go1.mk ?_; repeat' ((first | (with_reducible refine Go1.go ?_) | ((with_reducible first | refine brv_mk ?_ ?_ | refine gsplitD ?_ ?_ | refine gsplitG ?_ ?_) <;> intro h <;> (try simp only [Bool.not_eq_true', Bool.not_eq_false'] at h) <;> replace hb0 := h) | ((with_reducible refine isCall (f := 12) ?_); refine callA ?_) | ((with_reducible refine isCall0 (f := 12) ?_); refine callA0 ?_) | ((with_reducible refine isCallS (f := 12) ?_); refine (oloss_bor 9 3 _ (L := knoL w1 w2 w3 w4 w5 w6) (o := [1, 0, 2]) rfl hok2 (by show 3 < 1000000; decide) d5 (by show 3 < 1000000; decide) (fun v1 v2 M5 e1 e2 e3 => Stop.mk ?_))) | (refine And.intro ?ob ?_; case ob => ((try simp only [sxO, ne_eq, maxLen] at *); omega)) | fail) <;> (try simp (config := { maxSteps := 1000000 }) only [hb0, hE, d5.one, irC_ment, irC_kill, hasK_nil, bs_mk, bs_app, bs_ext, bs_size, bs_toList, bs_at, bs_cells, List.take_length, imp_ga, guard_pk, guard_pk2, ↓hold_pre, awayP, runOps, regK, step1, newK, genR, appR, obl, buildR, Value.cells, closeK, keepH, outV, retK, ret1, retC, RetV, Option.getD, runD, stepD, afterK, undef, simprocAttr, sxB, ↓sxD, sxE, sxTab]))
  have e1 : Mem.le M4 M5 := e1
  rw [kno_los] at e2 e3
  have d6 := d5.le e1
  refine Stop.go ?_
  (replace hb0 := true_and True); refine Go1.mk ?_; repeat' ((first | (with_reducible refine Go1.go ?_) | ((with_reducible first | refine brv_mk ?_ ?_ | refine gsplitD ?_ ?_ | refine gsplitG ?_ ?_) <;> intro h <;> (try simp only [Bool.not_eq_true', Bool.not_eq_false'] at h) <;> replace hb0 := h) | ((with_reducible refine isCall (f := 23) ?_); refine callA ?_) | ((with_reducible refine isCall0 (f := 23) ?_); refine callA0 ?_) | ((with_reducible refine isCallS (f := 23) ?_); refine (same102_ok 29 _ d6 ?_)) | ((first | (with_reducible refine isCall (f := 22) ?_; refine callA_nil (by kernel_rfl) ?_) | (with_reducible refine isCall0 (f := 22) ?_; refine callA0_nil (by kernel_rfl) ?_)); refine (sml_ok 55 12 (by decide) (by decide) (by decide) (fun w7 w8 M6 f1 f2 f3 _ _ => Stop.mk ?_))) | ((with_reducible refine isDraw [some 21, some 22, some 23, some 24, some 25, some 26, some 27, some 28, some 29, some 30, some 31, some 32, some 33, some 34, some 35, some 36, some 0] (by decide) ?_); refine draw_rule [(0, []), (1, []), (2, []), (3, []), (4, []), (5, []), (6, []), (7, []), (8, []), (9, []), (10, []), (11, []), (12, []), (13, [12]), (14, []), (15, []), (16, [])] [[], [0], [0, 1], [0, 1, 2], [0, 1, 2, 3], [0, 1, 2, 3, 4], [0, 1, 2, 3, 4, 5], [0, 1, 2, 3, 4, 5, 6], [0, 1, 2, 3, 4, 5, 6], [0, 1, 2, 3, 4, 5, 6, 7, 8], [0, 1, 2, 3, 4, 5, 6, 7, 8, 9], [0, 1, 2, 3, 4, 5, 6, 7, 8, 9, 10], [0, 1, 2, 3, 4, 5, 6, 7, 8, 9, 10, 11], [0, 1, 2, 3, 4, 5, 6, 7, 8, 9, 10, 11], [0, 1, 2, 3, 4, 5, 6, 7, 8, 9, 10, 11, 12, 13], [0, 1, 2, 3, 4, 5, 6, 7, 8, 9, 10, 11, 12, 13, 14], [0, 1, 2, 3, 4, 5, 6, 7, 8, 9, 10, 11, 12, 13, 14, 15]] [28, 29, 33, 34] [] (by kernel_rfl) (by kernel_rfl) (by kernel_rfl) (by kernel_rfl) (by exact trivial) ?_) | (refine And.intro ?ob ?_; case ob => ((try simp only [sxO, ne_eq, maxLen] at *); omega)) | fail) <;> (try simp (config := { maxSteps := 1000000 }) only [hb0, hE, hEe, d6.one, e2.one, e3.one, irC_ment, irC_kill, hasK_nil, bs_mk, bs_app, bs_ext, bs_size, bs_toList, bs_at, bs_cells, List.take_length, imp_ga, guard_pk, guard_pk2, ↓hold_pre, awayP, runOps, regK, step1, newK, genR, appR, obl, buildR, Value.cells, closeK, keepH, outV, retK, ret1, retC, RetV, Option.getD, runD, stepD, afterK, undef, simprocAttr, sxB, ↓sxD, sxE, sxTab]))
  have f1 : Mem.le M5 M6 := f1
  have f2 : IsL M6 u32V w7 (ofN 55) := f2
  have f3 : IsL M6 u32V w8 (ofN 12) := f3
  have hk := hK M6 ((hM4.trans e1).trans f1)
  have e2 := e2.le f1
  have e3 := e3.le f1
  have l55 : (ofN 55).length < 1000000000 := by rw [ofN_u32 (by decide) (by decide)]; decide
  have l12 : (ofN 12).length < 1000000000 := by rw [ofN_u32 (by decide) (by decide)]; decide
  refine Stop.go ?_
  (replace hb0 := true_and True); refine Go1.mk ?_; repeat' ((first | (with_reducible refine Go1.go ?_) | ((with_reducible first | refine brv_mk ?_ ?_ | refine gsplitD ?_ ?_ | refine gsplitG ?_ ?_) <;> intro h <;> (try simp only [Bool.not_eq_true', Bool.not_eq_false'] at h) <;> replace hb0 := h) | ((first | (with_reducible refine isCall (f := 33) ?_; refine callA_nil (by kernel_rfl) ?_) | (with_reducible refine isCall0 (f := 33) ?_; refine callA0_nil (by kernel_rfl) ?_)); refine (sameFrac_ok e2 e3 f2 f3 l55 l12 ?_)) | ((with_reducible refine isDraw [some 21, some 22, some 23, some 24, some 25, some 26, some 27, some 28, some 29, some 30, some 31, some 32, some 33, some 34, some 35, some 36, some 0] (by decide) ?_); refine draw_rule [(0, []), (1, []), (2, []), (3, []), (4, []), (5, []), (6, []), (7, []), (8, []), (9, []), (10, []), (11, []), (12, []), (13, [12]), (14, []), (15, []), (16, [])] [[], [0], [0, 1], [0, 1, 2], [0, 1, 2, 3], [0, 1, 2, 3, 4], [0, 1, 2, 3, 4, 5], [0, 1, 2, 3, 4, 5, 6], [0, 1, 2, 3, 4, 5, 6], [0, 1, 2, 3, 4, 5, 6, 7, 8], [0, 1, 2, 3, 4, 5, 6, 7, 8, 9], [0, 1, 2, 3, 4, 5, 6, 7, 8, 9, 10], [0, 1, 2, 3, 4, 5, 6, 7, 8, 9, 10, 11], [0, 1, 2, 3, 4, 5, 6, 7, 8, 9, 10, 11], [0, 1, 2, 3, 4, 5, 6, 7, 8, 9, 10, 11, 12, 13], [0, 1, 2, 3, 4, 5, 6, 7, 8, 9, 10, 11, 12, 13, 14], [0, 1, 2, 3, 4, 5, 6, 7, 8, 9, 10, 11, 12, 13, 14, 15]] [28, 29, 33, 34] [] (by kernel_rfl) (by kernel_rfl) (by kernel_rfl) (by kernel_rfl) (by exact trivial) ?_) | (refine And.intro ?ob ?_; case ob => ((try simp only [sxO, ne_eq, maxLen] at *); omega)) | fail) <;> (try simp (config := { maxSteps := 1000000 }) only [hb0, e2.one, e3.one, f2.one, f3.one, irC_ment, irC_kill, hasK_nil, bs_mk, bs_app, bs_ext, bs_size, bs_toList, bs_at, bs_cells, List.take_length, imp_ga, guard_pk, guard_pk2, ↓hold_pre, awayP, runOps, regK, step1, newK, genR, appR, obl, buildR, Value.cells, closeK, keepH, outV, retK, ret1, retC, RetV, Option.getD, runD, stepD, afterK, undef, simprocAttr, sxB, ↓sxD, sxE, sxTab]))
  exact hk
end
end Go.Proofs.Ytjapnklocibgaaa.Sx
namespace Go.Proofs.Ytjapnklocibgaaa.Sx
open Go Go.RowKit
set_option linter.unusedVariables false
set_option linter.unusedSimpArgs false
set_option maxRecDepth 100000
set_option maxHeartbeats 8000000
attribute [local congr] fin_congr finG_congr stepG_congr step1_congr runOps_congr brv_congr obl_congr condK_congr LoopK_congr seqK_congr CutK_congr vc_congr DrawK_congr regK_congr CallK_congr AskK_congr newK_congr retC_congr ret1_congr retK_congr outV_congr closeK_congr genR_congr appR_congr finD_congr finGD_congr stepGD_congr stepD_congr CallK0_congr runD_congr okR_congr CallS_congr vcX_congr
attribute [local congr] Stop_congr
section
variable {M : Mem} {K : AV → Hp → Mem → Prop}
theorem one31a_ok (u : Value) (l : List Int) (p : Nat) (L : List Bst) (hL : L.length = 4) (hu : IsL M intV64 u l) (hp : p < 1000000) (hK : ∀ x ∈ L, K (.ext (.string (bs x))) [(31, 25, [.ext u, .ext (.int .i64 ((p + 1 : Nat) : Int))]), (49, 9, cE sbV L)] M) :
    CallS Try.prog 34 [.own 31 0, .slo 49 0 4 1] [(49, 9, cE sbV L), (31, 25, [.ext u, .ext (.int .i64 ((p : Nat) : Int))])] M [] K := by
  refine inlS (cs := []) Try.mixed Try.func34 rfl (by kernel_rfl) 50 rfl rfl ?_
  simp only [Try.f34]
  (replace hb0 := true_and True); refine Go1.mk ?_; repeat' ((first | (with_reducible refine Go1.go ?_) | ((with_reducible first | refine brv_mk ?_ ?_ | refine gsplitD ?_ ?_ | refine gsplitG ?_ ?_) <;> intro h <;> (try simp only [Bool.not_eq_true', Bool.not_eq_false'] at h) <;> replace hb0 := h) | ((with_reducible refine isCall (f := 18) ?_); refine callA ?_) | ((with_reducible refine isCall0 (f := 18) ?_); refine callA0 ?_) | ((with_reducible refine isCallS (f := 18) ?_); refine (nextI_ok 31 u l p 4 hu (by omega) (by omega) (by omega) (fun x hx0 hx1 => Stop.mk ?_))) | (refine And.intro ?ob ?_; case ob => ((try simp only [sxO, ne_eq, maxLen] at *); omega)) | fail) <;> (try simp (config := { maxSteps := 1000000 }) only [hb0, cE_ment, cE_len, cE_kill, hasK_nil, Nat.mul_one, hu.one, bs_mk, bs_app, bs_ext, bs_size, bs_toList, bs_at, bs_cells, List.take_length, imp_ga, guard_pk, guard_pk2, ↓hold_pre, awayP, runOps, regK, step1, newK, genR, appR, obl, buildR, Value.cells, closeK, keepH, outV, retK, ret1, retC, RetV, Option.getD, runD, stepD, afterK, undef, simprocAttr, sxB, ↓sxD, sxE, sxTab]))
  obtain ⟨j, rfl⟩ := Int.eq_ofNat_of_zero_le hx0
  have hj : j < L.length := by omega
  have hat := cE_at sbV hj
  have hm : L[j] ∈ L := List.getElem_mem hj
  have a1 : (0 : Int) ≤ (j : Int) := by omega
  have a2 : (j : Int) < 4 := by omega
  have a3 : (j : Int) < ((4 : Nat) : Int) := by omega
  generalize L[j] = y at *
  refine Stop.go ?_
  (replace hb0 := true_and True); refine Go1.mk ?_; repeat' ((first | (with_reducible refine Go1.go ?_) | ((with_reducible first | refine brv_mk ?_ ?_ | refine gsplitD ?_ ?_ | refine gsplitG ?_ ?_) <;> intro h <;> (try simp only [Bool.not_eq_true', Bool.not_eq_false'] at h) <;> replace hb0 := h) | (refine And.intro ?ob ?_; case ob => ((try simp only [sxO, ne_eq, maxLen] at *); omega)) | fail) <;> (try simp (config := { maxSteps := 1000000 }) only [hb0, cE_ment, cE_len, cE_kill, hasK_nil, Nat.mul_one, hu.one, hat, a1, a2, a3, sbV, bs_mk, bs_app, bs_ext, bs_size, bs_toList, bs_at, bs_cells, List.take_length, imp_ga, guard_pk, guard_pk2, ↓hold_pre, awayP, runOps, regK, step1, newK, genR, appR, obl, buildR, Value.cells, closeK, keepH, outV, retK, ret1, retC, RetV, Option.getD, runD, stepD, afterK, undef, simprocAttr, sxB, ↓sxD, sxE, sxTab]))
  exact hK _ hm
theorem one31b_ok (u : Value) (l : List Int) (p : Nat) (L : List Bst) (hL : L.length = 2) (hu : IsL M intV64 u l) (hp : p < 1000000) (hK : ∀ x ∈ L, K (.ext (.string (bs x))) [(31, 25, [.ext u, .ext (.int .i64 ((p + 1 : Nat) : Int))]), (61, 9, cE sbV L)] M) :
    CallS Try.prog 34 [.own 31 0, .slo 61 0 2 1] [(61, 9, cE sbV L), (31, 25, [.ext u, .ext (.int .i64 ((p : Nat) : Int))])] M [] K := by
  refine inlS (cs := []) Try.mixed Try.func34 rfl (by kernel_rfl) 62 rfl rfl ?_
  simp only [Try.f34]
  (replace hb0 := true_and True); refine Go1.mk ?_; repeat' ((first | (with_reducible refine Go1.go ?_) | ((with_reducible first | refine brv_mk ?_ ?_ | refine gsplitD ?_ ?_ | refine gsplitG ?_ ?_) <;> intro h <;> (try simp only [Bool.not_eq_true', Bool.not_eq_false'] at h) <;> replace hb0 := h) | ((with_reducible refine isCall (f := 18) ?_); refine callA ?_) | ((with_reducible refine isCall0 (f := 18) ?_); refine callA0 ?_) | ((with_reducible refine isCallS (f := 18) ?_); refine (nextI_ok 31 u l p 2 hu (by omega) (by omega) (by omega) (fun x hx0 hx1 => Stop.mk ?_))) | (refine And.intro ?ob ?_; case ob => ((try simp only [sxO, ne_eq, maxLen] at *); omega)) | fail) <;> (try simp (config := { maxSteps := 1000000 }) only [hb0, cE_ment, cE_len, cE_kill, hasK_nil, Nat.mul_one, hu.one, bs_mk, bs_app, bs_ext, bs_size, bs_toList, bs_at, bs_cells, List.take_length, imp_ga, guard_pk, guard_pk2, ↓hold_pre, awayP, runOps, regK, step1, newK, genR, appR, obl, buildR, Value.cells, closeK, keepH, outV, retK, ret1, retC, RetV, Option.getD, runD, stepD, afterK, undef, simprocAttr, sxB, ↓sxD, sxE, sxTab]))
  obtain ⟨j, rfl⟩ := Int.eq_ofNat_of_zero_le hx0
  have hj : j < L.length := by omega
  have hat := cE_at sbV hj
  have hm : L[j] ∈ L := List.getElem_mem hj
  have a1 : (0 : Int) ≤ (j : Int) := by omega
  have a2 : (j : Int) < 2 := by omega
  have a3 : (j : Int) < ((2 : Nat) : Int) := by omega
  generalize L[j] = y at *
  refine Stop.go ?_
  (replace hb0 := true_and True); refine Go1.mk ?_; repeat' ((first | (with_reducible refine Go1.go ?_) | ((with_reducible first | refine brv_mk ?_ ?_ | refine gsplitD ?_ ?_ | refine gsplitG ?_ ?_) <;> intro h <;> (try simp only [Bool.not_eq_true', Bool.not_eq_false'] at h) <;> replace hb0 := h) | (refine And.intro ?ob ?_; case ob => ((try simp only [sxO, ne_eq, maxLen] at *); omega)) | fail) <;> (try simp (config := { maxSteps := 1000000 }) only [hb0, cE_ment, cE_len, cE_kill, hasK_nil, Nat.mul_one, hu.one, hat, a1, a2, a3, sbV, bs_mk, bs_app, bs_ext, bs_size, bs_toList, bs_at, bs_cells, List.take_length, imp_ga, guard_pk, guard_pk2, ↓hold_pre, awayP, runOps, regK, step1, newK, genR, appR, obl, buildR, Value.cells, closeK, keepH, outV, retK, ret1, retC, RetV, Option.getD, runD, stepD, afterK, undef, simprocAttr, sxB, ↓sxD, sxE, sxTab]))
  exact hK _ hm
theorem FrzF.keep5 {K : AV → Hp → Mem → Prop} {H H2 : Hp} {M' : Mem} {k n : Nat} {T : TypeId} (cs : List Value) (h1 : lkH H k = none) (h2 : cs.length = n * 5) (h3 : hasK k (mentH H2) = false) (h4 : lkH H2 k = none) (h : ∀ u M'', Mem.le M' M'' → SlM M'' 5 u n cs → FreshS M' u → K (.ext u) H2 M'') : FrzF K H (.slo k 0 n 5) ((k, T, cs.map .ext) :: H2) M' :=
  .inr ⟨none, [], [], k, n, 5, T, cs, H2, rfl, rfl, h4, h1, h2, by simpa [mentL] using h3, h⟩
def itSt31 (M : Mem) (u : Value) (p n m : Nat) (L : List IR) : St := { env := [(6, .ext (.int .i64 (n : Int))), (5, .slo 37 0 m 5), (4, .ext (.slice none 0 0)), (0, .own 31 0)], hp := [(37, 46, irC L), (31, 25, [.ext u, .ext (.int .i64 ((p : Nat) : Int))])], M := M, kb := 32, fx := [31] }
def icSt31 (M : Mem) (u : Value) (p n m : Nat) (L : List IR) (x : IR) : St := { env := [(7, .own 39 0), (6, .ext (.int .i64 (n : Int))), (5, .slo 37 0 m 5), (4, .ext (.slice none 0 0)), (0, .own 31 0)], hp := [(39, 46, [.ext (.string (bs x.pk)), .ext (.string (bs x.ts)), .ext x.u1, .ext x.u2, .ext (.int .i64 x.cost)]), (37, 46, irC L), (31, 25, [.ext u, .ext (.int .i64 ((p : Nat) : Int))])], M := M, kb := 32, fx := [31] }
theorem items31_ok (u : Value) (l : List Int) (p most : Nat) (hu : IsL M intV64 u l) (hp : p < 100000) (hm : most < 100) (hK : ∀ v L M' p', Mem.le M M' → IsR M' 5 IR.c v L → (∀ x ∈ L, ItOK M' x) → FreshS M v → L.length ≤ most → p' ≤ p + 1000 → K (.ext v) [(31, 25, [.ext u, .ext (.int .i64 ((p' : Nat) : Int))])] M') :
    CallS Try.prog 10 [.own 31 0, .ext (.int .i64 (most : Int))] [(31, 25, [.ext u, .ext (.int .i64 ((p : Nat) : Int))])] M [] K := by
  refine CallS.frzF ?_
  refine inlS (cs := [12]) Try.mixed Try.func10 rfl (by kernel_rfl) 32 rfl rfl ?_
  simp only [Try.f10]
  have w0 : IntKind.i64.wrap ((most : Int) + 1) = ((most + 1 : Nat) : Int) := succ_i (by omega)
  (replace hb0 := true_and True); refine Go1.mk ?_; repeat' ((first | (with_reducible refine Go1.go ?_) | ((with_reducible first | refine brv_mk ?_ ?_ | refine gsplitD ?_ ?_ | refine gsplitG ?_ ?_) <;> intro h <;> (try simp only [Bool.not_eq_true', Bool.not_eq_false'] at h) <;> replace hb0 := h) | ((with_reducible refine isCall (f := 18) ?_); refine callA ?_) | ((with_reducible refine isCall0 (f := 18) ?_); refine callA0 ?_) | ((with_reducible refine isCallS (f := 18) ?_); refine (nextI_ok 31 u l p ((most + 1 : Nat) : Int) hu (by omega) (by omega) (by omega) (fun x hx0 hx1 => Stop.mk ?_))) | (refine And.intro ?ob ?_; case ob => ((try simp only [sxO, ne_eq, maxLen] at *); omega)) | fail) <;> (try simp (config := { maxSteps := 1000000 }) only [hb0, w0, irC_ment, irC_kill, hasK_nil, hu.one, bs_mk, bs_app, bs_ext, bs_size, bs_toList, bs_at, bs_cells, List.take_length, imp_ga, guard_pk, guard_pk2, ↓hold_pre, awayP, runOps, regK, step1, newK, genR, appR, obl, buildR, Value.cells, closeK, keepH, outV, retK, ret1, retC, RetV, Option.getD, runD, stepD, afterK, undef, simprocAttr, sxB, ↓sxD, sxE, sxTab]))
  obtain ⟨N, rfl⟩ := Int.eq_ofNat_of_zero_le hx0
  have hN : N ≤ most := by omega
  clear w0
  refine Stop.go ?_
  (replace hb0 := true_and True); refine Go1.mk ?_; repeat' ((first | (with_reducible refine Go1.go ?_) | ((with_reducible first | refine brv_mk ?_ ?_ | refine gsplitD ?_ ?_ | refine gsplitG ?_ ?_) <;> intro h <;> (try simp only [Bool.not_eq_true', Bool.not_eq_false'] at h) <;> replace hb0 := h) | (refine And.intro ?ob ?_; case ob => ((try simp only [sxO, ne_eq, maxLen] at *); omega)) | fail) <;> (try simp (config := { maxSteps := 1000000 }) only [hb0, hasK_nil, irC_ment, irC_kill, hasK_nil, hu.one, bs_mk, bs_app, bs_ext, bs_size, bs_toList, bs_at, bs_cells, List.take_length, imp_ga, guard_pk, guard_pk2, ↓hold_pre, awayP, runOps, regK, step1, newK, genR, appR, obl, buildR, Value.cells, closeK, keepH, outV, retK, ret1, retC, RetV, Option.getD, runD, stepD, afterK, undef, simprocAttr, sxB, ↓sxD, sxE, sxTab]))
  refine ⟨fun d z => ∃ M' L p' n, d = n ∧ Mem.le M M' ∧ (∀ x ∈ L, ItOK M' x) ∧ L.length + n = N ∧ p' + 9 * n ≤ p + 1 + 9 * N ∧ z = itSt31 M' u p' n L.length L,
    ⟨N, itSt31 M u (p + 1) N 0 [], (le_nil 5 37 46 5 rfl (.inl (by simp [awayB, mentE, mentH, mentL, AV.ment, hasK]))).trans (le_sub ⟨rfl, rfl, rfl, rfl, trivial⟩ ⟨by simp [lkH, itSt31, irC], by simp [lkH, itSt31], trivial⟩ rfl rfl rfl (by simp [keepLt, itSt31, lkH])), ⟨M, [], p + 1, N, rfl, Mem.le.refl _, by simp, by simp, by omega, rfl⟩⟩, ?_⟩
  clear hx0 hx1
  rintro n z ⟨M1, L, p', n', rfl, hM, hL, hLn, hpn, rfl⟩
  have hu1 := hu.le hM
  have hcl : (irC L).length = L.length * 5 := irC_len L
  rcases Nat.eq_zero_or_pos n with rfl | hn0
  · have d1 : decide ((0 : Int) < ((0 : Nat) : Int)) = false := by decide
    (replace hb0 := true_and True); refine Go1.mk ?_; repeat' ((first | (with_reducible refine Go1.go ?_) | ((with_reducible first | refine brv_mk ?_ ?_ | refine gsplitD ?_ ?_ | refine gsplitG ?_ ?_) <;> intro h <;> (try simp only [Bool.not_eq_true', Bool.not_eq_false'] at h) <;> replace hb0 := h) | (refine And.intro ?ob ?_; case ob => ((try simp only [sxO, ne_eq, maxLen] at *); omega)) | fail) <;> (try simp (config := { maxSteps := 1000000 }) only [hb0, itSt31, d1, irC_ment, irC_kill, hasK_nil, hu.one, bs_mk, bs_app, bs_ext, bs_size, bs_toList, bs_at, bs_cells, List.take_length, imp_ga, guard_pk, guard_pk2, ↓hold_pre, awayP, runOps, regK, step1, newK, genR, appR, obl, buildR, Value.cells, closeK, keepH, outV, retK, ret1, retC, RetV, Option.getD, runD, stepD, afterK, undef, simprocAttr, sxB, ↓sxD, sxE, sxTab]))
    refine FrzF.keep5 (L.flatMap IR.c) rfl (by rw [flat_len (z := 5) (fun _ => rfl)]) (by simp [mentH, mentL, AV.ment, hasK]) rfl fun v M3 h1 h2 h3 => hK v L M3 p' (hM.trans h1) h2 (fun x hx => (hL x hx).le h1) (h3.le hM) (by omega) (by omega)
  have d1 : decide ((0 : Int) < (n : Int)) = true := by rw [decide_eq_true_eq]; omega
  (replace hb0 := true_and True); refine Go1.mk ?_; repeat' ((first | (with_reducible refine Go1.go ?_) | ((with_reducible first | refine brv_mk ?_ ?_ | refine gsplitD ?_ ?_ | refine gsplitG ?_ ?_) <;> intro h <;> (try simp only [Bool.not_eq_true', Bool.not_eq_false'] at h) <;> replace hb0 := h) | ((with_reducible refine isCall (f := 34) ?_); refine callA ?_) | ((with_reducible refine isCall0 (f := 34) ?_); refine callA0 ?_) | ((with_reducible refine isCallS (f := 34) ?_); refine (one31a_ok u l p' [[97], [98], [99], [100]] rfl hu1 (by omega) (fun ts _ => Stop.mk ?_))) | (refine And.intro ?ob ?_; case ob => ((try simp only [sxO, ne_eq, maxLen] at *); omega)) | fail) <;> (try simp (config := { maxSteps := 1000000 }) only [hb0, itSt31, d1, irC_ment, irC_kill, hasK_nil, hu.one, bs_mk, bs_app, bs_ext, bs_size, bs_toList, bs_at, bs_cells, List.take_length, imp_ga, guard_pk, guard_pk2, ↓hold_pre, awayP, runOps, regK, step1, newK, genR, appR, obl, buildR, Value.cells, closeK, keepH, outV, retK, ret1, retC, RetV, Option.getD, runD, stepD, afterK, undef, simprocAttr, sxB, ↓sxD, sxE, sxTab]))
  refine Stop.go ?_
  (replace hb0 := true_and True); refine Go1.mk ?_; repeat' ((first | (with_reducible refine Go1.go ?_) | ((with_reducible first | refine brv_mk ?_ ?_ | refine gsplitD ?_ ?_ | refine gsplitG ?_ ?_) <;> intro h <;> (try simp only [Bool.not_eq_true', Bool.not_eq_false'] at h) <;> replace hb0 := h) | ((with_reducible refine isCall (f := 18) ?_); refine callA ?_) | ((with_reducible refine isCall0 (f := 18) ?_); refine callA0 ?_) | ((with_reducible refine isCallS (f := 18) ?_); refine (nextI_ok 31 u l (p' + 1) 9 hu1 (by omega) (by omega) (by omega) (fun x1 x10 x11 => Stop.mk ?_))) | (refine And.intro ?ob ?_; case ob => ((try simp only [sxO, ne_eq, maxLen] at *); omega)) | fail) <;> (try simp (config := { maxSteps := 1000000 }) only [hb0, cE_ment, cE_kill, irC_ment, irC_kill, hasK_nil, hu.one, bs_mk, bs_app, bs_ext, bs_size, bs_toList, bs_at, bs_cells, List.take_length, imp_ga, guard_pk, guard_pk2, ↓hold_pre, awayP, runOps, regK, step1, newK, genR, appR, obl, buildR, Value.cells, closeK, keepH, outV, retK, ret1, retC, RetV, Option.getD, runD, stepD, afterK, undef, simprocAttr, sxB, ↓sxD, sxE, sxTab]))
  obtain ⟨num, rfl⟩ := Int.eq_ofNat_of_zero_le x10
  refine Stop.go ?_
  (replace hb0 := true_and True); refine Go1.mk ?_; repeat' ((first | (with_reducible refine Go1.go ?_) | ((with_reducible first | refine brv_mk ?_ ?_ | refine gsplitD ?_ ?_ | refine gsplitG ?_ ?_) <;> intro h <;> (try simp only [Bool.not_eq_true', Bool.not_eq_false'] at h) <;> replace hb0 := h) | ((with_reducible refine isCall (f := 18) ?_); refine callA ?_) | ((with_reducible refine isCall0 (f := 18) ?_); refine callA0 ?_) | ((with_reducible refine isCallS (f := 18) ?_); refine (nextI_ok 31 u l (p' + 1 + 1) 8 hu1 (by omega) (by omega) (by omega) (fun x2 x20 x21 => Stop.mk ?_))) | (refine And.intro ?ob ?_; case ob => ((try simp only [sxO, ne_eq, maxLen] at *); omega)) | fail) <;> (try simp (config := { maxSteps := 1000000 }) only [hb0, cE_ment, irC_ment, irC_kill, hasK_nil, hu.one, bs_mk, bs_app, bs_ext, bs_size, bs_toList, bs_at, bs_cells, List.take_length, imp_ga, guard_pk, guard_pk2, ↓hold_pre, awayP, runOps, regK, step1, newK, genR, appR, obl, buildR, Value.cells, closeK, keepH, outV, retK, ret1, retC, RetV, Option.getD, runD, stepD, afterK, undef, simprocAttr, sxB, ↓sxD, sxE, sxTab]))
  obtain ⟨den, rfl⟩ := Int.eq_ofNat_of_zero_le x20
  obtain ⟨D, hD⟩ : ∃ D, D = den + 1 := ⟨_, rfl⟩
  have w1 : IntKind.i64.wrap (1 + (den : Int)) = (D : Int) := by rw [wrap_id (by omega) (by omega)]; omega
  refine Stop.go ?_
  (replace hb0 := true_and True); refine Go1.mk ?_; repeat' ((first | (with_reducible refine Go1.go ?_) | ((with_reducible first | refine brv_mk ?_ ?_ | refine gsplitD ?_ ?_ | refine gsplitG ?_ ?_) <;> intro h <;> (try simp only [Bool.not_eq_true', Bool.not_eq_false'] at h) <;> replace hb0 := h) | ((with_reducible refine isCall (f := 18) ?_); refine callA ?_) | ((with_reducible refine isCall0 (f := 18) ?_); refine callA0 ?_) | ((with_reducible refine isCallS (f := 18) ?_); refine (nextI_ok 31 u l (p' + 1 + 1 + 1) 8 hu1 (by omega) (by omega) (by omega) (fun x3 x30 x31 => Stop.mk ?_))) | (refine And.intro ?ob ?_; case ob => ((try simp only [sxO, ne_eq, maxLen] at *); omega)) | fail) <;> (try simp (config := { maxSteps := 1000000 }) only [hb0, w1, cE_ment, irC_ment, irC_kill, hasK_nil, hu.one, bs_mk, bs_app, bs_ext, bs_size, bs_toList, bs_at, bs_cells, List.take_length, imp_ga, guard_pk, guard_pk2, ↓hold_pre, awayP, runOps, regK, step1, newK, genR, appR, obl, buildR, Value.cells, closeK, keepH, outV, retK, ret1, retC, RetV, Option.getD, runD, stepD, afterK, undef, simprocAttr, sxB, ↓sxD, sxE, sxTab]))
  obtain ⟨cos, rfl⟩ := Int.eq_ofNat_of_zero_le x30
  obtain ⟨C, hC⟩ : ∃ C, C = cos + 1 := ⟨_, rfl⟩
  have w2 : IntKind.i64.wrap (1 + (cos : Int)) = (C : Int) := by rw [wrap_id (by omega) (by omega)]; omega
  refine Stop.go ?_
  (replace hb0 := true_and True); refine Go1.mk ?_; repeat' ((first | (with_reducible refine Go1.go ?_) | ((with_reducible first | refine brv_mk ?_ ?_ | refine gsplitD ?_ ?_ | refine gsplitG ?_ ?_) <;> intro h <;> (try simp only [Bool.not_eq_true', Bool.not_eq_false'] at h) <;> replace hb0 := h) | ((first | (with_reducible refine isCall (f := 19) ?_; refine callA_nil (by kernel_rfl) ?_) | (with_reducible refine isCall0 (f := 19) ?_; refine callA0_nil (by kernel_rfl) ?_)); refine (item_ok ts num D C (by omega) (by omega) (by omega) (fun w1 w2 M2 a1 a2 a3 a4 a5 => Stop.mk ?_))) | (refine And.intro ?ob ?_; case ob => ((try simp only [sxO, ne_eq, maxLen] at *); omega)) | fail) <;> (try simp (config := { maxSteps := 1000000 }) only [hb0, w2, cE_ment, irC_ment, irC_kill, hasK_nil, hu.one, bs_mk, bs_app, bs_ext, bs_size, bs_toList, bs_at, bs_cells, List.take_length, imp_ga, guard_pk, guard_pk2, ↓hold_pre, awayP, runOps, regK, step1, newK, genR, appR, obl, buildR, Value.cells, closeK, keepH, outV, retK, ret1, retC, RetV, Option.getD, runD, stepD, afterK, undef, simprocAttr, sxB, ↓sxD, sxE, sxTab]))
  have a1 : Mem.le M1 M2 := a1
  have hu2 := hu1.le a1
  obtain ⟨g1, g2, g3, g4⟩ := sml_low num D (by omega) (by omega) (by omega)
  refine Stop.go ?_
  (replace hb0 := true_and True); refine Go1.mk ?_; repeat' ((first | (with_reducible refine Go1.go ?_) | ((with_reducible first | refine brv_mk ?_ ?_ | refine gsplitD ?_ ?_ | refine gsplitG ?_ ?_) <;> intro h <;> (try simp only [Bool.not_eq_true', Bool.not_eq_false'] at h) <;> replace hb0 := h) | ((with_reducible refine isCall (f := 34) ?_); refine callA ?_) | ((with_reducible refine isCall0 (f := 34) ?_); refine callA0 ?_) | ((with_reducible refine isCallS (f := 34) ?_); refine (one31b_ok u l (p' + 1 + 1 + 1 + 1) [[112], [113]] rfl hu2 (by omega) (fun pk _ => Stop.mk ?_))) | (refine And.intro ?ob ?_; case ob => ((try simp only [sxO, ne_eq, maxLen] at *); omega)) | fail) <;> (try simp (config := { maxSteps := 1000000 }) only [hb0, a2.one, a3.one, cE_ment, irC_ment, irC_kill, hasK_nil, hu.one, bs_mk, bs_app, bs_ext, bs_size, bs_toList, bs_at, bs_cells, List.take_length, imp_ga, guard_pk, guard_pk2, ↓hold_pre, awayP, runOps, regK, step1, newK, genR, appR, obl, buildR, Value.cells, closeK, keepH, outV, retK, ret1, retC, RetV, Option.getD, runD, stepD, afterK, undef, simprocAttr, sxB, ↓sxD, sxE, sxTab]))
  have hit := itOK_of pk ts C a2 a3 g1 g2 g3 g4 (by omega) (by omega)
  refine Stop.go ?_
  (replace hb0 := true_and True); refine Go1.mk ?_; repeat' ((first | (with_reducible refine Go1.go ?_) | ((with_reducible first | refine brv_mk ?_ ?_ | refine gsplitD ?_ ?_ | refine gsplitG ?_ ?_) <;> intro h <;> (try simp only [Bool.not_eq_true', Bool.not_eq_false'] at h) <;> replace hb0 := h) | (refine And.intro ?ob ?_; case ob => ((try simp only [sxO, ne_eq, maxLen] at *); omega)) | fail) <;> (try simp (config := { maxSteps := 1000000 }) only [hb0, a2.one, a3.one, cE_ment, cE_kill, irC_ment, irC_kill, hasK_nil, hu.one, bs_mk, bs_app, bs_ext, bs_size, bs_toList, bs_at, bs_cells, List.take_length, imp_ga, guard_pk, guard_pk2, ↓hold_pre, awayP, runOps, regK, step1, newK, genR, appR, obl, buildR, Value.cells, closeK, keepH, outV, retK, ret1, retC, RetV, Option.getD, runD, stepD, afterK, undef, simprocAttr, sxB, ↓sxD, sxE, sxTab]))
  refine ⟨fun z => ∃ M' p2 x, Mem.le M1 M' ∧ ItOK M' x ∧ p2 ≤ p' + 8 ∧ z = icSt31 M' u p2 n L.length L x, ?_, ?_⟩
  · (replace hb0 := true_and True); refine Go1.mk ?_; repeat' ((first | (with_reducible refine Go1.go ?_) | ((with_reducible first | refine brv_mk ?_ ?_ | refine gsplitD ?_ ?_ | refine gsplitG ?_ ?_) <;> intro h <;> (try simp only [Bool.not_eq_true', Bool.not_eq_false'] at h) <;> replace hb0 := h) | ((with_reducible refine isCall (f := 18) ?_); refine callA ?_) | ((with_reducible refine isCall0 (f := 18) ?_); refine callA0 ?_) | ((with_reducible refine isCallS (f := 18) ?_); refine (nextI_ok 31 u l (p' + 1 + 1 + 1 + 1 + 1) 8 hu2 (by omega) (by omega) (by omega) (fun x4 x40 x41 => Stop.mk ?_))) | (refine And.intro ?ob ?_; case ob => ((try simp only [sxO, ne_eq, maxLen] at *); omega)) | fail) <;> (try simp (config := { maxSteps := 1000000 }) only [hb0, a2.one, a3.one, cE_ment, cE_kill, irC_ment, irC_kill, hasK_nil, hu.one, bs_mk, bs_app, bs_ext, bs_size, bs_toList, bs_at, bs_cells, List.take_length, imp_ga, guard_pk, guard_pk2, ↓hold_pre, awayP, runOps, regK, step1, newK, genR, appR, obl, buildR, Value.cells, closeK, keepH, outV, retK, ret1, retC, RetV, Option.getD, runD, stepD, afterK, undef, simprocAttr, sxB, ↓sxD, sxE, sxTab]))
    obtain ⟨sw, rfl⟩ := Int.eq_ofNat_of_zero_le x40
    by_cases s0 : sw = 0
    · have e0 : decide ((sw : Int) = 0) = true := by rw [decide_eq_true_eq]; omega
      refine Stop.go ?_
      (replace hb0 := true_and True); refine Go1.mk ?_; repeat' ((first | (with_reducible refine Go1.go ?_) | ((with_reducible first | refine brv_mk ?_ ?_ | refine gsplitD ?_ ?_ | refine gsplitG ?_ ?_) <;> intro h <;> (try simp only [Bool.not_eq_true', Bool.not_eq_false'] at h) <;> replace hb0 := h) | ((with_reducible refine isCall (f := 18) ?_); refine callA ?_) | ((with_reducible refine isCall0 (f := 18) ?_); refine callA0 ?_) | ((with_reducible refine isCallS (f := 18) ?_); refine (nextI_ok 31 u l (p' + 1 + 1 + 1 + 1 + 1 + 1) 3 hu2 (by omega) (by omega) (by omega) (fun x5 x50 x51 => Stop.mk ?_))) | (refine And.intro ?ob ?_; case ob => ((try simp only [sxO, ne_eq, maxLen] at *); omega)) | fail) <;> (try simp (config := { maxSteps := 1000000 }) only [hb0, a2.one, a3.one, cE_ment, cE_kill, e0, irC_ment, irC_kill, hasK_nil, hu.one, bs_mk, bs_app, bs_ext, bs_size, bs_toList, bs_at, bs_cells, List.take_length, imp_ga, guard_pk, guard_pk2, ↓hold_pre, awayP, runOps, regK, step1, newK, genR, appR, obl, buildR, Value.cells, closeK, keepH, outV, retK, ret1, retC, RetV, Option.getD, runD, stepD, afterK, undef, simprocAttr, sxB, ↓sxD, sxE, sxTab]))
      obtain ⟨y, rfl⟩ := Int.eq_ofNat_of_zero_le x50
      obtain ⟨C2, hC2⟩ : ∃ C2, C2 = 1048576 - y := ⟨_, rfl⟩
      have w3 : IntKind.i64.wrap (1048576 - (y : Int)) = (C2 : Int) := by rw [wrap_id (by omega) (by omega)]; omega
      have hit := itOK_of pk ts C2 a2 a3 g1 g2 g3 g4 (by omega) (by omega)
      refine Stop.go ?_
      (replace hb0 := true_and True); refine Go1.mk ?_; repeat' ((first | (with_reducible refine Go1.go ?_) | ((with_reducible first | refine brv_mk ?_ ?_ | refine gsplitD ?_ ?_ | refine gsplitG ?_ ?_) <;> intro h <;> (try simp only [Bool.not_eq_true', Bool.not_eq_false'] at h) <;> replace hb0 := h) | (refine And.intro ?ob ?_; case ob => ((try simp only [sxO, ne_eq, maxLen] at *); omega)) | fail) <;> (try simp (config := { maxSteps := 1000000 }) only [hb0, a2.one, a3.one, cE_ment, cE_kill, w3, irC_ment, irC_kill, hasK_nil, hu.one, bs_mk, bs_app, bs_ext, bs_size, bs_toList, bs_at, bs_cells, List.take_length, imp_ga, guard_pk, guard_pk2, ↓hold_pre, awayP, runOps, regK, step1, newK, genR, appR, obl, buildR, Value.cells, closeK, keepH, outV, retK, ret1, retC, RetV, Option.getD, runD, stepD, afterK, undef, simprocAttr, sxB, ↓sxD, sxE, sxTab]))
      exact ⟨icSt31 M2 u (p' + 1 + 1 + 1 + 1 + 1 + 1 + 1) n L.length L ⟨pk, ts, w1, w2, _, _, (C2 : Int)⟩, le_sub ⟨rfl, rfl, rfl, rfl, rfl, trivial⟩ ⟨by simp [lkH, icSt31, irC_kill], by simp [lkH, icSt31, irC_kill], by simp [lkH, icSt31, irC_kill], trivial⟩ rfl rfl rfl (by simp [keepLt, icSt31, lkH]), M2, _, _, a1, hit, by omega, rfl⟩
    have e0 : decide ((sw : Int) = 0) = false := by rw [decide_eq_false_iff_not]; omega
    by_cases s1 : sw = 1
    · have e1 : decide ((sw : Int) = 1) = true := by rw [decide_eq_true_eq]; omega
      refine Stop.go ?_
      (replace hb0 := true_and True); refine Go1.mk ?_; repeat' ((first | (with_reducible refine Go1.go ?_) | ((with_reducible first | refine brv_mk ?_ ?_ | refine gsplitD ?_ ?_ | refine gsplitG ?_ ?_) <;> intro h <;> (try simp only [Bool.not_eq_true', Bool.not_eq_false'] at h) <;> replace hb0 := h) | ((with_reducible refine isCall (f := 18) ?_); refine callA ?_) | ((with_reducible refine isCall0 (f := 18) ?_); refine callA0 ?_) | ((with_reducible refine isCallS (f := 18) ?_); refine (nextI_ok 31 u l (p' + 1 + 1 + 1 + 1 + 1 + 1) 1048576 hu2 (by omega) (by omega) (by omega) (fun x5 x50 x51 => Stop.mk ?_))) | (refine And.intro ?ob ?_; case ob => ((try simp only [sxO, ne_eq, maxLen] at *); omega)) | fail) <;> (try simp (config := { maxSteps := 1000000 }) only [hb0, a2.one, a3.one, cE_ment, cE_kill, e0, e1, irC_ment, irC_kill, hasK_nil, hu.one, bs_mk, bs_app, bs_ext, bs_size, bs_toList, bs_at, bs_cells, List.take_length, imp_ga, guard_pk, guard_pk2, ↓hold_pre, awayP, runOps, regK, step1, newK, genR, appR, obl, buildR, Value.cells, closeK, keepH, outV, retK, ret1, retC, RetV, Option.getD, runD, stepD, afterK, undef, simprocAttr, sxB, ↓sxD, sxE, sxTab]))
      obtain ⟨y, rfl⟩ := Int.eq_ofNat_of_zero_le x50
      obtain ⟨Y, hY⟩ : ∃ Y, Y = y + 1 := ⟨_, rfl⟩
      have w3 : IntKind.i64.wrap (1 + (y : Int)) = (Y : Int) := by rw [wrap_id (by omega) (by omega)]; omega
      refine Stop.go ?_
      (replace hb0 := true_and True); refine Go1.mk ?_; repeat' ((first | (with_reducible refine Go1.go ?_) | ((with_reducible first | refine brv_mk ?_ ?_ | refine gsplitD ?_ ?_ | refine gsplitG ?_ ?_) <;> intro h <;> (try simp only [Bool.not_eq_true', Bool.not_eq_false'] at h) <;> replace hb0 := h) | ((with_reducible refine isCall (f := 18) ?_); refine callA ?_) | ((with_reducible refine isCall0 (f := 18) ?_); refine callA0 ?_) | ((with_reducible refine isCallS (f := 18) ?_); refine (nextI_ok 31 u l (p' + 1 + 1 + 1 + 1 + 1 + 1 + 1) 1048576 hu2 (by omega) (by omega) (by omega) (fun x6 x60 x61 => Stop.mk ?_))) | (refine And.intro ?ob ?_; case ob => ((try simp only [sxO, ne_eq, maxLen] at *); omega)) | fail) <;> (try simp (config := { maxSteps := 1000000 }) only [hb0, a2.one, a3.one, cE_ment, cE_kill, w3, irC_ment, irC_kill, hasK_nil, hu.one, bs_mk, bs_app, bs_ext, bs_size, bs_toList, bs_at, bs_cells, List.take_length, imp_ga, guard_pk, guard_pk2, ↓hold_pre, awayP, runOps, regK, step1, newK, genR, appR, obl, buildR, Value.cells, closeK, keepH, outV, retK, ret1, retC, RetV, Option.getD, runD, stepD, afterK, undef, simprocAttr, sxB, ↓sxD, sxE, sxTab]))
      obtain ⟨z, rfl⟩ := Int.eq_ofNat_of_zero_le x60
      obtain ⟨Z, hZ⟩ : ∃ Z, Z = z + 1 := ⟨_, rfl⟩
      have w4 : IntKind.i64.wrap (1 + (z : Int)) = (Z : Int) := by rw [wrap_id (by omega) (by omega)]; omega
      obtain ⟨f1, f2, f3, f4⟩ := sml_low Y Z (by omega) (by omega) (by omega)
      refine Stop.go ?_
      (replace hb0 := true_and True); refine Go1.mk ?_; repeat' ((first | (with_reducible refine Go1.go ?_) | ((with_reducible first | refine brv_mk ?_ ?_ | refine gsplitD ?_ ?_ | refine gsplitG ?_ ?_) <;> intro h <;> (try simp only [Bool.not_eq_true', Bool.not_eq_false'] at h) <;> replace hb0 := h) | ((first | (with_reducible refine isCall (f := 22) ?_; refine callA_nil (by kernel_rfl) ?_) | (with_reducible refine isCall0 (f := 22) ?_; refine callA0_nil (by kernel_rfl) ?_)); refine (sml_ok Y Z (by omega) (by omega) (by omega) (fun v1 v2 M3 c1 c2 c3 c4 c5 => Stop.mk ?_))) | (refine And.intro ?ob ?_; case ob => ((try simp only [sxO, ne_eq, maxLen] at *); omega)) | fail) <;> (try simp (config := { maxSteps := 1000000 }) only [hb0, a2.one, a3.one, cE_ment, cE_kill, w4, irC_ment, irC_kill, hasK_nil, hu.one, bs_mk, bs_app, bs_ext, bs_size, bs_toList, bs_at, bs_cells, List.take_length, imp_ga, guard_pk, guard_pk2, ↓hold_pre, awayP, runOps, regK, step1, newK, genR, appR, obl, buildR, Value.cells, closeK, keepH, outV, retK, ret1, retC, RetV, Option.getD, runD, stepD, afterK, undef, simprocAttr, sxB, ↓sxD, sxE, sxTab]))
      have c1 : Mem.le M2 M3 := c1
      have hit := itOK_of pk ts C c2 c3 f1 f2 f3 f4 (by omega) (by omega)
      refine Stop.go ?_
      (replace hb0 := true_and True); refine Go1.mk ?_; repeat' ((first | (with_reducible refine Go1.go ?_) | ((with_reducible first | refine brv_mk ?_ ?_ | refine gsplitD ?_ ?_ | refine gsplitG ?_ ?_) <;> intro h <;> (try simp only [Bool.not_eq_true', Bool.not_eq_false'] at h) <;> replace hb0 := h) | (refine And.intro ?ob ?_; case ob => ((try simp only [sxO, ne_eq, maxLen] at *); omega)) | fail) <;> (try simp (config := { maxSteps := 1000000 }) only [hb0, c2.one, c3.one, a2.one, a3.one, cE_ment, cE_kill, irC_ment, irC_kill, hasK_nil, hu.one, bs_mk, bs_app, bs_ext, bs_size, bs_toList, bs_at, bs_cells, List.take_length, imp_ga, guard_pk, guard_pk2, ↓hold_pre, awayP, runOps, regK, step1, newK, genR, appR, obl, buildR, Value.cells, closeK, keepH, outV, retK, ret1, retC, RetV, Option.getD, runD, stepD, afterK, undef, simprocAttr, sxB, ↓sxD, sxE, sxTab]))
      exact ⟨icSt31 M3 u (p' + 1 + 1 + 1 + 1 + 1 + 1 + 1 + 1) n L.length L ⟨pk, ts, v1, v2, _, _, (C : Int)⟩, le_sub ⟨rfl, rfl, rfl, rfl, rfl, trivial⟩ ⟨by simp [lkH, icSt31, irC_kill], by simp [lkH, icSt31, irC_kill], by simp [lkH, icSt31, irC_kill], trivial⟩ rfl rfl rfl (by simp [keepLt, icSt31, lkH]), M3, _, _, a1.trans c1, hit, by omega, rfl⟩
    have e1 : decide ((sw : Int) = 1) = false := by rw [decide_eq_false_iff_not]; omega
    refine Stop.go ?_
    (replace hb0 := true_and True); refine Go1.mk ?_; repeat' ((first | (with_reducible refine Go1.go ?_) | ((with_reducible first | refine brv_mk ?_ ?_ | refine gsplitD ?_ ?_ | refine gsplitG ?_ ?_) <;> intro h <;> (try simp only [Bool.not_eq_true', Bool.not_eq_false'] at h) <;> replace hb0 := h) | (refine And.intro ?ob ?_; case ob => ((try simp only [sxO, ne_eq, maxLen] at *); omega)) | fail) <;> (try simp (config := { maxSteps := 1000000 }) only [hb0, a2.one, a3.one, cE_ment, cE_kill, e0, e1, irC_ment, irC_kill, hasK_nil, hu.one, bs_mk, bs_app, bs_ext, bs_size, bs_toList, bs_at, bs_cells, List.take_length, imp_ga, guard_pk, guard_pk2, ↓hold_pre, awayP, runOps, regK, step1, newK, genR, appR, obl, buildR, Value.cells, closeK, keepH, outV, retK, ret1, retC, RetV, Option.getD, runD, stepD, afterK, undef, simprocAttr, sxB, ↓sxD, sxE, sxTab]))
    exact ⟨icSt31 M2 u (p' + 1 + 1 + 1 + 1 + 1 + 1) n L.length L ⟨pk, ts, w1, w2, _, _, (C : Int)⟩, le_sub ⟨rfl, rfl, rfl, rfl, rfl, trivial⟩ ⟨by simp [lkH, icSt31, irC_kill], by simp [lkH, icSt31, irC_kill], by simp [lkH, icSt31, irC_kill], trivial⟩ rfl rfl rfl (by simp [keepLt, icSt31, lkH]), M2, _, _, a1, hit, by omega, rfl⟩
  clear hit a2 a3 a4 a5 w1 w2
  rintro z ⟨M3, p2, x, hM3, hx, hp2, rfl⟩
  have happ := irC_app L x
  have o1 := hx.ok.f.n.one
  have o2 := hx.ok.f.d.one
  have wn : IntKind.i64.wrap ((n : Int) - 1) = ((n - 1 : Nat) : Int) := pred_i (by omega) (by omega)
  (replace hb0 := true_and True); refine Go1.mk ?_; repeat' ((first | (with_reducible refine Go1.go ?_) | ((with_reducible first | refine brv_mk ?_ ?_ | refine gsplitD ?_ ?_ | refine gsplitG ?_ ?_) <;> intro h <;> (try simp only [Bool.not_eq_true', Bool.not_eq_false'] at h) <;> replace hb0 := h) | (refine And.intro ?ob ?_; case ob => ((try simp only [sxO, ne_eq, maxLen] at *); omega)) | fail) <;> (try simp (config := { maxSteps := 1000000 }) only [hb0, icSt31, happ, hcl, wn, o1, o2, irC_ment, irC_kill, hasK_nil, hu.one, bs_mk, bs_app, bs_ext, bs_size, bs_toList, bs_at, bs_cells, List.take_length, imp_ga, guard_pk, guard_pk2, ↓hold_pre, awayP, runOps, regK, step1, newK, genR, appR, obl, buildR, Value.cells, closeK, keepH, outV, retK, ret1, retC, RetV, Option.getD, runD, stepD, afterK, undef, simprocAttr, sxB, ↓sxD, sxE, sxTab]))
  exact ⟨n - 1, itSt31 M3 u p2 (n - 1) (L.length + 1) (L ++ [x]), by omega, le_sub ⟨rfl, rfl, rfl, rfl, trivial⟩ ⟨by simp [lkH, itSt31], by simp [lkH, itSt31], trivial⟩ rfl rfl rfl (by simp [keepLt, itSt31, lkH]), M3, L ++ [x], p2, n - 1, rfl, hM.trans hM3, fun y hy => by
    rcases List.mem_append.1 hy with hy | hy
    · exact (hL y hy).le hM3
    · rw [List.mem_singleton.1 hy]; exact hx, by rw [List.length_append, List.length_singleton]; omega, by omega, by rw [List.length_append, List.length_singleton]⟩
end
end Go.Proofs.Ytjapnklocibgaaa.Sx
namespace Go.Proofs.Ytjapnklocibgaaa.Sx
open Go Go.RowKit
set_option linter.unusedVariables false
set_option linter.unusedSimpArgs false
set_option maxRecDepth 100000
set_option maxHeartbeats 8000000
attribute [local congr] fin_congr finG_congr stepG_congr step1_congr runOps_congr brv_congr obl_congr condK_congr LoopK_congr seqK_congr CutK_congr vc_congr DrawK_congr regK_congr CallK_congr AskK_congr newK_congr retC_congr ret1_congr retK_congr outV_congr closeK_congr genR_congr appR_congr finD_congr finGD_congr stepGD_congr stepD_congr CallK0_congr runD_congr okR_congr CallS_congr vcX_congr
attribute [local congr] Stop_congr
section
variable {M : Mem} {K : AV → Hp → Mem → Prop}
end
end Go.Proofs.Ytjapnklocibgaaa.Sx
namespace Go.Proofs.Ytjapnklocibgaaa.Sx
open Go Go.RowKit
set_option linter.unusedVariables false
set_option linter.unusedSimpArgs false
set_option maxRecDepth 100000
set_option maxHeartbeats 8000000
attribute [local congr] fin_congr finG_congr stepG_congr step1_congr runOps_congr brv_congr obl_congr condK_congr LoopK_congr seqK_congr CutK_congr vc_congr DrawK_congr regK_congr CallK_congr AskK_congr newK_congr retC_congr ret1_congr retK_congr outV_congr closeK_congr genR_congr appR_congr finD_congr finGD_congr stepGD_congr stepD_congr CallK0_congr runD_congr okR_congr CallS_congr vcX_congr
attribute [local congr] Stop_congr
section
variable {M : Mem} {K : AV → Hp → Mem → Prop} {u : Value} {L : List IR}
end
end Go.Proofs.Ytjapnklocibgaaa.Sx
namespace Go.Proofs.Ytjapnklocibgaaa.Sx
open Go
set_option maxRecDepth 100000
set_option linter.unusedVariables false
theorem slops_hi (a b : Operand) : (#[a] ++ (none : Option Operand).toArray ++ (some b).toArray ++ (none : Option Operand).toArray).toList = [a, b] := rfl
theorem slops_lo (a b : Operand) : (#[a] ++ (some b).toArray ++ (none : Option Operand).toArray ++ (none : Option Operand).toArray).toList = [a, b] := rfl
theorem ins_perm {Z : List Nat} {i : Nat} (a : Nat) (h : Z.Perm (List.range i)) : (Z.take a ++ i :: Z.drop a).Perm (List.range (i + 1)) := by
  rw [List.range_succ]
  refine List.perm_middle.trans ?_
  rw [List.take_append_drop]
  exact (h.cons i).trans (List.perm_append_singleton i (List.range i)).symm
structure Scaled (f g : Nat) (x y : IR) : Prop where
  pk : y.pk = x.pk
  ts : y.ts = x.ts
  cost : y.cost = x.cost
  val : valN y.l1 * (valN x.l2 * g) = valN x.l1 * f * valN y.l2
  pos : 0 < valN y.l2
end Go.Proofs.Ytjapnklocibgaaa.Sx
namespace Go.Proofs.Ytjapnklocibgaaa.Sx
open Go Go.RowKit
set_option linter.unusedVariables false
set_option linter.unusedSimpArgs false
set_option maxRecDepth 100000
set_option maxHeartbeats 8000000
attribute [local congr] fin_congr finG_congr stepG_congr step1_congr runOps_congr brv_congr obl_congr condK_congr LoopK_congr seqK_congr CutK_congr vc_congr DrawK_congr regK_congr CallK_congr AskK_congr newK_congr retC_congr ret1_congr retK_congr outV_congr closeK_congr genR_congr appR_congr finD_congr finGD_congr stepGD_congr stepD_congr CallK0_congr runD_congr okR_congr CallS_congr vcX_congr
attribute [local congr] Stop_congr
section
variable {M : Mem} {K : AV → Hp → Mem → Prop} {u v : Value} {L : List IR} {o : List Int}
end
end Go.Proofs.Ytjapnklocibgaaa.Sx
namespace Go.Proofs.Ytjapnklocibgaaa.Sx
open Go
set_option maxRecDepth 100000
set_option linter.unusedVariables false
theorem exF_mul {x y : Nat} (h : (exF x y).1 = 0) : (exF x y).2.1 * y = x * (exF x y).2.2 := by
  unfold exF at h ⊢
  split at h
  · rename_i hc
    rw [if_pos hc]
    simp only
    rw [Nat.div_mul_right_comm (Nat.gcd_dvd_left x y), Nat.mul_div_assoc _ (Nat.gcd_dvd_right x y)]
  · simp at h
def denL : List IR → Nat
  | [] => 1
  | x :: r => valN x.l2 * denL r
theorem denL_dvd : ∀ {L : List IR} {x : IR}, x ∈ L → valN x.l2 ∣ denL L
  | y :: r, x, h => by
    rcases List.mem_cons.1 h with rfl | h
    · exact Nat.dvd_mul_right _ _
    · exact Nat.dvd_trans (denL_dvd h) (Nat.dvd_mul_left _ _)
theorem denL_pos : ∀ {L : List IR}, (∀ x ∈ L, 0 < valN x.l2) → 0 < denL L
  | [], _ => Nat.one_pos
  | y :: r, h => Nat.mul_pos (h y List.mem_cons_self) (denL_pos fun x hx => h x (List.mem_cons_of_mem _ hx))
def wA (L : List IR) (x : Int) : Nat := valN (itA L x.toNat).l1 * (denL L / valN (itA L x.toNat).l2)
theorem wA_eq {L : List IR} {x : Int} (h0 : 0 ≤ x) (h1 : x < (L.length : Int)) : wA L x * valN (itA L x.toNat).l2 = valN (itA L x.toNat).l1 * denL L := by
  unfold wA
  rw [Nat.mul_assoc, Nat.div_mul_cancel]
  rw [itA_in (show x.toNat < L.length by omega)]
  exact denL_dvd (List.getElem_mem _)
theorem itA_chk {L : List IR} (hc : ∀ x ∈ L, chkI x = true) {x : Int} (h0 : 0 ≤ x) (h1 : x < (L.length : Int)) : chkI (itA L x.toNat) = true := by
  rw [itA_in (show x.toNat < L.length by omega)]
  exact hc _ (List.getElem_mem _)
theorem itA_ok {M : Mem} {L : List IR} (hL : okIL M L) {x : Int} (h0 : 0 ≤ x) (h1 : x < (L.length : Int)) : (itA L x.toNat).ok M := by
  rw [itA_in (show x.toNat < L.length by omega)]
  exact hL _ (List.getElem_mem _)
theorem chkL_pos {L : List IR} (hc : ∀ x ∈ L, chkI x = true) : 0 < denL L := denL_pos fun x hx => chkF_pos (chkI_parts (hc x hx)).1
theorem sum_alg {n d t1 t2 s1 s2 D S w n1 d1 E : Nat} (hd : 0 < d) (ht : 0 < t2) (h1 : 0 < d1) (a : s1 * (d * t2) = (n * t2 + t1 * d) * s2) (b : t1 * d1 = n1 * E * t2) (c : n * D = S * d) (e : w * d1 = n1 * D) : s1 * D = (S + w * E) * s2 := by
  refine Nat.eq_of_mul_eq_mul_right (Nat.mul_pos (Nat.mul_pos hd ht) h1) ?_
  calc s1 * D * (d * t2 * d1) = (s1 * (d * t2)) * (D * d1) := by ac_rfl
    _ = (n * t2 + t1 * d) * s2 * (D * d1) := by rw [a]
    _ = (n * D) * (t2 * s2 * d1) + (t1 * d1) * (d * s2 * D) := by grind
    _ = (S * d) * (t2 * s2 * d1) + (n1 * E * t2) * (d * s2 * D) := by rw [c, b]
    _ = (S * d) * (t2 * s2 * d1) + (n1 * D) * (E * t2 * d * s2) := by grind
    _ = (S * d) * (t2 * s2 * d1) + (w * d1) * (E * t2 * d * s2) := by rw [e]
    _ = _ := by grind
theorem cmp_sums {D S T n d m k : Nat} (hD : 0 < D) (h1 : n * D = S * d) (h2 : m * D = T * k) (h : S ≤ T) : n * k ≤ m * d := by
  refine Nat.le_of_mul_le_mul_right (c := D) ?_ hD
  calc n * k * D = (n * D) * k := by ac_rfl
    _ = S * d * k := by rw [h1]
    _ ≤ T * d * k := Nat.mul_le_mul_right _ (Nat.mul_le_mul_right _ h)
    _ = (T * k) * d := by ac_rfl
    _ = (m * D) * d := by rw [h2]
    _ = m * d * D := by ac_rfl
def toI (Z : List Nat) : List Int := Z.map fun (x : Nat) => (x : Int)
end Go.Proofs.Ytjapnklocibgaaa.Sx
namespace Go.Proofs.Ytjapnklocibgaaa.Sx
open Go Go.RowKit
set_option linter.unusedVariables false
set_option linter.unusedSimpArgs false
set_option maxRecDepth 100000
set_option maxHeartbeats 8000000
attribute [local congr] fin_congr finG_congr stepG_congr step1_congr runOps_congr brv_congr obl_congr condK_congr LoopK_congr seqK_congr CutK_congr vc_congr DrawK_congr regK_congr CallK_congr AskK_congr newK_congr retC_congr ret1_congr retK_congr outV_congr closeK_congr genR_congr appR_congr finD_congr finGD_congr stepGD_congr stepD_congr CallK0_congr runD_congr okR_congr CallS_congr vcX_congr
attribute [local congr] Stop_congr
theorem chkIL_of {M : Mem} {L : List IR} (h : ∀ x ∈ L, ItOK M x) (hl : L.length ≤ 64) : chkIL L = true := by
  unfold chkIL
  rw [Bool.and_eq_true, decide_eq_true_eq, List.all_eq_true]
  exact ⟨hl, fun x hx => (h x hx).chk⟩
theorem toI_len (Z : List Nat) : (toI Z).length = Z.length := by unfold toI; rw [List.length_map]
section
variable {M : Mem} {K : AV → Hp → Mem → Prop}
end
end Go.Proofs.Ytjapnklocibgaaa.Sx
namespace Go.Proofs.Ytjapnklocibgaaa.Sx
open Go Go.RowKit
set_option linter.unusedVariables false
set_option linter.unusedSimpArgs false
set_option maxRecDepth 100000
set_option maxHeartbeats 8000000
attribute [local congr] fin_congr finG_congr stepG_congr step1_congr runOps_congr brv_congr obl_congr condK_congr LoopK_congr seqK_congr CutK_congr vc_congr DrawK_congr regK_congr CallK_congr AskK_congr newK_congr retC_congr ret1_congr retK_congr outV_congr closeK_congr genR_congr appR_congr finD_congr finGD_congr stepGD_congr stepD_congr CallK0_congr runD_congr okR_congr CallS_congr vcX_congr
attribute [local congr] Stop_congr
section
variable {M : Mem} {K : AV → Hp → Mem → Prop}
def shSt31 (M : Mem) (u : Value) (p N i : Nat) (Z : List Nat) : St := { env := [(6, .ext (.int .i64 (i : Int))), (5, .slo 1000005 0 i 1), (1, .ext (.int .i64 (N : Int))), (0, .own 31 0)], hp := [(1000005, 3, cE natV Z), (31, 25, [.ext u, .ext (.int .i64 (p : Int))])], M := M, kb := 1000000, fx := [31] }
theorem shuf31_ok (u : Value) (l : List Int) (p N : Nat) (hu : IsL M intV64 u l) (hp : p < 100000) (hN : N < 1000) (hK : ∀ v Z M', Mem.le M M' → Z.Perm (List.range N) → IsL M' intV64 v (toI Z) → FreshS M v → K (.ext v) [(31, 25, [.ext u, .ext (.int .i64 ((p + N : Nat) : Int))])] M') :
    CallS Try.prog 13 [.own 31 0, .ext (.int .i64 (N : Int))] [(31, 25, [.ext u, .ext (.int .i64 (p : Int))])] M [] K := by
  refine CallS.frzF ?_
  refine inlS (cs := []) Try.mixed Try.func13 rfl (by kernel_rfl) 1000000 rfl rfl ?_
  simp only [Try.f13]
  (replace hb0 := true_and True); refine Go1.mk ?_; repeat' ((first | (with_reducible refine Go1.go ?_) | ((with_reducible first | refine brv_mk ?_ ?_ | refine gsplitD ?_ ?_ | refine gsplitG ?_ ?_) <;> intro h <;> (try simp only [Bool.not_eq_true', Bool.not_eq_false'] at h) <;> replace hb0 := h) | (refine And.intro ?ob ?_; case ob => ((try simp only [sxO, ne_eq, maxLen] at *); omega)) | fail) <;> (try simp (config := { maxSteps := 1000000 }) only [hb0, hasK_nil, hu.one, ↓hold_pre, awayP, runOps, regK, step1, newK, genR, appR, obl, buildR, Value.cells, closeK, keepH, outV, retK, ret1, retC, RetV, Option.getD, runD, stepD, afterK, undef, simprocAttr, sxB, ↓sxD, sxE, sxTab]))
  refine ⟨fun d z => ∃ Z i, d = N - i ∧ i ≤ N ∧ Z.Perm (List.range i) ∧ z = shSt31 M u (p + i) N i Z,
    ⟨N, shSt31 M u p N 0 [], (le_nil 5 1000005 3 1 rfl (.inl (by simp [awayB, mentE, mentH, mentL, AV.ment, hasK]))).trans (le_sub ⟨rfl, rfl, rfl, rfl, trivial⟩ ⟨by simp [lkH, shSt31, cE], by simp [lkH, shSt31], trivial⟩ rfl rfl rfl (by simp [keepLt, shSt31, lkH])), ⟨[], 0, by omega, by omega, List.Perm.refl _, rfl⟩⟩, ?_⟩
  rintro d z ⟨Z, i, rfl, hi, hZ, rfl⟩
  have hZl : Z.length = i := by rw [hZ.length_eq, List.length_range]
  have hlen : (cE natV Z).length = i := by rw [cE_len, hZl]
  by_cases hlt : i < N
  case neg =>
    obtain rfl : i = N := by omega
    have d1 : decide ((i : Int) < (i : Int)) = false := by simp
    (replace hb0 := true_and True); refine Go1.mk ?_; repeat' ((first | (with_reducible refine Go1.go ?_) | ((with_reducible first | refine brv_mk ?_ ?_ | refine gsplitD ?_ ?_ | refine gsplitG ?_ ?_) <;> intro h <;> (try simp only [Bool.not_eq_true', Bool.not_eq_false'] at h) <;> replace hb0 := h) | (refine And.intro ?ob ?_; case ob => ((try simp only [sxO, ne_eq, maxLen] at *); omega)) | fail) <;> (try simp (config := { maxSteps := 1000000 }) only [hb0, shSt31, d1, cE_ment, cE_kill, hasK_nil, hu.one, ↓hold_pre, awayP, runOps, regK, step1, newK, genR, appR, obl, buildR, Value.cells, closeK, keepH, outV, retK, ret1, retC, RetV, Option.getD, runD, stepD, afterK, undef, simprocAttr, sxB, ↓sxD, sxE, sxTab]))
    refine FrzF.keep (Z.map natV) rfl (by rw [List.length_map, hZl]) (by simp [mentH, mentL, AV.ment, hasK]) rfl fun v M3 h1 h2 h3 => hK v Z M3 h1 hZ ?_ h3
    rw [← hZl, ← List.length_map (f := natV)] at h2
    exact IsL.nat (l := Z) (by rw [List.length_map] at h2; exact h2)
  have d1 : decide ((i : Int) < (N : Int)) = true := by rw [decide_eq_true_eq]; omega
  have hw : IntKind.i64.wrap ((i : Int) + 1) = ((i + 1 : Nat) : Int) := succ_i (by omega)
  (replace hb0 := true_and True); refine Go1.mk ?_; repeat' ((first | (with_reducible refine Go1.go ?_) | ((with_reducible first | refine brv_mk ?_ ?_ | refine gsplitD ?_ ?_ | refine gsplitG ?_ ?_) <;> intro h <;> (try simp only [Bool.not_eq_true', Bool.not_eq_false'] at h) <;> replace hb0 := h) | ((with_reducible refine isCall (f := 18) ?_); refine callA ?_) | ((with_reducible refine isCall0 (f := 18) ?_); refine callA0 ?_) | ((with_reducible refine isCallS (f := 18) ?_); refine (nextI_ok 31 u l (p + i) ((i + 1 : Nat) : Int) hu (by omega) (by omega) (by omega) (fun x hx0 hx1 => Stop.mk ?_))) | (refine And.intro ?ob ?_; case ob => ((try simp only [sxO, ne_eq, maxLen] at *); omega)) | fail) <;> (try simp (config := { maxSteps := 1000000 }) only [hb0, shSt31, d1, hw, cE_ment, cE_kill, hasK_nil, hu.one, ↓hold_pre, awayP, runOps, regK, step1, newK, genR, appR, obl, buildR, Value.cells, closeK, keepH, outV, retK, ret1, retC, RetV, Option.getD, runD, stepD, afterK, undef, simprocAttr, sxB, ↓sxD, sxE, sxTab]))
  obtain ⟨a, rfl⟩ := Int.eq_ofNat_of_zero_le hx0
  have ha : a ≤ i := by omega
  have b2 : (a : Int) ≤ (i : Int) := by omega
  have b3 : (0 : Int) ≤ (a : Int) := by omega
  have b4 : (0 : Int) ≤ (i : Int) := by omega
  have hnew : cE natV (Z.take a) ++ AV.ext (.int .i64 (i : Int)) :: cE natV ((Z.drop a).take (i - a)) = cE natV (Z.take a ++ i :: Z.drop a) := by
    rw [List.take_of_length_le (l := Z.drop a) (by rw [List.length_drop]; omega)]
    simp [cE, natV]
  have hsum : a + (1 + (i - a)) = i + 1 := by omega
  have hdl : ((Z.drop a).take (i - a)).length = i - a := by rw [List.length_take, List.length_drop]; omega
  have htw : List.take (1 + (i - a)) (AV.ext (.int .i64 (i : Int)) :: cE natV ((Z.drop a).take (i - a))) = AV.ext (.int .i64 (i : Int)) :: cE natV ((Z.drop a).take (i - a)) := List.take_of_length_le (by rw [List.length_cons, cE_len, hdl]; omega)
  have hso : 1 + (i - a) ≤ i - a + 1 := by omega
  have hz2 := ins_perm a hZ
  have hao := fun l => eq_true (allOne_cE natV (fun _ => rfl) l)
  refine Stop.go ?_
  (replace hb0 := true_and True); refine Go1.mk ?_; repeat' ((first | (with_reducible refine Go1.go ?_) | ((with_reducible first | refine brv_mk ?_ ?_ | refine gsplitD ?_ ?_ | refine gsplitG ?_ ?_) <;> intro h <;> (try simp only [Bool.not_eq_true', Bool.not_eq_false'] at h) <;> replace hb0 := h) | ((with_reducible refine isDraw [some 17, some 18, some 19, some 20, some 21, some 22, some 23, some 24, some 25, some 26, some 5] (by decide) ?_); refine draw_rule [(0, []), (1, []), (2, []), (3, []), (4, []), (5, []), (6, []), (7, []), (8, [0, 1, 2]), (9, []), (10, [])] [[], [], [0, 1], [], [3], [], [], [5, 6], [3, 4, 5, 6, 7], [0, 1, 2, 3, 4, 5, 6, 7, 8], [0, 1, 2, 3, 4, 5, 6, 7, 8, 9]] [17, 18, 19, 20, 21, 22, 23, 24, 25] [] (by kernel_rfl) (by kernel_rfl) (by kernel_rfl) (by kernel_rfl) (by exact trivial) ?_) | (refine And.intro ?ob ?_; case ob => ((try simp only [sxO, ne_eq, maxLen] at *); omega)) | fail) <;> (try simp (config := { maxSteps := 1000000 }) only [hb0, hw, hnew, hsum, hdl, htw, hso, slops_hi, slops_lo, hlen, hao, b2, b3, b4, cE_len, cE_take, cE_drop, cE_ment, cE_kill, hasK_nil, Nat.mul_one, Nat.zero_add, Nat.sub_zero, hu.one, Int.toNat_natCast, Int.toNat_zero, ↓hold_pre, awayP, runOps, regK, step1, newK, genR, appR, obl, buildR, Value.cells, closeK, keepH, outV, retK, ret1, retC, RetV, Option.getD, runD, stepD, afterK, undef, simprocAttr, sxB, ↓sxD, sxE, sxTab]))
  exact ⟨N - (i + 1), shSt31 M u (p + (i + 1)) N (i + 1) (Z.take a ++ i :: Z.drop a), by omega, le_sub ⟨rfl, rfl, rfl, rfl, trivial⟩ ⟨by simp [lkH, shSt31], by simp [lkH, shSt31]; omega, trivial⟩ rfl rfl rfl (by simp [keepLt, shSt31, lkH]), _, i + 1, rfl, by omega, hz2, rfl⟩
end
end Go.Proofs.Ytjapnklocibgaaa.Sx
namespace Go.Proofs.Ytjapnklocibgaaa.Sx
open Go
set_option maxRecDepth 100000
set_option linter.unusedVariables false
theorem preG_next {L : List IR} {b : Int} : ∀ (o : List Int) (e : Int) (k : Nat), (∀ x ∈ o, 1 ≤ costA L x) → preG L b o e k ≤ preG L (b + 1) o e k ∧ preG L (b + 1) o e k ≤ preG L b o e k + 1
  | [], e, k, _ => ⟨Nat.le_refl _, Nat.le_succ _⟩
  | x :: r, e, k, h => by
    have hx := h x List.mem_cons_self
    have ih := preG_next (b := b) r (e + costA L x) (k + 1) fun y hy => h y (List.mem_cons_of_mem _ hy)
    rw [preG_cons, preG_cons]
    by_cases h1 : b < e + costA L x
    · rw [if_pos h1]
      by_cases h2 : b + 1 < e + costA L x
      · rw [if_pos h2]; omega
      · rw [if_neg h2]
        cases r with
        | nil => exact ⟨by show k ≤ k + 1; omega, by show k + 1 ≤ k + 1; omega⟩
        | cons y r =>
          have hy := h y (by simp)
          rw [preG_cons, if_pos (by omega)]; omega
    · rw [if_neg h1, if_neg (by omega)]; exact ih
def costS (L : List IR) : List Int → Int
  | [] => 0
  | x :: r => costA L x + costS L r
theorem costS_nn {L : List IR} : ∀ {o : List Int}, (∀ x ∈ o, 1 ≤ costA L x) → 0 ≤ costS L o
  | [], _ => Int.le_refl _
  | x :: r, h => by
    have := costS_nn (o := r) fun y hy => h y (List.mem_cons_of_mem _ hy)
    have := h x List.mem_cons_self
    simp only [costS]; omega
theorem costS_perm {L : List IR} {o p : List Int} (h : o.Perm p) : costS L o = costS L p := by
  induction h with
  | nil => rfl
  | cons x _ ih => simp only [costS]; omega
  | swap x y l => simp only [costS]; omega
  | trans _ _ ih1 ih2 => omega
theorem preG_all {L : List IR} {b : Int} : ∀ (o : List Int) (e : Int) (k : Nat), (∀ x ∈ o, 1 ≤ costA L x) → e + costS L o ≤ b → preG L b o e k = k + o.length
  | [], e, k, _, _ => rfl
  | x :: r, e, k, h, hb => by
    have hr := costS_nn (L := L) (o := r) fun y hy => h y (List.mem_cons_of_mem _ hy)
    simp only [costS] at hb
    rw [preG_cons, if_neg (by omega), preG_all r _ _ (fun y hy => h y (List.mem_cons_of_mem _ hy)) (by omega), List.length_cons]; omega
theorem preG_none {L : List IR} : ∀ (o : List Int), (∀ x ∈ o, 1 ≤ costA L x) → preG L 0 o 0 0 = 0
  | [], _ => rfl
  | x :: r, h => by rw [preG_cons, if_pos (by have := h x List.mem_cons_self; omega)]
theorem errO_cost {L : List IR} {o : List Int} (h : errO L o = 0) : ∀ x ∈ o, 1 ≤ costA L x := fun x hx => by
  obtain ⟨hc, _, _, hin⟩ := errO_zero h
  exact (costA_in hc (hin x hx).1 (hin x hx).2).1
theorem preN_next {L : List IR} {o : List Int} (b : Int) (h : errO L o = 0) : preN L o b ≤ preN L o (b + 1) ∧ preN L o (b + 1) ≤ preN L o b + 1 := by
  unfold preN
  rw [if_pos h, if_pos h]
  exact preG_next o 0 0 (errO_cost h)
theorem preN_all {L : List IR} {o : List Int} {b : Int} (h : errO L o = 0) (hb : costS L o ≤ b) : preN L o b = o.length := by
  unfold preN
  rw [if_pos h, preG_all o 0 0 (errO_cost h) (by omega), Nat.zero_add]
theorem preN_none {L : List IR} {o : List Int} (h : errO L o = 0) : preN L o 0 = 0 := by
  unfold preN
  rw [if_pos h, preG_none o (errO_cost h)]
def sumW (L : List IR) : List Int → Nat
  | [] => 0
  | x :: r => wA L x + sumW L r
theorem sumW_take (L : List IR) : ∀ (o : List Int) (a b : Nat), a ≤ b → sumW L (o.take a) ≤ sumW L (o.take b)
  | [], a, b, _ => by simp
  | x :: r, 0, b, _ => by simp [sumW]
  | x :: r, a + 1, 0, h => by omega
  | x :: r, a + 1, b + 1, h => by
    have := sumW_take L r a b (by omega)
    simp only [List.take_succ_cons, sumW]; omega
theorem sumV_sum {M : Mem} {L : List IR} (hL : okIL M L) (hc : ∀ x ∈ L, chkI x = true) (o : List Int) : ∀ (i n d S : Nat), (∀ x ∈ o, 0 ≤ x ∧ x < (L.length : Int)) → i + o.length ≤ 64 → SumOK 4294967296 i n d → n * denL L = S * d →
    SumOK 4294967296 (i + o.length) (sumV L o n d).1 (sumV L o n d).2 ∧ (sumV L o n d).1 * denL L = (S + sumW L o) * (sumV L o n d).2 := by
  induction o with
  | nil =>
    intro i n d S _ _ hS h
    refine ⟨hS, ?_⟩
    show n * denL L = (S + 0) * d
    rw [Nat.add_zero]; exact h
  | cons x r ih =>
    intro i n d S ho hi hS h
    obtain ⟨x0, x1⟩ := ho x List.mem_cons_self
    have hi2 : i + (r.length + 1) ≤ 64 := hi
    have hck := itA_chk hc x0 x1
    have hok := itA_ok hL x0 x1
    have hw := wA_eq x0 x1
    obtain ⟨q1, q2, l1, l2, y0, yg⟩ := chkI_val hok hck
    rw [sumV_cons]
    obtain ⟨s1, s2⟩ := hS.add (n' := valN (itA L x.toNat).l1) (d' := valN (itA L x.toNat).l2) (by omega) fits_two (Nat.le_of_lt l1) y0 (Nat.le_of_lt l2)
    have s3 := exF_mul s1
    obtain ⟨s, hs⟩ : ∃ s, s = exF (n * valN (itA L x.toNat).l2 + valN (itA L x.toNat).l1 * d) (d * valN (itA L x.toNat).l2) := ⟨_, rfl⟩
    rw [← hs] at s1 s2 s3 ⊢
    clear hs
    obtain ⟨ss, v1, v2⟩ := s
    simp only at s1 s2 s3 ⊢
    have key := sum_alg (E := 1) hS.pos y0 y0 s3 (by rw [Nat.mul_one]) h hw
    rw [Nat.mul_one] at key
    obtain ⟨r1, r2⟩ := ih (i + 1) v1 v2 (S + wA L x) (fun y hy => ho y (List.mem_cons_of_mem _ hy)) (by omega) s2 key
    refine ⟨by rw [List.length_cons, show i + (r.length + 1) = i + 1 + r.length by omega]; exact r1, ?_⟩
    rw [r2]
    simp only [sumW]
    rw [Nat.add_assoc]
theorem fouP_sum {M : Mem} {L : List IR} {o : List Int} (b : Int) (hL : okIL M L) (h : errO L o = 0) : SumOK 4294967296 (o.take (preN L o b)).length (fouP L o b).1 (fouP L o b).2 ∧ (fouP L o b).1 * denL L = sumW L (o.take (preN L o b)) * (fouP L o b).2 := by
  obtain ⟨hc, h64, hol, hin⟩ := errO_zero h
  unfold fouP
  rw [if_pos h]
  have hlt : (o.take (preN L o b)).length ≤ o.length := by rw [List.length_take]; omega
  have := sumV_sum hL hc (o.take (preN L o b)) 0 0 1 0 (fun x hx => hin x (List.mem_of_mem_take hx)) (by omega) (SumOK.zero _) (by simp)
  rw [Nat.zero_add, Nat.zero_add] at this
  exact this
theorem fouP_chk {M : Mem} {L : List IR} {o : List Int} (b : Int) (hL : okIL M L) (h : errO L o = 0) : chkF (ofN (fouP L o b).1) (ofN (fouP L o b).2) = true := by
  obtain ⟨hc, h64, hol, hin⟩ := errO_zero h
  have hlt : (o.take (preN L o b)).length ≤ o.length := by rw [List.length_take]; omega
  exact (fouP_sum b hL h).1.chk (by omega) fits_two
theorem fouP_len {M : Mem} {L : List IR} {o : List Int} (b : Int) (hL : okIL M L) (h : errO L o = 0) : (ofN (fouP L o b).1).length ≤ 128 ∧ (ofN (fouP L o b).2).length ≤ 128 := by
  obtain ⟨hc, h64, hol, hin⟩ := errO_zero h
  have hlt : (o.take (preN L o b)).length ≤ o.length := by rw [List.length_take]; omega
  exact (fouP_sum b hL h).1.len (by omega) fits_two
theorem fou_mono {M : Mem} {L : List IR} {o : List Int} {b b' : Int} (hL : okIL M L) (h : errO L o = 0) (hb : preN L o b ≤ preN L o b') : cmpF (ofN (fouP L o b).1) (ofN (fouP L o b).2) (ofN (fouP L o b').1) (ofN (fouP L o b').2) ≤ 0 := by
  obtain ⟨hc, h64, hol, hin⟩ := errO_zero h
  rw [cmpF_of (fouP_chk b hL h) (fouP_chk b' hL h), cmpN_le0]
  exact cmp_sums (chkL_pos hc) (fouP_sum b hL h).2 (fouP_sum b' hL h).2 (sumW_take L o _ _ hb)
end Go.Proofs.Ytjapnklocibgaaa.Sx
namespace Go.Proofs.Ytjapnklocibgaaa.Sx
open Go Go.RowKit
set_option linter.unusedVariables false
set_option linter.unusedSimpArgs false
set_option maxRecDepth 100000
set_option maxHeartbeats 8000000
attribute [local congr] fin_congr finG_congr stepG_congr step1_congr runOps_congr brv_congr obl_congr condK_congr LoopK_congr seqK_congr CutK_congr vc_congr DrawK_congr regK_congr CallK_congr AskK_congr newK_congr retC_congr ret1_congr retK_congr outV_congr closeK_congr genR_congr appR_congr finD_congr finGD_congr stepGD_congr stepD_congr CallK0_congr runD_congr okR_congr CallS_congr vcX_congr
attribute [local congr] Stop_congr
theorem errO_of {L : List IR} {Z : List Nat} (hc : chkIL L = true) (h : Z.Perm (List.range L.length)) : errO L (toI Z) = 0 := by
  unfold errO
  rw [if_pos hc, if_pos (show permB L.length (toI Z) = true from permB_iff.2 (h.map _))]
theorem costS_snoc (L : List IR) (A : List Int) (x : Int) : costS L (A ++ [x]) = costS L A + costA L x := by
  rw [costS_perm (List.perm_append_singleton x A)]
  simp only [costS]; omega
theorem toI_range_succ (i : Nat) : toI (List.range (i + 1)) = toI (List.range i) ++ [(i : Int)] := by
  unfold toI; rw [List.range_succ, List.map_append]; rfl
section
variable {M : Mem} {K : AV → Hp → Mem → Prop}
def lbSt (M : Mem) (v w : Value) (b s : Int) (i : Nat) : St := { env := [(9, .ext (.int .i64 (i : Int))), (8, .ext (.int .i64 s)), (7, .ext w), (6, .ext v), (1, .ext (.int .i64 b))], hp := [], M := M, kb := 7, fx := [] }
theorem budgets29_ok (u : Value) (l : List Int) (b : Int) (hu : IsL M intV64 u l) (hK : ∀ M', Mem.le M M' → K (.ext (.bool true)) [] M') : CallS Try.prog 9 [.ext u, .ext (.int .i64 b)] [] M [] K := by
  refine inlS (cs := []) Try.mixed Try.func9 rfl (by kernel_rfl) 7 rfl rfl ?_
  simp only [Try.f9]
  (replace hb0 := true_and True); refine Go1.mk ?_; repeat' ((first | (with_reducible refine Go1.go ?_) | ((with_reducible first | refine brv_mk ?_ ?_ | refine gsplitD ?_ ?_ | refine gsplitG ?_ ?_) <;> intro h <;> (try simp only [Bool.not_eq_true', Bool.not_eq_false'] at h) <;> replace hb0 := h) | ((with_reducible refine isCall (f := 10) ?_); refine callA ?_) | ((with_reducible refine isCall0 (f := 10) ?_); refine callA0 ?_) | ((with_reducible refine isCallS (f := 10) ?_); refine (items31_ok u l 0 10 hu (by omega) (by omega) (fun v L M1 p1 m1 hv hL fv ll lp => Stop.mk ?_))) | (refine And.intro ?ob ?_; case ob => ((try simp only [sxO, ne_eq, maxLen] at *); omega)) | fail) <;> (try simp (config := { maxSteps := 1000000 }) only [hb0, hu.one, hasK_nil, ↓hold_pre, awayP, runOps, regK, step1, newK, genR, appR, obl, buildR, Value.cells, closeK, keepH, outV, retK, ret1, retC, RetV, Option.getD, runD, stepD, afterK, undef, simprocAttr, sxB, ↓sxD, sxE, sxTab]))
  have m1 : Mem.le M M1 := m1
  have okL : okIL M1 L := fun x hx => (hL x hx).ok
  have hc := chkIL_of hL (by omega)
  have hu1 := hu.le m1
  refine Stop.go ?_
  (replace hb0 := true_and True); refine Go1.mk ?_; repeat' ((first | (with_reducible refine Go1.go ?_) | ((with_reducible first | refine brv_mk ?_ ?_ | refine gsplitD ?_ ?_ | refine gsplitG ?_ ?_) <;> intro h <;> (try simp only [Bool.not_eq_true', Bool.not_eq_false'] at h) <;> replace hb0 := h) | ((with_reducible refine isCall (f := 13) ?_); refine callA ?_) | ((with_reducible refine isCall0 (f := 13) ?_); refine callA0 ?_) | ((with_reducible refine isCallS (f := 13) ?_); refine (shuf31_ok u l p1 L.length hu1 (by omega) (by omega) (fun w Z M2 n1 n2 n3 n4 => Stop.mk ?_))) | (refine And.intro ?ob ?_; case ob => ((try simp only [sxO, ne_eq, maxLen] at *); omega)) | fail) <;> (try simp (config := { maxSteps := 1000000 }) only [hb0, hu1.one, hv.one, hv.len, hv.sl, hasK_nil, ↓hold_pre, awayP, runOps, regK, step1, newK, genR, appR, obl, buildR, Value.cells, closeK, keepH, outV, retK, ret1, retC, RetV, Option.getD, runD, stepD, afterK, undef, simprocAttr, sxB, ↓sxD, sxE, sxTab]))
  have n1 : Mem.le M1 M2 := n1
  have m2 := m1.trans n1
  have hv2 := hv.le n1
  have okL2 := okL.le n1
  have hZl : Z.length = L.length := by rw [n2.length_eq, List.length_range]
  have hE := errO_of hc n2
  obtain ⟨hcc, h64, hol, hin⟩ := errO_zero hE
  clear hv okL hu1 hL fv n4
  refine Stop.go ?_
  (replace hb0 := true_and True); refine Go1.mk ?_; repeat' ((first | (with_reducible refine Go1.go ?_) | ((with_reducible first | refine brv_mk ?_ ?_ | refine gsplitD ?_ ?_ | refine gsplitG ?_ ?_) <;> intro h <;> (try simp only [Bool.not_eq_true', Bool.not_eq_false'] at h) <;> replace hb0 := h) | (refine And.intro ?ob ?_; case ob => ((try simp only [sxO, ne_eq, maxLen] at *); omega)) | fail) <;> (try simp (config := { maxSteps := 1000000 }) only [hb0, hu.one, hv2.one, hv2.len, hv2.sl, n3.one, hasK_nil, ↓hold_pre, awayP, runOps, regK, step1, newK, genR, appR, obl, buildR, Value.cells, closeK, keepH, outV, retK, ret1, retC, RetV, Option.getD, runD, stepD, afterK, undef, simprocAttr, sxB, ↓sxD, sxE, sxTab]))
  refine ⟨fun m z => ∃ i s, m = L.length - i ∧ i ≤ L.length ∧ s = costS L (toI (List.range i)) ∧ 0 ≤ s ∧ s ≤ (i : Int) * 1048576 ∧ z = lbSt M2 v w b s i,
    ⟨L.length, lbSt M2 v w b 0 0, le_sub ⟨rfl, rfl, rfl, rfl, rfl, trivial⟩ trivial rfl rfl rfl (keepLt_of rfl), ⟨0, 0, by omega, by omega, rfl, by omega, by omega, rfl⟩⟩, ?_⟩
  rintro m z ⟨i, s, rfl, hi, hs, s0, s1, rfl⟩
  by_cases hlt : i < L.length
  · have d1 : decide ((i : Int) < (L.length : Int)) = true := by rw [decide_eq_true_eq]; omega
    have b1 : (0 : Int) ≤ (i : Int) := by omega
    have b2 : (i : Int) < (L.length : Int) := by omega
    have wi : IntKind.i64.wrap ((i : Int) + 1) = ((i + 1 : Nat) : Int) := succ_i (by omega)
    have hnn := hv2.nn hlt
    have p1 := hv2.pt hlt
    have hco : costA L (i : Int) = L[i].cost := by unfold costA; rw [Int.toNat_natCast, itA_in hlt]
    have hac := hv2.atF (P := Try.prog) (T := 3) (fun _ => rfl) tk3 tz3 hlt (o := 4) (v := .int .i64 L[i].cost) rfl
    rw [← hco] at hac
    have hcb := costA_in hcc (x := (i : Int)) (by omega) (by omega)
    have hs2 := costS_snoc L (toI (List.range i)) (i : Int)
    rw [← toI_range_succ, ← hs] at hs2
    generalize costA L (i : Int) = co at *
    have we : IntKind.i64.wrap (s + co) = s + co := wrap_id (by omega) (by omega)
    (replace hb0 := true_and True); refine Go1.mk ?_; repeat' ((first | (with_reducible refine Go1.go ?_) | ((with_reducible first | refine brv_mk ?_ ?_ | refine gsplitD ?_ ?_ | refine gsplitG ?_ ?_) <;> intro h <;> (try simp only [Bool.not_eq_true', Bool.not_eq_false'] at h) <;> replace hb0 := h) | (refine And.intro ?ob ?_; case ob => ((try simp only [sxO, ne_eq, maxLen] at *); omega)) | fail) <;> (try simp (config := { maxSteps := 1000000 }) only [hb0, lbSt, hv2.one, hv2.len, hv2.sl, n3.one, d1, b1, b2, wi, hnn, p1, hac, we, hasK_nil, ↓hold_pre, awayP, runOps, regK, step1, newK, genR, appR, obl, buildR, Value.cells, closeK, keepH, outV, retK, ret1, retC, RetV, Option.getD, runD, stepD, afterK, undef, simprocAttr, sxB, ↓sxD, sxE, sxTab]))
    exact ⟨L.length - (i + 1), lbSt M2 v w b (s + co) (i + 1), by omega, le_sub ⟨rfl, rfl, rfl, rfl, rfl, trivial⟩ trivial rfl rfl rfl (keepLt_of rfl), i + 1, s + co, rfl, by omega, hs2.symm, by omega, by omega, rfl⟩
  obtain rfl : i = L.length := by omega
  have d1 : decide ((L.length : Int) < (L.length : Int)) = false := by simp
  have hsum : costS L (toI Z) ≤ s := by
    rw [hs]; exact Int.le_of_eq (costS_perm (n2.map fun (x : Nat) => (x : Int)))
  have ws : IntKind.i64.wrap (s + 1) = s + 1 := wrap_id (by omega) (by omega)
  obtain ⟨f0, f1⟩ := foldI_bd1 b (s + 1) (by omega) (by omega)
  obtain ⟨B, hB⟩ : ∃ B, B = foldI b (s + 1) := ⟨_, rfl⟩
  rw [← hB] at f0 f1
  have wB : IntKind.i64.wrap (B + 1) = B + 1 := wrap_id (by omega) (by omega)
  have hlZ : (toI Z).length < 1000000 := by rw [toI_len]; omega
  have hlL : L.length < 1000000 := by omega
  (replace hb0 := true_and True); refine Go1.mk ?_; repeat' ((first | (with_reducible refine Go1.go ?_) | ((with_reducible first | refine brv_mk ?_ ?_ | refine gsplitD ?_ ?_ | refine gsplitG ?_ ?_) <;> intro h <;> (try simp only [Bool.not_eq_true', Bool.not_eq_false'] at h) <;> replace hb0 := h) | ((first | (with_reducible refine isCall (f := 20) ?_; refine callA_nil (by kernel_rfl) ?_) | (with_reducible refine isCall0 (f := 20) ?_; refine callA0_nil (by kernel_rfl) ?_)); refine (fold_ok _ _ (Stop.mk ?_))) | (refine And.intro ?ob ?_; case ob => ((try simp only [sxO, ne_eq, maxLen] at *); omega)) | fail) <;> (try simp (config := { maxSteps := 1000000 }) only [hb0, lbSt, hv2.one, hv2.len, hv2.sl, n3.one, d1, ws, hasK_nil, ↓hold_pre, awayP, runOps, regK, step1, newK, genR, appR, obl, buildR, Value.cells, closeK, keepH, outV, retK, ret1, retC, RetV, Option.getD, runD, stepD, afterK, undef, simprocAttr, sxB, ↓sxD, sxE, sxTab]))
  rw [← hB]
  have hn := n3
  refine Stop.go ?_
  (replace hb0 := true_and True); refine Go1.mk ?_; repeat' ((first | (with_reducible refine Go1.go ?_) | ((with_reducible first | refine brv_mk ?_ ?_ | refine gsplitD ?_ ?_ | refine gsplitG ?_ ?_) <;> intro h <;> (try simp only [Bool.not_eq_true', Bool.not_eq_false'] at h) <;> replace hb0 := h) | ((first | (with_reducible refine isCall (f := 30) ?_; refine callA_nil (by kernel_rfl) ?_) | (with_reducible refine isCall0 (f := 30) ?_; refine callA0_nil (by kernel_rfl) ?_)); refine (oprefix_ok B hv2 okL2 hlL n3 hlZ (fun M3 c3 => Stop.mk ?_))) | (refine And.intro ?ob ?_; case ob => ((try simp only [sxO, ne_eq, maxLen] at *); omega)) | fail) <;> (try simp (config := { maxSteps := 1000000 }) only [hb0, hv2.one, hv2.len, hv2.sl, n3.one, wB, hasK_nil, ↓hold_pre, awayP, runOps, regK, step1, newK, genR, appR, obl, buildR, Value.cells, closeK, keepH, outV, retK, ret1, retC, RetV, Option.getD, runD, stepD, afterK, undef, simprocAttr, sxB, ↓sxD, sxE, sxTab]))
  have c3 : Mem.le M2 M3 := c3
  have hv3 := hv2.le c3
  have n3 := n3.le c3
  have okL3 := okL2.le c3
  refine Stop.go ?_
  (replace hb0 := true_and True); refine Go1.mk ?_; repeat' ((first | (with_reducible refine Go1.go ?_) | ((with_reducible first | refine brv_mk ?_ ?_ | refine gsplitD ?_ ?_ | refine gsplitG ?_ ?_) <;> intro h <;> (try simp only [Bool.not_eq_true', Bool.not_eq_false'] at h) <;> replace hb0 := h) | ((first | (with_reducible refine isCall (f := 30) ?_; refine callA_nil (by kernel_rfl) ?_) | (with_reducible refine isCall0 (f := 30) ?_; refine callA0_nil (by kernel_rfl) ?_)); refine (oprefix_ok (B + 1) hv3 okL3 hlL n3 hlZ (fun M4 c4 => Stop.mk ?_))) | (refine And.intro ?ob ?_; case ob => ((try simp only [sxO, ne_eq, maxLen] at *); omega)) | fail) <;> (try simp (config := { maxSteps := 1000000 }) only [hb0, hv3.one, hv3.len, hv3.sl, n3.one, wB, hasK_nil, ↓hold_pre, awayP, runOps, regK, step1, newK, genR, appR, obl, buildR, Value.cells, closeK, keepH, outV, retK, ret1, retC, RetV, Option.getD, runD, stepD, afterK, undef, simprocAttr, sxB, ↓sxD, sxE, sxTab]))
  have c4 : Mem.le M3 M4 := c4
  have hv4 := hv3.le c4
  have n4 := n3.le c4
  have okL4 := okL3.le c4
  refine Stop.go ?_
  (replace hb0 := true_and True); refine Go1.mk ?_; repeat' ((first | (with_reducible refine Go1.go ?_) | ((with_reducible first | refine brv_mk ?_ ?_ | refine gsplitD ?_ ?_ | refine gsplitG ?_ ?_) <;> intro h <;> (try simp only [Bool.not_eq_true', Bool.not_eq_false'] at h) <;> replace hb0 := h) | ((first | (with_reducible refine isCall (f := 27) ?_; refine callA_nil (by kernel_rfl) ?_) | (with_reducible refine isCall0 (f := 27) ?_; refine callA0_nil (by kernel_rfl) ?_)); refine (ofound_ok B hv4 okL4 hlL n4 hlZ (fun w1 w2 M5 c5 x1 x2 _ _ => Stop.mk ?_))) | (refine And.intro ?ob ?_; case ob => ((try simp only [sxO, ne_eq, maxLen] at *); omega)) | fail) <;> (try simp (config := { maxSteps := 1000000 }) only [hb0, hv4.one, hv4.len, hv4.sl, n4.one, wB, hasK_nil, ↓hold_pre, awayP, runOps, regK, step1, newK, genR, appR, obl, buildR, Value.cells, closeK, keepH, outV, retK, ret1, retC, RetV, Option.getD, runD, stepD, afterK, undef, simprocAttr, sxB, ↓sxD, sxE, sxTab]))
  have c5 : Mem.le M4 M5 := c5
  have hv5 := hv4.le c5
  have n5 := n4.le c5
  have okL5 := okL4.le c5
  refine Stop.go ?_
  (replace hb0 := true_and True); refine Go1.mk ?_; repeat' ((first | (with_reducible refine Go1.go ?_) | ((with_reducible first | refine brv_mk ?_ ?_ | refine gsplitD ?_ ?_ | refine gsplitG ?_ ?_) <;> intro h <;> (try simp only [Bool.not_eq_true', Bool.not_eq_false'] at h) <;> replace hb0 := h) | ((first | (with_reducible refine isCall (f := 27) ?_; refine callA_nil (by kernel_rfl) ?_) | (with_reducible refine isCall0 (f := 27) ?_; refine callA0_nil (by kernel_rfl) ?_)); refine (ofound_ok (B + 1) hv5 okL5 hlL n5 hlZ (fun w3 w4 M6 c6 y1 y2 _ _ => Stop.mk ?_))) | (refine And.intro ?ob ?_; case ob => ((try simp only [sxO, ne_eq, maxLen] at *); omega)) | fail) <;> (try simp (config := { maxSteps := 1000000 }) only [hb0, hv5.one, hv5.len, hv5.sl, n5.one, x1.one, x2.one, wB, hasK_nil, ↓hold_pre, awayP, runOps, regK, step1, newK, genR, appR, obl, buildR, Value.cells, closeK, keepH, outV, retK, ret1, retC, RetV, Option.getD, runD, stepD, afterK, undef, simprocAttr, sxB, ↓sxD, sxE, sxTab]))
  have c6 : Mem.le M5 M6 := c6
  have hv6 := hv5.le c6
  have n6 := n5.le c6
  have okL6 := okL5.le c6
  refine Stop.go ?_
  (replace hb0 := true_and True); refine Go1.mk ?_; repeat' ((first | (with_reducible refine Go1.go ?_) | ((with_reducible first | refine brv_mk ?_ ?_ | refine gsplitD ?_ ?_ | refine gsplitG ?_ ?_) <;> intro h <;> (try simp only [Bool.not_eq_true', Bool.not_eq_false'] at h) <;> replace hb0 := h) | ((first | (with_reducible refine isCall (f := 30) ?_; refine callA_nil (by kernel_rfl) ?_) | (with_reducible refine isCall0 (f := 30) ?_; refine callA0_nil (by kernel_rfl) ?_)); refine (oprefix_ok s hv6 okL6 hlL n6 hlZ (fun M7 c7 => Stop.mk ?_))) | (refine And.intro ?ob ?_; case ob => ((try simp only [sxO, ne_eq, maxLen] at *); omega)) | fail) <;> (try simp (config := { maxSteps := 1000000 }) only [hb0, hv6.one, hv6.len, hv6.sl, n6.one, x1.one, x2.one, y1.one, y2.one, wB, hasK_nil, ↓hold_pre, awayP, runOps, regK, step1, newK, genR, appR, obl, buildR, Value.cells, closeK, keepH, outV, retK, ret1, retC, RetV, Option.getD, runD, stepD, afterK, undef, simprocAttr, sxB, ↓sxD, sxE, sxTab]))
  have c7 : Mem.le M6 M7 := c7
  have hv7 := hv6.le c7
  have n7 := n6.le c7
  have okL7 := okL6.le c7
  refine Stop.go ?_
  (replace hb0 := true_and True); refine Go1.mk ?_; repeat' ((first | (with_reducible refine Go1.go ?_) | ((with_reducible first | refine brv_mk ?_ ?_ | refine gsplitD ?_ ?_ | refine gsplitG ?_ ?_) <;> intro h <;> (try simp only [Bool.not_eq_true', Bool.not_eq_false'] at h) <;> replace hb0 := h) | ((first | (with_reducible refine isCall (f := 30) ?_; refine callA_nil (by kernel_rfl) ?_) | (with_reducible refine isCall0 (f := 30) ?_; refine callA0_nil (by kernel_rfl) ?_)); refine (oprefix_ok 0 hv7 okL7 hlL n7 hlZ (fun M8 c8 => Stop.mk ?_))) | (refine And.intro ?ob ?_; case ob => ((try simp only [sxO, ne_eq, maxLen] at *); omega)) | fail) <;> (try simp (config := { maxSteps := 1000000 }) only [hb0, hv7.one, hv7.len, hv7.sl, n7.one, x1.one, x2.one, y1.one, y2.one, wB, hasK_nil, ↓hold_pre, awayP, runOps, regK, step1, newK, genR, appR, obl, buildR, Value.cells, closeK, keepH, outV, retK, ret1, retC, RetV, Option.getD, runD, stepD, afterK, undef, simprocAttr, sxB, ↓sxD, sxE, sxTab]))
  have c8 : Mem.le M7 M8 := c8
  have hv8 := hv7.le c8
  obtain ⟨q1, q2⟩ := preN_next B hE
  have q3 := preN_all hE hsum
  rw [toI_len, hZl] at q3
  have q4 := preN_none hE
  obtain ⟨g1, g2⟩ := fouP_len B okL2 hE
  obtain ⟨g3, g4⟩ := fouP_len (B + 1) okL2 hE
  have hcmp := fou_mono okL2 hE q1
  have x1 := (((x1.le c6).le c7).le c8)
  have x2 := (((x2.le c6).le c7).le c8)
  have y1 := ((y1.le c7).le c8)
  have y2 := ((y2.le c7).le c8)
  simp only at x1 x2 y1 y2
  rw [q3, q4, hE]
  have hp10 := preN_le L (toI Z) B
  rw [toI_len, hZl] at hp10
  have wp : IntKind.i64.wrap (((preN L (toI Z) B : Nat) : Int) + 1) = ((preN L (toI Z) B : Nat) : Int) + 1 := wrap_id (by omega) (by omega)
  have k1 : decide (((preN L (toI Z) B : Nat) : Int) ≤ ((preN L (toI Z) (B + 1) : Nat) : Int)) = true := by rw [decide_eq_true_eq]; omega
  have k2 : decide (((preN L (toI Z) (B + 1) : Nat) : Int) ≤ ((preN L (toI Z) B : Nat) : Int) + 1) = true := by rw [decide_eq_true_eq]; omega
  generalize preN L (toI Z) B = pa at *
  generalize preN L (toI Z) (B + 1) = pb at *
  have k3 := decide_eq_true hcmp
  refine Stop.go ?_
  (replace hb0 := true_and True); refine Go1.mk ?_; repeat' ((first | (with_reducible refine Go1.go ?_) | ((with_reducible first | refine brv_mk ?_ ?_ | refine gsplitD ?_ ?_ | refine gsplitG ?_ ?_) <;> intro h <;> (try simp only [Bool.not_eq_true', Bool.not_eq_false'] at h) <;> replace hb0 := h) | ((first | (with_reducible refine isCall (f := 14) ?_; refine callA_nil (by kernel_rfl) ?_) | (with_reducible refine isCall0 (f := 14) ?_; refine callA0_nil (by kernel_rfl) ?_)); refine (fcmp_ok ⟨x1, x2, okN_ofN _, okN_ofN _, by omega, by omega⟩ ⟨y1, y2, okN_ofN _, okN_ofN _, by omega, by omega⟩ (fun M9 c9 => Stop.mk ?_))) | (refine And.intro ?ob ?_; case ob => ((try simp only [sxO, ne_eq, maxLen] at *); omega)) | fail) <;> (try simp (config := { maxSteps := 1000000 }) only [hb0, hv8.one, hv8.len, hv8.sl, x1.one, x2.one, y1.one, y2.one, wp, k1, k2, hasK_nil, ↓hold_pre, awayP, runOps, regK, step1, newK, genR, appR, obl, buildR, Value.cells, closeK, keepH, outV, retK, ret1, retC, RetV, Option.getD, runD, stepD, afterK, undef, simprocAttr, sxB, ↓sxD, sxE, sxTab]))
  have c9 : Mem.le M8 M9 := c9
  have hv9 := hv8.le c9
  refine Stop.go ?_
  (replace hb0 := true_and True); refine Go1.mk ?_; repeat' ((first | (with_reducible refine Go1.go ?_) | ((with_reducible first | refine brv_mk ?_ ?_ | refine gsplitD ?_ ?_ | refine gsplitG ?_ ?_) <;> intro h <;> (try simp only [Bool.not_eq_true', Bool.not_eq_false'] at h) <;> replace hb0 := h) | ((first | (with_reducible refine isCall (f := 15) ?_; refine callA_nil (by kernel_rfl) ?_) | (with_reducible refine isCall0 (f := 15) ?_; refine callA0_nil (by kernel_rfl) ?_)); refine (known29_ok (fun M10 c10 => Stop.mk ?_))) | (refine And.intro ?ob ?_; case ob => ((try simp only [sxO, ne_eq, maxLen] at *); omega)) | fail) <;> (try simp (config := { maxSteps := 1000000 }) only [hb0, k3, hv9.one, hv9.len, hv9.sl, hasK_nil, ↓hold_pre, awayP, runOps, regK, step1, newK, genR, appR, obl, buildR, Value.cells, closeK, keepH, outV, retK, ret1, retC, RetV, Option.getD, runD, stepD, afterK, undef, simprocAttr, sxB, ↓sxD, sxE, sxTab]))
  have hk := hK M10 (m2.trans (c3.trans (c4.trans (c5.trans (c6.trans (c7.trans (c8.trans (c9.trans c10))))))))
  refine Stop.go ?_
  (replace hb0 := true_and True); refine Go1.mk ?_; repeat' ((first | (with_reducible refine Go1.go ?_) | ((with_reducible first | refine brv_mk ?_ ?_ | refine gsplitD ?_ ?_ | refine gsplitG ?_ ?_) <;> intro h <;> (try simp only [Bool.not_eq_true', Bool.not_eq_false'] at h) <;> replace hb0 := h) | (refine And.intro ?ob ?_; case ob => ((try simp only [sxO, ne_eq, maxLen] at *); omega)) | fail) <;> (try simp (config := { maxSteps := 1000000 }) only [hb0, hasK_nil, ↓hold_pre, awayP, runOps, regK, step1, newK, genR, appR, obl, buildR, Value.cells, closeK, keepH, outV, retK, ret1, retC, RetV, Option.getD, runD, stepD, afterK, undef, simprocAttr, sxB, ↓sxD, sxE, sxTab]))
  exact hk
end
end Go.Proofs.Ytjapnklocibgaaa.Sx
