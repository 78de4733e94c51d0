/- Part 4 of the texts of this claim: a symbolic executor and contracts of functions. -/
import Derived.Test.YtjapnklocibgaaaOLoRP3
namespace Go.Proofs.Ytjapnklocibgaaa.Sx
open Go Go.RowKit
set_option linter.unusedVariables false
set_option linter.unusedSimpArgs false
set_option maxRecDepth 100000
set_option maxHeartbeats 8000000
attribute [local congr] fin_congr finG_congr stepG_congr step1_congr runOps_congr brv_congr obl_congr condK_congr LoopK_congr seqK_congr CutK_congr vc_congr DrawK_congr regK_congr CallK_congr AskK_congr newK_congr retC_congr ret1_congr retK_congr outV_congr closeK_congr genR_congr appR_congr finD_congr finGD_congr stepGD_congr stepD_congr CallK0_congr runD_congr okR_congr CallS_congr vcX_congr
attribute [local congr] Stop_congr
def itC (a b : IR) : Int := or3 (cmpN (valN b.l1 * (a.cost.toNat * valN a.l2)) (valN a.l1 * (b.cost.toNat * valN b.l2))) (cmpS a.pk b.pk) (cmpS a.ts b.ts)
theorem ratC_it (L : List IR) (x y : Nat) : ratC L x y = itC (itA L x) (itA L y) := rfl
section
variable {M : Mem} {K : AV → Hp → Mem → Prop}
theorem rwhole_ok (n : Nat) (hn : n < 9223372036854775808) (hK : ∀ w1 w2 M', Mem.le M M' → IsL M' u32V w1 (ofN n) → IsL M' u32V w2 (ofN 1) → FreshS M w1 → FreshS M w2 → K (.ext (.agg #[w1, w2])) [] M') : CallS Try.prog 54 [.ext (.int .i64 (n : Int)), .ext (.int .i64 1)] [] M [] K := by
  refine inlS (cs := []) Try.mixed Try.func54 rfl (by kernel_rfl) 0 rfl rfl ?_
  simp only [Try.f54]
  have hf := ofF_one hn
  refine Go1.mk ?_; repeat' ((first | (with_reducible refine Go1.go ?_) | (((with_reducible refine isCall (f := 73) ?_); refine callA_nil (by kernel_rfl) ?_; refine (rfof_ok n 1 (by omega) (by omega) (by omega) (by omega) (fun w1 w2 M1 a1 a2 a3 a4 a5 => Stop.mk ?_)))) | (refine And.intro ?_ ?_; (try simp only [sxO] at *); omega) | fail) <;> (try simp (maxSteps := 1000000) only [↓hold_pre, awayP, runOps, regK, step1, newK, genR, appR, obl, buildR, Value.cells, closeK, keepH, outV, retK, ret1, retC, RetV, Option.getD, runD, stepD, afterK, undef, simprocAttr, sxB, ↓sxD, sxE, sxTab]))
  rw [hf] at a2 a3
  have hk := hK w1 w2 M1 a1 a2 a3 a4 a5
  refine Stop.go ?_
  refine Go1.mk ?_; repeat' ((first | (with_reducible refine Go1.go ?_) | (refine And.intro ?_ ?_; (try simp only [sxO] at *); omega) | fail) <;> (try simp (maxSteps := 1000000) only [a2.one, a3.one, ↓hold_pre, awayP, runOps, regK, step1, newK, genR, appR, obl, buildR, Value.cells, closeK, keepH, outV, retK, ret1, retC, RetV, Option.getD, runD, stepD, afterK, undef, simprocAttr, sxB, ↓sxD, sxE, sxTab]))
  exact hk
theorem rnam_ok (a1 a2 b1 b2 : Bst) (hK : K (.ext (.int .i64 (if cmpS a1 b1 = 0 then cmpS a2 b2 else cmpS a1 b1))) [] M) : CallS Try.prog 68 [.ext (.agg #[.string (bs a1), .string (bs a2)]), .ext (.agg #[.string (bs b1), .string (bs b2)])] [] M [] K := by
  refine inlS (cs := []) Try.mixed Try.func68 rfl (by kernel_rfl) 0 rfl rfl ?_
  simp only [Try.f68]
  by_cases h0 : cmpS a1 b1 = 0
  · have d1 : decide (cmpS a1 b1 = 0) = true := decide_eq_true h0
    rw [if_pos h0] at hK
    refine Go1.mk ?_; repeat' ((first | (with_reducible refine Go1.go ?_) | (((with_reducible refine isCall (f := 90) ?_); refine callA_nil (by kernel_rfl) ?_; refine (strCmp_ok a1 b1 ?_))) | (((with_reducible refine isCall (f := 90) ?_); refine callA_nil (by kernel_rfl) ?_; refine (strCmp_ok a2 b2 ?_))) | (refine And.intro ?_ ?_; (try simp only [sxO] at *); omega) | fail) <;> (try simp (maxSteps := 1000000) only [d1, bs_mk, bs_app, bs_ext, bs_size, bs_toList, bs_at, bs_cells, List.take_length, imp_ga, guard_pk, guard_pk2, ↓hold_pre, awayP, runOps, regK, step1, newK, genR, appR, obl, buildR, Value.cells, closeK, keepH, outV, retK, ret1, retC, RetV, Option.getD, runD, stepD, afterK, undef, simprocAttr, sxB, ↓sxD, sxE, sxTab]))
    exact hK
  · have d1 : decide (cmpS a1 b1 = 0) = false := decide_eq_false h0
    rw [if_neg h0] at hK
    refine Go1.mk ?_; repeat' ((first | (with_reducible refine Go1.go ?_) | (((with_reducible refine isCall (f := 90) ?_); refine callA_nil (by kernel_rfl) ?_; refine (strCmp_ok a1 b1 ?_))) | (((with_reducible refine isCall (f := 90) ?_); refine callA_nil (by kernel_rfl) ?_; refine (strCmp_ok a2 b2 ?_))) | (refine And.intro ?_ ?_; (try simp only [sxO] at *); omega) | fail) <;> (try simp (maxSteps := 1000000) only [d1, bs_mk, bs_app, bs_ext, bs_size, bs_toList, bs_at, bs_cells, List.take_length, imp_ga, guard_pk, guard_pk2, ↓hold_pre, awayP, runOps, regK, step1, newK, genR, appR, obl, buildR, Value.cells, closeK, keepH, outV, retK, ret1, retC, RetV, Option.getD, runD, stepD, afterK, undef, simprocAttr, sxB, ↓sxD, sxE, sxTab]))
    exact hK
theorem rmul_whole {x : IR} {M : Mem} (hx : x.ok M) (h : chkI x = true) {k : Nat} (hk : k ≤ 1048576) : ∃ n d, mulF x.l1 x.l2 (ofN k) (ofN 1) = (0, n, d) ∧ n * valN x.l2 = valN x.l1 * k * d ∧ 0 < d ∧ chkF (ofN n) (ofN d) = true ∧ (ofN n).length ≤ 128 ∧ (ofN d).length ≤ 128 := by
  obtain ⟨h1, h2, h3, _, _⟩ := chkI_parts h
  obtain ⟨e1, e2, l1, l2, p, hg⟩ := chkI_val hx h
  have hkl : (ofN k).length ≤ 1 := ofN_len_le (by rw [show wN 1 = 4294967296 from rfl]; omega)
  have h1' : (ofN 1).length ≤ 1 := by rw [ofN_u32 (by decide) (by decide)]; decide
  have hc : chkF (ofN k) (ofN 1) = true := by
    unfold chkF
    rw [chkN_ofN (by omega), chkN_ofN (by omega), valN_ofN, valN_ofN, Nat.gcd_one_right]; rfl
  have hl := mul_len (valN x.l1) k
  rw [← e1] at hl
  have hd : (ofN (valN x.l2)).length ≤ 2 := by rw [← e2]; omega
  obtain ⟨n, d, q1, q2, q3, q4, q5, q6⟩ := exF_low (x := valN x.l1 * k) (y := valN x.l2) (k := 2) p (by omega) hd (by decide)
  refine ⟨n, d, ?_, q2, q4, ?_, by omega, by omega⟩
  · unfold mulF
    rw [h1, hc, Bool.and_self, if_pos rfl, valN_ofN, valN_ofN, Nat.mul_one, q1]
  · unfold chkF
    rw [chkN_ofN (by omega), chkN_ofN (by omega), valN_ofN, valN_ofN, q3, decide_eq_false (by omega)]; rfl
theorem before_ok (a b : IR) (ha : a.ok M) (hb : b.ok M) (ca : chkI a = true) (cb : chkI b = true) (hK : ∀ M', Mem.le M M' → K (.ext (.bool (decide (itC a b ≤ 0)))) [] M') : CallS Try.prog 49 [.ext (.agg #[.string (bs a.pk), .string (bs a.ts), a.u1, a.u2, .int .i64 a.cost]), .ext (.agg #[.string (bs b.pk), .string (bs b.ts), b.u1, b.u2, .int .i64 b.cost])] [] M [] K := by
  refine inlS (cs := []) Try.mixed Try.func49 rfl (by kernel_rfl) 0 rfl rfl ?_
  simp only [Try.f49]
  obtain ⟨_, _, _, pa1, pa2⟩ := chkI_parts ca
  obtain ⟨_, _, _, pb1, pb2⟩ := chkI_parts cb
  obtain ⟨ka, hka⟩ := Int.eq_ofNat_of_zero_le (show 0 ≤ a.cost by omega)
  obtain ⟨kb, hkb⟩ := Int.eq_ofNat_of_zero_le (show 0 ≤ b.cost by omega)
  have hkA : ka ≤ 1048576 := by omega
  have hkB : kb ≤ 1048576 := by omega
  obtain ⟨n1, d1, m1, m2, m3, m4, m5, m6⟩ := rmul_whole ha ca (k := kb) (by omega)
  obtain ⟨n2, d2, r1, r2, r3, r4, r5, r6⟩ := rmul_whole hb cb (k := ka) (by omega)
  have va := (chkI_val ha ca).2.2.2.2.1
  have vb := (chkI_val hb cb).2.2.2.2.1
  have hcmp : cmpF (ofN n1) (ofN d1) (ofN n2) (ofN d2) = - cmpN (valN b.l1 * (a.cost.toNat * valN a.l2)) (valN a.l1 * (b.cost.toNat * valN b.l2)) := by
    rw [cmpF_of m4 r4, ← cmpN_anti, hka, hkb, Int.toNat_natCast, Int.toNat_natCast, ← cmpN_mul (a := n1 * d2) (Nat.mul_pos va vb), ← cmpN_mul (a := valN a.l1 * (kb * valN b.l2)) (Nat.mul_pos m3 r3)]
    have e1 : n1 * d2 * (valN a.l2 * valN b.l2) = valN a.l1 * (kb * valN b.l2) * (d1 * d2) := by
      calc n1 * d2 * (valN a.l2 * valN b.l2) = (n1 * valN a.l2) * (d2 * valN b.l2) := by ac_rfl
        _ = (valN a.l1 * kb * d1) * (d2 * valN b.l2) := by rw [m2]
        _ = _ := by ac_rfl
    have e2 : n2 * d1 * (valN a.l2 * valN b.l2) = valN b.l1 * (ka * valN a.l2) * (d1 * d2) := by
      calc n2 * d1 * (valN a.l2 * valN b.l2) = (n2 * valN b.l2) * (d1 * valN a.l2) := by ac_rfl
        _ = (valN b.l1 * ka * d2) * (d1 * valN a.l2) := by rw [r2]
        _ = _ := by ac_rfl
    rw [e1, e2]
  unfold itC or3 at hK
  generalize cmpN (valN b.l1 * (a.cost.toNat * valN a.l2)) (valN a.l1 * (b.cost.toNat * valN b.l2)) = q at *
  obtain ⟨pk1, ts1, x1, x2, y1, y2, co1⟩ := a
  obtain ⟨pk2, ts2, z1, z2, o1, o2, co2⟩ := b
  simp only at hka hkb m1 r1 hK ⊢
  subst hka hkb
  have hFa : IsF M x1 x2 y1 y2 := ha.f
  have hFb : IsF M z1 z2 o1 o2 := hb.f
  have h1l : (ofN 1).length ≤ 1 := by rw [ofN_u32 (by decide) (by decide)]; decide
  have hkal : (ofN ka).length ≤ 1 := ofN_len_le (by rw [show wN 1 = 4294967296 from rfl]; omega)
  have hkbl : (ofN kb).length ≤ 1 := ofN_len_le (by rw [show wN 1 = 4294967296 from rfl]; omega)
  clear m2 r2 va vb
  refine Go1.mk ?_; repeat' ((first | (with_reducible refine Go1.go ?_) | (((with_reducible refine isCall0 (f := 54) ?_); refine callA0_nil (by kernel_rfl) ?_; refine (rwhole_ok kb (by omega) (fun w1 w2 M1 a1 a2 a3 a4 a5 => Stop.mk ?_)))) | ((with_reducible refine isDraw [some 11, some 12, some 13, some 14, some 15, some 16, some 10, some 17, some 18, some 5, none, some 6] (by decide) ?_); refine draw_rule [(0, []), (1, []), (2, [1]), (3, [1]), (9, [1, 3]), (4, [1]), (5, []), (6, []), (7, []), (8, []), (10, []), (11, [])] [[], [0], [], [2], [2, 3], [0, 1, 2, 3, 4], [0, 1, 2, 3, 4, 5], [0, 1, 2, 3, 4, 5, 6], [0, 1, 2, 3, 4, 5, 6], [], [0, 1, 2, 3, 4, 5, 6, 7, 9], [0, 1, 2, 3, 4, 5, 6, 7, 8, 9, 10]] [11, 12, 13, 14, 15, 16, 10, 17, 18, 5] [] (by kernel_rfl) (by kernel_rfl) (by kernel_rfl) (by kernel_rfl) (by exact trivial) ?_) | ((with_reducible refine isDraw [some 20, some 21, some 22, some 23, some 24, some 25, some 19, some 26, some 27, some 7, none, some 8] (by decide) ?_); refine draw_rule [(0, []), (1, []), (2, [1]), (3, [1]), (9, [1, 3]), (4, [1]), (5, []), (6, []), (7, []), (8, []), (10, []), (11, [])] [[], [0], [], [2], [2, 3], [0, 1, 2, 3, 4], [0, 1, 2, 3, 4, 5], [0, 1, 2, 3, 4, 5, 6], [0, 1, 2, 3, 4, 5, 6], [], [0, 1, 2, 3, 4, 5, 6, 7, 9], [0, 1, 2, 3, 4, 5, 6, 7, 8, 9, 10]] [20, 21, 22, 23, 24, 25, 19, 26, 27, 7] [] (by kernel_rfl) (by kernel_rfl) (by kernel_rfl) (by kernel_rfl) (by exact trivial) ?_) | (refine And.intro ?_ ?_; (try simp only [sxO] at *); omega) | fail) <;> (try simp (maxSteps := 1000000) only [hFa.n.one, hFa.d.one, hFb.n.one, hFb.d.one, bs_mk, bs_app, bs_ext, bs_size, bs_toList, bs_at, bs_cells, List.take_length, imp_ga, guard_pk, guard_pk2, ↓hold_pre, awayP, runOps, regK, step1, newK, genR, appR, obl, buildR, Value.cells, closeK, keepH, outV, retK, ret1, retC, RetV, Option.getD, runD, stepD, afterK, undef, simprocAttr, sxB, ↓sxD, sxE, sxTab]))
  have a1 : Mem.le M M1 := a1
  have hFa := hFa.le a1
  have hFb := hFb.le a1
  refine Stop.go ?_
  refine Go1.mk ?_; repeat' ((first | (with_reducible refine Go1.go ?_) | (((with_reducible refine isCall0 (f := 55) ?_); refine callA0_nil (by kernel_rfl) ?_; refine (rfmul_ok hFa ⟨a2, a3, okN_ofN _, okN_ofN _, by omega, by omega⟩ (fun v1 v2 M2 b1 b2 b3 b4 b5 => Stop.mk ?_)))) | ((with_reducible refine isDraw [some 11, some 12, some 13, some 14, some 15, some 16, some 10, some 17, some 18, some 5, none, some 6] (by decide) ?_); refine draw_rule [(0, []), (1, []), (2, [1]), (3, [1]), (9, [1, 3]), (4, [1]), (5, []), (6, []), (7, []), (8, []), (10, []), (11, [])] [[], [0], [], [2], [2, 3], [0, 1, 2, 3, 4], [0, 1, 2, 3, 4, 5], [0, 1, 2, 3, 4, 5, 6], [0, 1, 2, 3, 4, 5, 6], [], [0, 1, 2, 3, 4, 5, 6, 7, 9], [0, 1, 2, 3, 4, 5, 6, 7, 8, 9, 10]] [11, 12, 13, 14, 15, 16, 10, 17, 18, 5] [] (by kernel_rfl) (by kernel_rfl) (by kernel_rfl) (by kernel_rfl) (by exact trivial) ?_) | ((with_reducible refine isDraw [some 20, some 21, some 22, some 23, some 24, some 25, some 19, some 26, some 27, some 7, none, some 8] (by decide) ?_); refine draw_rule [(0, []), (1, []), (2, [1]), (3, [1]), (9, [1, 3]), (4, [1]), (5, []), (6, []), (7, []), (8, []), (10, []), (11, [])] [[], [0], [], [2], [2, 3], [0, 1, 2, 3, 4], [0, 1, 2, 3, 4, 5], [0, 1, 2, 3, 4, 5, 6], [0, 1, 2, 3, 4, 5, 6], [], [0, 1, 2, 3, 4, 5, 6, 7, 9], [0, 1, 2, 3, 4, 5, 6, 7, 8, 9, 10]] [20, 21, 22, 23, 24, 25, 19, 26, 27, 7] [] (by kernel_rfl) (by kernel_rfl) (by kernel_rfl) (by kernel_rfl) (by exact trivial) ?_) | (refine And.intro ?_ ?_; (try simp only [sxO] at *); omega) | fail) <;> (try simp (maxSteps := 1000000) only [hFa.n.one, hFa.d.one, hFb.n.one, hFb.d.one, a2.one, a3.one, bs_mk, bs_app, bs_ext, bs_size, bs_toList, bs_at, bs_cells, List.take_length, imp_ga, guard_pk, guard_pk2, ↓hold_pre, awayP, runOps, regK, step1, newK, genR, appR, obl, buildR, Value.cells, closeK, keepH, outV, retK, ret1, retC, RetV, Option.getD, runD, stepD, afterK, undef, simprocAttr, sxB, ↓sxD, sxE, sxTab]))
  have b1 : Mem.le M1 M2 := b1
  have hFb := hFb.le b1
  rw [m1] at b2 b3
  have b2 : IsL M2 u32V v1 (ofN n1) := b2
  have b3 : IsL M2 u32V v2 (ofN d1) := b3
  refine Stop.go ?_
  refine Go1.mk ?_; repeat' ((first | (with_reducible refine Go1.go ?_) | (((with_reducible refine isCall0 (f := 54) ?_); refine callA0_nil (by kernel_rfl) ?_; refine (rwhole_ok ka (by omega) (fun w3 w4 M3 c1 c2 c3 c4 c5 => Stop.mk ?_)))) | ((with_reducible refine isDraw [some 11, some 12, some 13, some 14, some 15, some 16, some 10, some 17, some 18, some 5, none, some 6] (by decide) ?_); refine draw_rule [(0, []), (1, []), (2, [1]), (3, [1]), (9, [1, 3]), (4, [1]), (5, []), (6, []), (7, []), (8, []), (10, []), (11, [])] [[], [0], [], [2], [2, 3], [0, 1, 2, 3, 4], [0, 1, 2, 3, 4, 5], [0, 1, 2, 3, 4, 5, 6], [0, 1, 2, 3, 4, 5, 6], [], [0, 1, 2, 3, 4, 5, 6, 7, 9], [0, 1, 2, 3, 4, 5, 6, 7, 8, 9, 10]] [11, 12, 13, 14, 15, 16, 10, 17, 18, 5] [] (by kernel_rfl) (by kernel_rfl) (by kernel_rfl) (by kernel_rfl) (by exact trivial) ?_) | ((with_reducible refine isDraw [some 20, some 21, some 22, some 23, some 24, some 25, some 19, some 26, some 27, some 7, none, some 8] (by decide) ?_); refine draw_rule [(0, []), (1, []), (2, [1]), (3, [1]), (9, [1, 3]), (4, [1]), (5, []), (6, []), (7, []), (8, []), (10, []), (11, [])] [[], [0], [], [2], [2, 3], [0, 1, 2, 3, 4], [0, 1, 2, 3, 4, 5], [0, 1, 2, 3, 4, 5, 6], [0, 1, 2, 3, 4, 5, 6], [], [0, 1, 2, 3, 4, 5, 6, 7, 9], [0, 1, 2, 3, 4, 5, 6, 7, 8, 9, 10]] [20, 21, 22, 23, 24, 25, 19, 26, 27, 7] [] (by kernel_rfl) (by kernel_rfl) (by kernel_rfl) (by kernel_rfl) (by exact trivial) ?_) | (refine And.intro ?_ ?_; (try simp only [sxO] at *); omega) | fail) <;> (try simp (maxSteps := 1000000) only [hFb.n.one, hFb.d.one, b2.one, b3.one, bs_mk, bs_app, bs_ext, bs_size, bs_toList, bs_at, bs_cells, List.take_length, imp_ga, guard_pk, guard_pk2, ↓hold_pre, awayP, runOps, regK, step1, newK, genR, appR, obl, buildR, Value.cells, closeK, keepH, outV, retK, ret1, retC, RetV, Option.getD, runD, stepD, afterK, undef, simprocAttr, sxB, ↓sxD, sxE, sxTab]))
  have c1 : Mem.le M2 M3 := c1
  have hFb := hFb.le c1
  have b2 := b2.le c1
  have b3 := b3.le c1
  refine Stop.go ?_
  refine Go1.mk ?_; repeat' ((first | (with_reducible refine Go1.go ?_) | (((with_reducible refine isCall0 (f := 55) ?_); refine callA0_nil (by kernel_rfl) ?_; refine (rfmul_ok hFb ⟨c2, c3, okN_ofN _, okN_ofN _, by omega, by omega⟩ (fun v3 v4 M4 e1 e2 e3 e4 e5 => Stop.mk ?_)))) | ((with_reducible refine isDraw [some 11, some 12, some 13, some 14, some 15, some 16, some 10, some 17, some 18, some 5, none, some 6] (by decide) ?_); refine draw_rule [(0, []), (1, []), (2, [1]), (3, [1]), (9, [1, 3]), (4, [1]), (5, []), (6, []), (7, []), (8, []), (10, []), (11, [])] [[], [0], [], [2], [2, 3], [0, 1, 2, 3, 4], [0, 1, 2, 3, 4, 5], [0, 1, 2, 3, 4, 5, 6], [0, 1, 2, 3, 4, 5, 6], [], [0, 1, 2, 3, 4, 5, 6, 7, 9], [0, 1, 2, 3, 4, 5, 6, 7, 8, 9, 10]] [11, 12, 13, 14, 15, 16, 10, 17, 18, 5] [] (by kernel_rfl) (by kernel_rfl) (by kernel_rfl) (by kernel_rfl) (by exact trivial) ?_) | ((with_reducible refine isDraw [some 20, some 21, some 22, some 23, some 24, some 25, some 19, some 26, some 27, some 7, none, some 8] (by decide) ?_); refine draw_rule [(0, []), (1, []), (2, [1]), (3, [1]), (9, [1, 3]), (4, [1]), (5, []), (6, []), (7, []), (8, []), (10, []), (11, [])] [[], [0], [], [2], [2, 3], [0, 1, 2, 3, 4], [0, 1, 2, 3, 4, 5], [0, 1, 2, 3, 4, 5, 6], [0, 1, 2, 3, 4, 5, 6], [], [0, 1, 2, 3, 4, 5, 6, 7, 9], [0, 1, 2, 3, 4, 5, 6, 7, 8, 9, 10]] [20, 21, 22, 23, 24, 25, 19, 26, 27, 7] [] (by kernel_rfl) (by kernel_rfl) (by kernel_rfl) (by kernel_rfl) (by exact trivial) ?_) | (refine And.intro ?_ ?_; (try simp only [sxO] at *); omega) | fail) <;> (try simp (maxSteps := 1000000) only [hFb.n.one, hFb.d.one, b2.one, b3.one, c2.one, c3.one, bs_mk, bs_app, bs_ext, bs_size, bs_toList, bs_at, bs_cells, List.take_length, imp_ga, guard_pk, guard_pk2, ↓hold_pre, awayP, runOps, regK, step1, newK, genR, appR, obl, buildR, Value.cells, closeK, keepH, outV, retK, ret1, retC, RetV, Option.getD, runD, stepD, afterK, undef, simprocAttr, sxB, ↓sxD, sxE, sxTab]))
  have e1 : Mem.le M3 M4 := e1
  have b2 := b2.le e1
  have b3 := b3.le e1
  rw [r1] at e2 e3
  have e2 : IsL M4 u32V v3 (ofN n2) := e2
  have e3 : IsL M4 u32V v4 (ofN d2) := e3
  refine Stop.go ?_
  refine Go1.mk ?_; repeat' ((first | (with_reducible refine Go1.go ?_) | (((with_reducible refine isCall (f := 67) ?_); refine callA_nil (by kernel_rfl) ?_; refine (rfcmp_ok ⟨b2, b3, okN_ofN _, okN_ofN _, by omega, by omega⟩ ⟨e2, e3, okN_ofN _, okN_ofN _, by omega, by omega⟩ (fun M5 f1 => Stop.mk ?_)))) | ((with_reducible refine isDraw [some 11, some 12, some 13, some 14, some 15, some 16, some 10, some 17, some 18, some 5, none, some 6] (by decide) ?_); refine draw_rule [(0, []), (1, []), (2, [1]), (3, [1]), (9, [1, 3]), (4, [1]), (5, []), (6, []), (7, []), (8, []), (10, []), (11, [])] [[], [0], [], [2], [2, 3], [0, 1, 2, 3, 4], [0, 1, 2, 3, 4, 5], [0, 1, 2, 3, 4, 5, 6], [0, 1, 2, 3, 4, 5, 6], [], [0, 1, 2, 3, 4, 5, 6, 7, 9], [0, 1, 2, 3, 4, 5, 6, 7, 8, 9, 10]] [11, 12, 13, 14, 15, 16, 10, 17, 18, 5] [] (by kernel_rfl) (by kernel_rfl) (by kernel_rfl) (by kernel_rfl) (by exact trivial) ?_) | ((with_reducible refine isDraw [some 20, some 21, some 22, some 23, some 24, some 25, some 19, some 26, some 27, some 7, none, some 8] (by decide) ?_); refine draw_rule [(0, []), (1, []), (2, [1]), (3, [1]), (9, [1, 3]), (4, [1]), (5, []), (6, []), (7, []), (8, []), (10, []), (11, [])] [[], [0], [], [2], [2, 3], [0, 1, 2, 3, 4], [0, 1, 2, 3, 4, 5], [0, 1, 2, 3, 4, 5, 6], [0, 1, 2, 3, 4, 5, 6], [], [0, 1, 2, 3, 4, 5, 6, 7, 9], [0, 1, 2, 3, 4, 5, 6, 7, 8, 9, 10]] [20, 21, 22, 23, 24, 25, 19, 26, 27, 7] [] (by kernel_rfl) (by kernel_rfl) (by kernel_rfl) (by kernel_rfl) (by exact trivial) ?_) | (refine And.intro ?_ ?_; (try simp only [sxO] at *); omega) | fail) <;> (try simp (maxSteps := 1000000) only [b2.one, b3.one, e2.one, e3.one, bs_mk, bs_app, bs_ext, bs_size, bs_toList, bs_at, bs_cells, List.take_length, imp_ga, guard_pk, guard_pk2, ↓hold_pre, awayP, runOps, regK, step1, newK, genR, appR, obl, buildR, Value.cells, closeK, keepH, outV, retK, ret1, retC, RetV, Option.getD, runD, stepD, afterK, undef, simprocAttr, sxB, ↓sxD, sxE, sxTab]))
  have f1 : Mem.le M4 M5 := f1
  have hk := hK M5 ((((a1.trans b1).trans c1).trans e1).trans f1)
  rw [hcmp]
  by_cases q0 : q = 0
  · have d1 : decide (-q = 0) = true := by rw [decide_eq_true_eq]; omega
    rw [if_pos q0] at hk
    refine Stop.go ?_
    refine Go1.mk ?_; repeat' ((first | (with_reducible refine Go1.go ?_) | (((with_reducible refine isCall (f := 68) ?_); refine callA_nil (by kernel_rfl) ?_; refine (rnam_ok pk1 ts1 pk2 ts2 ?_))) | ((with_reducible refine isDraw [some 11, some 12, some 13, some 14, some 15, some 16, some 10, some 17, some 18, some 5, none, some 6] (by decide) ?_); refine draw_rule [(0, []), (1, []), (2, [1]), (3, [1]), (9, [1, 3]), (4, [1]), (5, []), (6, []), (7, []), (8, []), (10, []), (11, [])] [[], [0], [], [2], [2, 3], [0, 1, 2, 3, 4], [0, 1, 2, 3, 4, 5], [0, 1, 2, 3, 4, 5, 6], [0, 1, 2, 3, 4, 5, 6], [], [0, 1, 2, 3, 4, 5, 6, 7, 9], [0, 1, 2, 3, 4, 5, 6, 7, 8, 9, 10]] [11, 12, 13, 14, 15, 16, 10, 17, 18, 5] [] (by kernel_rfl) (by kernel_rfl) (by kernel_rfl) (by kernel_rfl) (by exact trivial) ?_) | ((with_reducible refine isDraw [some 20, some 21, some 22, some 23, some 24, some 25, some 19, some 26, some 27, some 7, none, some 8] (by decide) ?_); refine draw_rule [(0, []), (1, []), (2, [1]), (3, [1]), (9, [1, 3]), (4, [1]), (5, []), (6, []), (7, []), (8, []), (10, []), (11, [])] [[], [0], [], [2], [2, 3], [0, 1, 2, 3, 4], [0, 1, 2, 3, 4, 5], [0, 1, 2, 3, 4, 5, 6], [0, 1, 2, 3, 4, 5, 6], [], [0, 1, 2, 3, 4, 5, 6, 7, 9], [0, 1, 2, 3, 4, 5, 6, 7, 8, 9, 10]] [20, 21, 22, 23, 24, 25, 19, 26, 27, 7] [] (by kernel_rfl) (by kernel_rfl) (by kernel_rfl) (by kernel_rfl) (by exact trivial) ?_) | (refine And.intro ?_ ?_; (try simp only [sxO] at *); omega) | fail) <;> (try simp (maxSteps := 1000000) only [d1, bs_mk, bs_app, bs_ext, bs_size, bs_toList, bs_at, bs_cells, List.take_length, imp_ga, guard_pk, guard_pk2, ↓hold_pre, awayP, runOps, regK, step1, newK, genR, appR, obl, buildR, Value.cells, closeK, keepH, outV, retK, ret1, retC, RetV, Option.getD, runD, stepD, afterK, undef, simprocAttr, sxB, ↓sxD, sxE, sxTab]))
    exact hk
  · have d1 : decide (-q = 0) = false := by rw [decide_eq_false_iff_not]; omega
    have d2 : decide (0 < -q) = decide (q ≤ 0) := decide_eq_decide.2 (by omega)
    rw [if_neg q0] at hk
    refine Stop.go ?_
    refine Go1.mk ?_; repeat' ((first | (with_reducible refine Go1.go ?_) | ((with_reducible refine isDraw [some 11, some 12, some 13, some 14, some 15, some 16, some 10, some 17, some 18, some 5, none, some 6] (by decide) ?_); refine draw_rule [(0, []), (1, []), (2, [1]), (3, [1]), (9, [1, 3]), (4, [1]), (5, []), (6, []), (7, []), (8, []), (10, []), (11, [])] [[], [0], [], [2], [2, 3], [0, 1, 2, 3, 4], [0, 1, 2, 3, 4, 5], [0, 1, 2, 3, 4, 5, 6], [0, 1, 2, 3, 4, 5, 6], [], [0, 1, 2, 3, 4, 5, 6, 7, 9], [0, 1, 2, 3, 4, 5, 6, 7, 8, 9, 10]] [11, 12, 13, 14, 15, 16, 10, 17, 18, 5] [] (by kernel_rfl) (by kernel_rfl) (by kernel_rfl) (by kernel_rfl) (by exact trivial) ?_) | ((with_reducible refine isDraw [some 20, some 21, some 22, some 23, some 24, some 25, some 19, some 26, some 27, some 7, none, some 8] (by decide) ?_); refine draw_rule [(0, []), (1, []), (2, [1]), (3, [1]), (9, [1, 3]), (4, [1]), (5, []), (6, []), (7, []), (8, []), (10, []), (11, [])] [[], [0], [], [2], [2, 3], [0, 1, 2, 3, 4], [0, 1, 2, 3, 4, 5], [0, 1, 2, 3, 4, 5, 6], [0, 1, 2, 3, 4, 5, 6], [], [0, 1, 2, 3, 4, 5, 6, 7, 9], [0, 1, 2, 3, 4, 5, 6, 7, 8, 9, 10]] [20, 21, 22, 23, 24, 25, 19, 26, 27, 7] [] (by kernel_rfl) (by kernel_rfl) (by kernel_rfl) (by kernel_rfl) (by exact trivial) ?_) | (refine And.intro ?_ ?_; (try simp only [sxO] at *); omega) | fail) <;> (try simp (maxSteps := 1000000) only [d1, d2, bs_mk, bs_app, bs_ext, bs_size, bs_toList, bs_at, bs_cells, List.take_length, imp_ga, guard_pk, guard_pk2, ↓hold_pre, awayP, runOps, regK, step1, newK, genR, appR, obl, buildR, Value.cells, closeK, keepH, outV, retK, ret1, retC, RetV, Option.getD, runD, stepD, afterK, undef, simprocAttr, sxB, ↓sxD, sxE, sxTab]))
    exact hk
end
end Go.Proofs.Ytjapnklocibgaaa.Sx
namespace Go.Proofs.Ytjapnklocibgaaa.Sx
open Go Go.RowKit
set_option linter.unusedVariables false
set_option linter.unusedSimpArgs false
set_option maxRecDepth 100000
set_option maxHeartbeats 8000000
attribute [local congr] fin_congr finG_congr stepG_congr step1_congr runOps_congr brv_congr obl_congr condK_congr LoopK_congr seqK_congr CutK_congr vc_congr DrawK_congr regK_congr CallK_congr AskK_congr newK_congr retC_congr ret1_congr retK_congr outV_congr closeK_congr genR_congr appR_congr finD_congr finGD_congr stepGD_congr stepD_congr CallK0_congr runD_congr okR_congr CallS_congr vcX_congr
attribute [local congr] Stop_congr
theorem isPt_add {v : Value} (o : Nat) (h : isPt v = true) : isPt (addP v o) = true := by
  unfold isPt at h
  split at h
  · rfl
  · cases h
theorem addP_addP {v : Value} (a b : Nat) (h : isPt v = true) : addP (addP v a) b = addP v (a + b) := by
  unfold isPt at h
  split at h
  · by_cases ha : a = 0 <;> by_cases hb : b = 0 <;> simp [addP, Addr.add, ha, hb, Nat.add_assoc]
  · cases h
section
variable {M : Mem} {K : AV → Hp → Mem → Prop} {u : Value} {L : List IR}
def rcSt29 (M : Mem) (u : Value) (i : Nat) : St := { env := [(3, .ext (.int .i64 (i : Int))), (0, .ext u)], hp := [], M := M, kb := 0, fx := [] }
theorem rcheck29_ok (hu : IsR M 5 IR.c u L) (hL : okIL M L) (hb : L.length < 1000000) (hK : ∀ M', Mem.le M M' → K (.ext (.bool (chkIL L))) [] M') : CallS Try.prog 26 [.ext u] [] M [] K := by
  refine inlS (cs := []) Try.mixed Try.func26 rfl (by kernel_rfl) 0 rfl rfl ?_
  simp only [Try.f26]
  unfold chkIL at hK
  by_cases h64 : L.length ≤ 64
  case neg =>
    have d1 : decide ((64 : Int) < (L.length : Int)) = true := by rw [decide_eq_true_eq]; omega
    rw [decide_eq_false h64] at hK
    have hk := hK M (Mem.le.refl _)
    refine Go1.mk ?_; repeat' ((first | (with_reducible refine Go1.go ?_) | (refine And.intro ?_ ?_; (try simp only [sxO] at *); omega) | fail) <;> (try simp (maxSteps := 1000000) only [hu.one, hu.len, hu.sl, d1, ↓hold_pre, awayP, runOps, regK, step1, newK, genR, appR, obl, buildR, Value.cells, closeK, keepH, outV, retK, ret1, retC, RetV, Option.getD, runD, stepD, afterK, undef, simprocAttr, sxB, ↓sxD, sxE, sxTab]))
    exact hk
  have d1 : decide ((64 : Int) < (L.length : Int)) = false := by rw [decide_eq_false_iff_not]; omega
  rw [decide_eq_true h64, Bool.true_and] at hK
  refine Go1.mk ?_; repeat' ((first | (with_reducible refine Go1.go ?_) | (refine And.intro ?_ ?_; (try simp only [sxO] at *); omega) | fail) <;> (try simp (maxSteps := 1000000) only [hu.one, hu.len, hu.sl, d1, ↓hold_pre, awayP, runOps, regK, step1, newK, genR, appR, obl, buildR, Value.cells, closeK, keepH, outV, retK, ret1, retC, RetV, Option.getD, runD, stepD, afterK, undef, simprocAttr, sxB, ↓sxD, sxE, sxTab]))
  refine ⟨fun m z => ∃ M' i, m = L.length - i ∧ i ≤ L.length ∧ Mem.le M M' ∧ (∀ x ∈ L.take i, chkI x = true) ∧ z = rcSt29 M' u i,
    ⟨L.length, rcSt29 M u 0, le_sub ⟨rfl, rfl, trivial⟩ trivial rfl rfl rfl (keepLt0 _), ⟨M, 0, by omega, by omega, Mem.le.refl _, by simp, rfl⟩⟩, ?_⟩
  rintro m z ⟨M2, i, rfl, hi, hM, hp, rfl⟩
  have hu2 := hu.le hM
  have hL2 := hL.le hM
  by_cases hlt : i < L.length
  case neg =>
    obtain rfl : i = L.length := by omega
    have e1 : decide ((L.length : Int) < (L.length : Int)) = false := by simp
    have hk := hK M2 hM
    rw [List.take_of_length_le (Nat.le_refl _)] at hp
    rw [List.all_eq_true.2 hp] at hk
    refine Go1.mk ?_; repeat' ((first | (with_reducible refine Go1.go ?_) | (refine And.intro ?_ ?_; (try simp only [sxO] at *); omega) | fail) <;> (try simp (maxSteps := 1000000) only [rcSt29, hu2.one, hu2.len, hu2.sl, e1, ↓hold_pre, awayP, runOps, regK, step1, newK, genR, appR, obl, buildR, Value.cells, closeK, keepH, outV, retK, ret1, retC, RetV, Option.getD, runD, stepD, afterK, undef, simprocAttr, sxB, ↓sxD, sxE, sxTab]))
    exact hk
  have e1 : decide ((i : Int) < (L.length : Int)) = true := by rw [decide_eq_true_eq]; omega
  have b1 : (0 : Int) ≤ (i : Int) := by omega
  have b2 : (i : Int) < (L.length : Int) := by omega
  have hnn := hu2.nn hlt
  have p1 := hu2.pt hlt
  have hac := hu2.part (P := Try.prog) (fun _ => rfl) tk34 tz34 (o := 2) hlt (by decide)
  have hmem := List.getElem_mem hlt
  have hF := hL2 _ hmem
  have hnx : chkI L[i] = true → ∀ x ∈ L.take (i + 1), chkI x = true := fun hx x hm => by
    rw [List.take_add_one, List.getElem?_eq_getElem hlt] at hm
    rcases List.mem_append.1 hm with h1 | h1
    · exact hp x h1
    · have : x = L[i] := by simpa using h1
      rw [this]; exact hx
  have wi : IntKind.i64.wrap ((i : Int) + 1) = ((i + 1 : Nat) : Int) := succ_i (by omega)
  have hall : chkI L[i] = false → L.all chkI = false := fun hc => by
    cases h : L.all chkI with
    | false => rfl
    | true => rw [List.all_eq_true.1 h _ hmem] at hc; cases hc
  have hfx := fun M3 (h : Mem.le M2 M3) => (hu2.le h).atF (P := Try.prog) (T := 32) (fun _ => rfl) tk32 tz32 hlt (o := 2) (v := L[i].u1) rfl
  have hfy := fun M3 (h : Mem.le M2 M3) => (hu2.le h).atF (P := Try.prog) (T := 32) (fun _ => rfl) tk32 tz32 hlt (o := 3) (v := L[i].u2) rfl
  have hfz := fun M3 (h : Mem.le M2 M3) => (hu2.le h).atF (P := Try.prog) (T := 3) (fun _ => rfl) tk3 tz3 hlt (o := 4) (v := .int .i64 L[i].cost) rfl
  generalize L[i] = x at *
  obtain ⟨pk, ts, x1, x2, y1, y2, co⟩ := x
  have hac : lookM Try.prog 34 M2 (addP (elemP u 5 i) 2) = some (.agg #[x1, x2]) := hac
  have hF1 : IsF M2 x1 x2 y1 y2 := hF.f
  simp only at hfx hfy hfz
  cases hc : chkF y1 y2 with
  | false =>
    refine Go1.mk ?_; repeat' ((first | (with_reducible refine Go1.go ?_) | (((with_reducible refine isCall (f := 50) ?_); refine callA_nil (by kernel_rfl) ?_; refine (rfcheck_ok hF1.n hF1.d hF1.on hF1.od hF1.bn hF1.bd (fun M3 c1 => Stop.mk ?_)))) | (refine And.intro ?_ ?_; (try simp only [sxO] at *); omega) | fail) <;> (try simp (maxSteps := 1000000) only [rcSt29, hu2.one, hu2.len, hu2.sl, hnn, p1, e1, b1, b2, hac, hF1.n.one, hF1.d.one, hc, ↓hold_pre, awayP, runOps, regK, step1, newK, genR, appR, obl, buildR, Value.cells, closeK, keepH, outV, retK, ret1, retC, RetV, Option.getD, runD, stepD, afterK, undef, simprocAttr, sxB, ↓sxD, sxE, sxTab]))
    have hk := hK M3 (hM.trans c1)
    rw [hall (by unfold chkI; simp only; rw [hc]; rfl)] at hk
    have hu3 := hu2.le c1
    refine Stop.go ?_
    refine Go1.mk ?_; repeat' ((first | (with_reducible refine Go1.go ?_) | (refine And.intro ?_ ?_; (try simp only [sxO] at *); omega) | fail) <;> (try simp (maxSteps := 1000000) only [hu3.one, hu3.len, hu3.sl, hnn, p1, e1, b1, b2, hF1.n.one, hF1.d.one, hc, ↓hold_pre, awayP, runOps, regK, step1, newK, genR, appR, obl, buildR, Value.cells, closeK, keepH, outV, retK, ret1, retC, RetV, Option.getD, runD, stepD, afterK, undef, simprocAttr, sxB, ↓sxD, sxE, sxTab]))
    exact hk
  | true =>
    refine Go1.mk ?_; repeat' ((first | (with_reducible refine Go1.go ?_) | (((with_reducible refine isCall (f := 50) ?_); refine callA_nil (by kernel_rfl) ?_; refine (rfcheck_ok hF1.n hF1.d hF1.on hF1.od hF1.bn hF1.bd (fun M3 c1 => Stop.mk ?_)))) | (refine And.intro ?_ ?_; (try simp only [sxO] at *); omega) | fail) <;> (try simp (maxSteps := 1000000) only [rcSt29, hu2.one, hu2.len, hu2.sl, hnn, p1, e1, b1, b2, hac, hF1.n.one, hF1.d.one, hc, ↓hold_pre, awayP, runOps, regK, step1, newK, genR, appR, obl, buildR, Value.cells, closeK, keepH, outV, retK, ret1, retC, RetV, Option.getD, runD, stepD, afterK, undef, simprocAttr, sxB, ↓sxD, sxE, sxTab]))
    have c1 : Mem.le M2 M3 := c1
    have hu3 := hu2.le c1
    have hF3 := hF1.le c1
    have g3 := hfz M3 c1
    have p2 := isPt_add 2 p1
    have p3 : addP (addP (elemP u 5 i) 2) 0 = addP (elemP u 5 i) 2 := addP_addP 2 0 p1
    have p4 : addP (addP (elemP u 5 i) 2) 1 = addP (elemP u 5 i) 3 := addP_addP 2 1 p1
    have g1 := hfx M3 c1
    have g2 := hfy M3 c1
    rw [← p3] at g1
    rw [← p4] at g2
    by_cases h0 : y1.length ≤ 1
    case neg =>
      have d0 : decide ((1 : Int) < (y1.length : Int)) = true := by rw [decide_eq_true_eq]; omega
      have q0 : decide (y1.length ≤ 1) = false := decide_eq_false h0
      have hk := hK M3 (hM.trans c1)
      rw [hall (by unfold chkI; simp only; rw [hc, q0]; simp)] at hk
      refine Stop.go ?_
      refine Go1.mk ?_; repeat' ((first | (with_reducible refine Go1.go ?_) | (refine And.intro ?_ ?_; (try simp only [sxO] at *); omega) | fail) <;> (try simp (maxSteps := 1000000) only [hu3.one, hu3.len, hu3.sl, hnn, p1, p2, e1, b1, b2, hF3.n.one, hF3.d.one, hc, hF3.n.len, hF3.n.sl, hF3.d.len, hF3.d.sl, g1, g2, g3, d0, ↓hold_pre, awayP, runOps, regK, step1, newK, genR, appR, obl, buildR, Value.cells, closeK, keepH, outV, retK, ret1, retC, RetV, Option.getD, runD, stepD, afterK, undef, simprocAttr, sxB, ↓sxD, sxE, sxTab]))
      exact hk
    have d0 : decide ((1 : Int) < (y1.length : Int)) = false := by rw [decide_eq_false_iff_not]; omega
    have q0 : decide (y1.length ≤ 1) = true := decide_eq_true h0
    by_cases h1 : y2.length ≤ 1
    case neg =>
      have d1 : decide ((1 : Int) < (y2.length : Int)) = true := by rw [decide_eq_true_eq]; omega
      have q1 : decide (y2.length ≤ 1) = false := decide_eq_false h1
      have hk := hK M3 (hM.trans c1)
      rw [hall (by unfold chkI; simp only; rw [hc, q1]; simp)] at hk
      refine Stop.go ?_
      refine Go1.mk ?_; repeat' ((first | (with_reducible refine Go1.go ?_) | (refine And.intro ?_ ?_; (try simp only [sxO] at *); omega) | fail) <;> (try simp (maxSteps := 1000000) only [hu3.one, hu3.len, hu3.sl, hnn, p1, p2, e1, b1, b2, hF3.n.one, hF3.d.one, hc, hF3.n.len, hF3.n.sl, hF3.d.len, hF3.d.sl, g1, g2, g3, d0, d1, ↓hold_pre, awayP, runOps, regK, step1, newK, genR, appR, obl, buildR, Value.cells, closeK, keepH, outV, retK, ret1, retC, RetV, Option.getD, runD, stepD, afterK, undef, simprocAttr, sxB, ↓sxD, sxE, sxTab]))
      exact hk
    have d1 : decide ((1 : Int) < (y2.length : Int)) = false := by rw [decide_eq_false_iff_not]; omega
    have q1 : decide (y2.length ≤ 1) = true := decide_eq_true h1
    by_cases h2 : 1 ≤ co
    case neg =>
      have d2 : decide (co < 1) = true := by rw [decide_eq_true_eq]; omega
      have q2 : decide (1 ≤ co) = false := decide_eq_false h2
      have hk := hK M3 (hM.trans c1)
      rw [hall (by unfold chkI; simp only; rw [hc, q2]; simp)] at hk
      refine Stop.go ?_
      refine Go1.mk ?_; repeat' ((first | (with_reducible refine Go1.go ?_) | (refine And.intro ?_ ?_; (try simp only [sxO] at *); omega) | fail) <;> (try simp (maxSteps := 1000000) only [hu3.one, hu3.len, hu3.sl, hnn, p1, p2, e1, b1, b2, hF3.n.one, hF3.d.one, hc, hF3.n.len, hF3.n.sl, hF3.d.len, hF3.d.sl, g1, g2, g3, d0, d1, d2, ↓hold_pre, awayP, runOps, regK, step1, newK, genR, appR, obl, buildR, Value.cells, closeK, keepH, outV, retK, ret1, retC, RetV, Option.getD, runD, stepD, afterK, undef, simprocAttr, sxB, ↓sxD, sxE, sxTab]))
      exact hk
    have d2 : decide (co < 1) = false := by rw [decide_eq_false_iff_not]; omega
    have q2 : decide (1 ≤ co) = true := decide_eq_true h2
    by_cases h3 : co ≤ 1048576
    case neg =>
      have d3 : decide ((1048576 : Int) < co) = true := by rw [decide_eq_true_eq]; omega
      have q3 : decide (co ≤ 1048576) = false := decide_eq_false h3
      have hk := hK M3 (hM.trans c1)
      rw [hall (by unfold chkI; simp only; rw [hc, q3]; simp)] at hk
      refine Stop.go ?_
      refine Go1.mk ?_; repeat' ((first | (with_reducible refine Go1.go ?_) | (refine And.intro ?_ ?_; (try simp only [sxO] at *); omega) | fail) <;> (try simp (maxSteps := 1000000) only [hu3.one, hu3.len, hu3.sl, hnn, p1, p2, e1, b1, b2, hF3.n.one, hF3.d.one, hc, hF3.n.len, hF3.n.sl, hF3.d.len, hF3.d.sl, g1, g2, g3, d0, d1, d2, d3, ↓hold_pre, awayP, runOps, regK, step1, newK, genR, appR, obl, buildR, Value.cells, closeK, keepH, outV, retK, ret1, retC, RetV, Option.getD, runD, stepD, afterK, undef, simprocAttr, sxB, ↓sxD, sxE, sxTab]))
      exact hk
    have d3 : decide ((1048576 : Int) < co) = false := by rw [decide_eq_false_iff_not]; omega
    have q3 : decide (co ≤ 1048576) = true := decide_eq_true h3
    have hnx := hnx (by unfold chkI; simp only; rw [hc, q0, q1, q2, q3]; rfl)
    refine Stop.go ?_
    refine Go1.mk ?_; repeat' ((first | (with_reducible refine Go1.go ?_) | (refine And.intro ?_ ?_; (try simp only [sxO] at *); omega) | fail) <;> (try simp (maxSteps := 1000000) only [hu3.one, hu3.len, hu3.sl, hnn, p1, p2, e1, b1, b2, hF3.n.one, hF3.d.one, hc, hF3.n.len, hF3.n.sl, hF3.d.len, hF3.d.sl, g1, g2, g3, d0, d1, d2, d3, wi, ↓hold_pre, awayP, runOps, regK, step1, newK, genR, appR, obl, buildR, Value.cells, closeK, keepH, outV, retK, ret1, retC, RetV, Option.getD, runD, stepD, afterK, undef, simprocAttr, sxB, ↓sxD, sxE, sxTab]))
    exact ⟨L.length - (i + 1), rcSt29 M3 u (i + 1), by omega, le_sub ⟨rfl, rfl, trivial⟩ trivial rfl rfl rfl (keepLt0 _), M3, i + 1, rfl, by omega, hM.trans c1, hnx, rfl⟩
end
end Go.Proofs.Ytjapnklocibgaaa.Sx
namespace Go.Proofs.Ytjapnklocibgaaa.Sx
open Go
set_option maxRecDepth 100000
set_option linter.unusedVariables false
theorem slops_hi (a b : Operand) : (#[a] ++ (none : Option Operand).toArray ++ (some b).toArray ++ (none : Option Operand).toArray).toList = [a, b] := rfl
theorem slops_lo (a b : Operand) : (#[a] ++ (some b).toArray ++ (none : Option Operand).toArray ++ (none : Option Operand).toArray).toList = [a, b] := rfl
theorem ins_sorted {c : Nat → Nat → Int} (h : CmpO c) {Z : List Nat} {i a : Nat} (hZ : Z.Pairwise (ltS c)) (hlt : ∀ z ∈ Z, z < i) (h1 : ∀ z ∈ Z.take a, c z i ≤ 0) (h2 : ∀ y, Z[a]? = some y → ¬ c y i ≤ 0) : (Z.take a ++ i :: Z.drop a).Pairwise (ltS c) := by
  have hsp := hZ
  rw [← List.take_append_drop a Z, pw_app] at hsp
  obtain ⟨p1, p2, p3⟩ := hsp
  have hin : ∀ y ∈ Z.drop a, ltS c i y := fun y hy => by
    have ha : a < Z.length := by
      have := List.length_pos_of_mem hy
      rw [List.length_drop] at this; omega
    have h3 := h2 Z[a] (List.getElem?_eq_getElem ha)
    have h4 : ltS c i Z[a] := .inl ((h.anti i Z[a]).2 (by omega))
    rw [List.drop_eq_getElem_cons ha] at hy p2
    rcases List.mem_cons.1 hy with rfl | hy
    · exact h4
    · exact ltS_trans h h4 ((List.pairwise_cons.1 p2).1 y hy)
  rw [pw_app, List.pairwise_cons]
  refine ⟨p1, ⟨hin, p2⟩, fun x hx y hy => ?_⟩
  rcases List.mem_cons.1 hy with rfl | hy
  · have hx1 := h1 x hx
    have hx2 := hlt x (List.mem_of_mem_take hx)
    rcases Int.lt_or_eq_of_le hx1 with h5 | h5
    · exact .inl h5
    · exact .inr ⟨h5, hx2⟩
  · exact p3 x hx y hy
theorem ins_perm {Z : List Nat} {i : Nat} (a : Nat) (h : Z.Perm (List.range i)) : (Z.take a ++ i :: Z.drop a).Perm (List.range (i + 1)) := by
  rw [List.range_succ]
  refine List.perm_middle.trans ?_
  rw [List.take_append_drop]
  exact (h.cons i).trans (List.perm_append_singleton i (List.range i)).symm
structure Scaled (f g : Nat) (x y : IR) : Prop where
  pk : y.pk = x.pk
  ts : y.ts = x.ts
  cost : y.cost = x.cost
  val : valN y.l1 * (valN x.l2 * g) = valN x.l1 * f * valN y.l2
  pos : 0 < valN y.l2
end Go.Proofs.Ytjapnklocibgaaa.Sx
namespace Go.Proofs.Ytjapnklocibgaaa.Sx
open Go Go.RowKit
set_option linter.unusedVariables false
set_option linter.unusedSimpArgs false
set_option maxRecDepth 100000
set_option maxHeartbeats 8000000
attribute [local congr] fin_congr finG_congr stepG_congr step1_congr runOps_congr brv_congr obl_congr condK_congr LoopK_congr seqK_congr CutK_congr vc_congr DrawK_congr regK_congr CallK_congr AskK_congr newK_congr retC_congr ret1_congr retK_congr outV_congr closeK_congr genR_congr appR_congr finD_congr finGD_congr stepGD_congr stepD_congr CallK0_congr runD_congr okR_congr CallS_congr vcX_congr
attribute [local congr] Stop_congr
section
variable {M : Mem} {K : AV → Hp → Mem → Prop} {u v : Value} {L : List IR} {o : List Int}
def roSt (M : Mem) (u : Value) (i : Nat) (Z : List Nat) : St := { env := [(5, .ext (.int .i64 (i : Int))), (4, .slo 1000004 0 i 1), (0, .ext u)], hp := [(1000004, 3, cE natV Z)], M := M, kb := 1000000, fx := [] }
def riSt (M : Mem) (u : Value) (i a : Nat) (Z : List Nat) : St := { env := [(6, .ext (.int .i64 (a : Int))), (5, .ext (.int .i64 (i : Int))), (4, .slo 1000004 0 i 1), (0, .ext u)], hp := [(1000004, 3, cE natV Z)], M := M, kb := 1000000, fx := [] }
theorem rorder29_ok (hu : IsR M 5 IR.c u L) (hL : okIL M L) (hb : L.length < 1000000) (hK : ∀ v Z M', Mem.le M M' → ordS L Z → IsL M' natV v Z → FreshS M v → K (.ext (.tuple #[v, .int .i64 (ordE L)])) [] M') : CallS Try.prog 24 [.ext u] [] M [] K := by
  refine CallS.frzF ?_
  refine inlS (cs := [10]) Try.mixed Try.func24 rfl (by kernel_rfl) 1000000 rfl rfl ?_
  simp only [Try.f24]
  refine Go1.mk ?_; repeat' ((first | (with_reducible refine Go1.go ?_) | (((with_reducible refine isCall (f := 26) ?_); refine callA_nil (by kernel_rfl) ?_; refine (rcheck29_ok hu hL hb (fun M1 m1 => Stop.mk ?_)))) | (refine And.intro ?_ ?_; (try simp only [sxO] at *); omega) | fail) <;> (try simp (maxSteps := 1000000) only [hu.one, ↓hold_pre, awayP, runOps, regK, step1, newK, genR, appR, obl, buildR, Value.cells, closeK, keepH, outV, retK, ret1, retC, RetV, Option.getD, runD, stepD, afterK, undef, simprocAttr, sxB, ↓sxD, sxE, sxTab]))
  have m1 : Mem.le M M1 := m1
  unfold ordE ordS at hK
  cases hc : chkIL L with
  | false =>
    rw [hc] at hK
    have hk := hK (.slice none 0 0) [] M1 m1 (by simp) (isL_nil _ _ _) (freshS_nil _ _)
    refine Stop.go ?_
    refine Go1.mk ?_; repeat' ((first | (with_reducible refine Go1.go ?_) | (refine And.intro ?_ ?_; (try simp only [sxO] at *); omega) | fail) <;> (try simp (maxSteps := 1000000) only [↓hold_pre, awayP, runOps, regK, step1, newK, genR, appR, obl, buildR, Value.cells, closeK, keepH, outV, retK, ret1, retC, RetV, Option.getD, runD, stepD, afterK, undef, simprocAttr, sxB, ↓sxD, sxE, sxTab]))
    exact .inl hk
  | true =>
    rw [hc] at hK
    simp only [if_true] at hK
    have hu1 := hu.le m1
    have hcc := hc
    unfold chkIL at hcc
    simp only [Bool.and_eq_true, decide_eq_true_eq] at hcc
    obtain ⟨h64, hall⟩ := hcc
    have hall := List.all_eq_true.1 hall
    have hcmp : CmpO (ratC L) := (ratC_pre hall).cmp
    have hao := fun l => eq_true (allOne_cE natV (fun _ => rfl) l)
    refine Stop.go ?_
    refine Go1.mk ?_; repeat' ((first | (with_reducible refine Go1.go ?_) | (refine And.intro ?_ ?_; (try simp only [sxO] at *); omega) | fail) <;> (try simp (maxSteps := 1000000) only [hu1.one, ↓hold_pre, awayP, runOps, regK, step1, newK, genR, appR, obl, buildR, Value.cells, closeK, keepH, outV, retK, ret1, retC, RetV, Option.getD, runD, stepD, afterK, undef, simprocAttr, sxB, ↓sxD, sxE, sxTab]))
    refine ⟨fun m z => ∃ M' Z i, m = L.length - i ∧ i ≤ L.length ∧ Mem.le M M' ∧ Z.Perm (List.range i) ∧ Z.Pairwise (ltS (ratC L)) ∧ z = roSt M' u i Z,
      ⟨L.length, roSt M1 u 0 [], (le_nil 4 1000004 3 1 rfl (.inl (by simp [awayB, mentE, mentH, mentL, AV.ment, hasK]))).trans (le_sub ⟨rfl, rfl, rfl, trivial⟩ ⟨by simp [lkH, roSt, cE], trivial⟩ rfl rfl rfl (keepLt_of rfl)), ⟨M1, [], 0, by omega, by omega, m1, List.Perm.refl _, List.Pairwise.nil, rfl⟩⟩, ?_⟩
    clear hu1 m1
    rintro m z ⟨M2, Z, i, rfl, hi, hM, hZ, hS, rfl⟩
    have hu2 := hu.le hM
    have hL2 := hL.le hM
    have hZl : Z.length = i := by rw [hZ.length_eq, List.length_range]
    have hlen : (cE natV Z).length = i := by rw [cE_len, hZl]
    have hZi : ∀ z ∈ Z, z < i := fun z hz => List.mem_range.1 (hZ.subset hz)
    by_cases hlt : i < L.length
    case neg =>
      obtain rfl : i = L.length := by omega
      have d1 : decide ((L.length : Int) < (L.length : Int)) = false := by simp
      refine Go1.mk ?_; repeat' ((first | (with_reducible refine Go1.go ?_) | (refine And.intro ?_ ?_; (try simp only [sxO] at *); omega) | fail) <;> (try simp (maxSteps := 1000000) only [roSt, d1, hu2.one, hu2.len, hu2.sl, cE_ment, cE_kill, hasK_nil, ↓hold_pre, awayP, runOps, regK, step1, newK, genR, appR, obl, buildR, Value.cells, closeK, keepH, outV, retK, ret1, retC, RetV, Option.getD, runD, stepD, afterK, undef, simprocAttr, sxB, ↓sxD, sxE, sxTab]))
      refine FrzF.tup [] [.int .i64 0] (Z.map natV) rfl (by simp [hZl]) ?_
      intro v M3 h1 h2 h3
      refine hK v Z M3 (hM.trans h1) ⟨hZ, hS⟩ ?_ (h3.le hM)
      unfold IsL
      rw [hZl]; exact h2
    have d1 : decide ((i : Int) < (L.length : Int)) = true := by rw [decide_eq_true_eq]; omega
    have b1 : (0 : Int) ≤ (i : Int) := by omega
    have b2 : (i : Int) < (L.length : Int) := by omega
    have wi : IntKind.i64.wrap ((i : Int) + 1) = ((i + 1 : Nat) : Int) := succ_i (by omega)
    refine Go1.mk ?_; repeat' ((first | (with_reducible refine Go1.go ?_) | (refine And.intro ?_ ?_; (try simp only [sxO] at *); omega) | fail) <;> (try simp (maxSteps := 1000000) only [roSt, d1, hu2.one, hu2.len, hu2.sl, cE_ment, cE_kill, hasK_nil, ↓hold_pre, awayP, runOps, regK, step1, newK, genR, appR, obl, buildR, Value.cells, closeK, keepH, outV, retK, ret1, retC, RetV, Option.getD, runD, stepD, afterK, undef, simprocAttr, sxB, ↓sxD, sxE, sxTab]))
    refine ⟨fun z => ∃ M' a, Mem.le M M' ∧ a ≤ i ∧ (∀ x ∈ Z.take a, ratC L x i ≤ 0) ∧ (∀ y, Z[a]? = some y → ¬ ratC L y i ≤ 0) ∧ z = riSt M' u i a Z, ?_, ?_⟩
    · refine Go1.mk ?_; repeat' ((first | (with_reducible refine Go1.go ?_) | (refine And.intro ?_ ?_; (try simp only [sxO] at *); omega) | fail) <;> (try simp (maxSteps := 1000000) only [hu2.one, hu2.len, hu2.sl, cE_ment, cE_kill, hasK_nil, ↓hold_pre, awayP, runOps, regK, step1, newK, genR, appR, obl, buildR, Value.cells, closeK, keepH, outV, retK, ret1, retC, RetV, Option.getD, runD, stepD, afterK, undef, simprocAttr, sxB, ↓sxD, sxE, sxTab]))
      refine ⟨fun m z => ∃ M' a, m = i - a ∧ a ≤ i ∧ Mem.le M M' ∧ (∀ x ∈ Z.take a, ratC L x i ≤ 0) ∧ z = riSt M' u i a Z,
        ⟨i, riSt M2 u i 0 Z, le_sub ⟨rfl, rfl, rfl, rfl, trivial⟩ ⟨rfl, trivial⟩ rfl rfl rfl (keepLt_of rfl), ⟨M2, 0, by omega, by omega, hM, by simp, rfl⟩⟩, ?_⟩
      clear hu2 hL2 hM
      rintro m z ⟨M3, a, rfl, ha, hM, hpre, rfl⟩
      have hu2 := hu.le hM
      have hL2 := hL.le hM
      by_cases hal : a < i
      case neg =>
        obtain rfl : a = i := by omega
        have e1 : decide ((a : Int) < (a : Int)) = false := by simp
        refine Go1.mk ?_; repeat' ((first | (with_reducible refine Go1.go ?_) | ((with_reducible refine isDraw [some 16, some 17, some 18, some 19, some 20, some 21, some 22, some 23, some 24, some 25, some 26, some 27, some 28, some 29, some 30, some 31, some 32, some 33] (by decide) ?_); refine draw_rule [(0, []), (1, []), (2, []), (3, []), (4, []), (5, []), (6, []), (7, []), (8, []), (9, []), (10, []), (11, []), (12, [9, 11]), (13, [9, 11]), (14, [9, 11]), (15, [9, 11]), (16, []), (17, [])] [[], [], [1], [0, 1, 2], [0, 1, 2, 3], [0, 1, 2, 3, 4], [0, 1, 2, 3, 4], [0, 1, 2, 3, 4], [0, 1, 2, 3, 4, 6, 7], [0, 1, 2, 3, 4, 6, 7, 8], [0, 1, 2, 3, 4, 5, 6, 7, 8, 9], [0, 1, 2, 3, 4, 5, 6, 7, 8, 9, 10], [0, 1, 2, 3, 4], [0, 1, 2, 3, 4], [0, 1, 2, 3, 4, 12, 13], [0, 1, 2, 3, 4, 12, 13, 14], [0, 1, 2, 3, 4, 5, 6, 7, 8, 9, 10, 11, 12, 13, 14, 15], [0, 1, 2, 3, 4, 5, 6, 7, 8, 9, 10, 11, 12, 13, 14, 15, 16]] [16, 17, 18, 21, 22, 23, 24, 25, 26, 27, 28, 29, 30, 31] [] (by kernel_rfl) (by kernel_rfl) (by kernel_rfl) (by kernel_rfl) (by exact trivial) ?_) | (refine And.intro ?_ ?_; (try simp only [sxO] at *); omega) | fail) <;> (try simp (maxSteps := 1000000) only [riSt, e1, hu2.one, hu2.len, hu2.sl, cE_ment, cE_kill, hasK_nil, ↓hold_pre, awayP, runOps, regK, step1, newK, genR, appR, obl, buildR, Value.cells, closeK, keepH, outV, retK, ret1, retC, RetV, Option.getD, runD, stepD, afterK, undef, simprocAttr, sxB, ↓sxD, sxE, sxTab]))
        exact ⟨riSt M3 u a a Z, le_sub ⟨rfl, rfl, rfl, rfl, trivial⟩ ⟨rfl, trivial⟩ rfl rfl rfl (keepLt_of rfl), M3, a, hM, by omega, hpre, fun y hy => (by rw [List.getElem?_eq_none (by omega)] at hy; cases hy), rfl⟩
      have e1 : decide ((a : Int) < (i : Int)) = true := by rw [decide_eq_true_eq]; omega
      have c1 : (0 : Int) ≤ (a : Int) := by omega
      have c2 : (a : Int) < (i : Int) := by omega
      have haz : a < Z.length := by omega
      have hzat := cE_at natV haz
      have hzi := hZi _ (List.getElem_mem haz)
      have hget : Z[a]? = some Z[a] := List.getElem?_eq_getElem haz
      have htk : Z.take (a + 1) = Z.take a ++ [Z[a]] := by rw [List.take_add_one, hget]; rfl
      have wa : IntKind.i64.wrap ((a : Int) + 1) = ((a + 1 : Nat) : Int) := succ_i (by omega)
      generalize Z[a] = y at *
      have hyl : y < L.length := by omega
      have c3 : (0 : Int) ≤ (y : Int) := by omega
      have c4 : (y : Int) < (L.length : Int) := by omega
      have hny := hu2.nn hyl
      have hrat : ratC L y i = itC L[y] L[i] := by rw [ratC_it, itA_in hyl, itA_in hlt]
      have hay := hu2.at (P := Try.prog) (T := 46) (fun _ => rfl) tk46 tz46 hyl
      have hai := hu2.at (P := Try.prog) (T := 46) (fun _ => rfl) tk46 tz46 hlt
      have ky := hall _ (List.getElem_mem hyl)
      have ki := hall _ (List.getElem_mem hlt)
      have oy := hL2 _ (List.getElem_mem hyl)
      have oi := hL2 _ (List.getElem_mem hlt)
      generalize L[y] = Y at *
      generalize L[i] = X at *
      obtain ⟨pk1, ts1, x1, x2, y1, y2, co1⟩ := Y
      obtain ⟨pk2, ts2, z1, z2, o1, o2, co2⟩ := X
      have hay : lookM Try.prog 46 M3 (elemP u 5 y) = some (.agg #[.string (bs pk1), .string (bs ts1), x1, x2, .int .i64 co1]) := hay
      have hai : lookM Try.prog 46 M3 (elemP u 5 i) = some (.agg #[.string (bs pk2), .string (bs ts2), z1, z2, .int .i64 co2]) := hai
      have q1 : x1.oneCell' = true := oy.f.n.one
      have q2 : x2.oneCell' = true := oy.f.d.one
      have q3 : z1.oneCell' = true := oi.f.n.one
      have q4 : z2.oneCell' = true := oi.f.d.one
      refine Go1.mk ?_; repeat' ((first | (with_reducible refine Go1.go ?_) | (((with_reducible refine isCall0 (f := 49) ?_); refine callA0_nil (by kernel_rfl) ?_; refine (before_ok ⟨pk1, ts1, x1, x2, y1, y2, co1⟩ ⟨pk2, ts2, z1, z2, o1, o2, co2⟩ oy oi ky ki (fun M4 m4 => Stop.mk ?_)))) | ((with_reducible refine isDraw [some 16, some 17, some 18, some 19, some 20, some 21, some 22, some 23, some 24, some 25, some 26, some 27, some 28, some 29, some 30, some 31, some 32, some 33] (by decide) ?_); refine draw_rule [(0, []), (1, []), (2, []), (3, []), (4, []), (5, []), (6, []), (7, []), (8, []), (9, []), (10, []), (11, []), (12, [9, 11]), (13, [9, 11]), (14, [9, 11]), (15, [9, 11]), (16, []), (17, [])] [[], [], [1], [0, 1, 2], [0, 1, 2, 3], [0, 1, 2, 3, 4], [0, 1, 2, 3, 4], [0, 1, 2, 3, 4], [0, 1, 2, 3, 4, 6, 7], [0, 1, 2, 3, 4, 6, 7, 8], [0, 1, 2, 3, 4, 5, 6, 7, 8, 9], [0, 1, 2, 3, 4, 5, 6, 7, 8, 9, 10], [0, 1, 2, 3, 4], [0, 1, 2, 3, 4], [0, 1, 2, 3, 4, 12, 13], [0, 1, 2, 3, 4, 12, 13, 14], [0, 1, 2, 3, 4, 5, 6, 7, 8, 9, 10, 11, 12, 13, 14, 15], [0, 1, 2, 3, 4, 5, 6, 7, 8, 9, 10, 11, 12, 13, 14, 15, 16]] [16, 17, 18, 21, 22, 23, 24, 25, 26, 27, 28, 29, 30, 31] [] (by kernel_rfl) (by kernel_rfl) (by kernel_rfl) (by kernel_rfl) (by exact trivial) ?_) | (refine And.intro ?_ ?_; (try simp only [sxO] at *); omega) | fail) <;> (try simp (maxSteps := 1000000) only [riSt, natV, e1, b1, b2, c1, c2, c3, c4, hzat, hny, hay, hai, q1, q2, q3, q4, hlen, hu2.one, hu2.len, hu2.sl, cE_ment, cE_kill, hasK_nil, Nat.mul_one, Nat.zero_add, bs_mk, bs_app, bs_ext, bs_size, bs_toList, bs_at, bs_cells, List.take_length, imp_ga, guard_pk, guard_pk2, ↓hold_pre, awayP, runOps, regK, step1, newK, genR, appR, obl, buildR, Value.cells, closeK, keepH, outV, retK, ret1, retC, RetV, Option.getD, runD, stepD, afterK, undef, simprocAttr, sxB, ↓sxD, sxE, sxTab]))
      have m4 : Mem.le M3 M4 := m4
      by_cases hle : itC ⟨pk1, ts1, x1, x2, y1, y2, co1⟩ ⟨pk2, ts2, z1, z2, o1, o2, co2⟩ ≤ 0
      · have d2 : decide (itC ⟨pk1, ts1, x1, x2, y1, y2, co1⟩ ⟨pk2, ts2, z1, z2, o1, o2, co2⟩ ≤ 0) = true := decide_eq_true hle
        rw [d2]
        refine Stop.go ?_
        refine Go1.mk ?_; repeat' ((first | (with_reducible refine Go1.go ?_) | ((with_reducible refine isDraw [some 16, some 17, some 18, some 19, some 20, some 21, some 22, some 23, some 24, some 25, some 26, some 27, some 28, some 29, some 30, some 31, some 32, some 33] (by decide) ?_); refine draw_rule [(0, []), (1, []), (2, []), (3, []), (4, []), (5, []), (6, []), (7, []), (8, []), (9, []), (10, []), (11, []), (12, [9, 11]), (13, [9, 11]), (14, [9, 11]), (15, [9, 11]), (16, []), (17, [])] [[], [], [1], [0, 1, 2], [0, 1, 2, 3], [0, 1, 2, 3, 4], [0, 1, 2, 3, 4], [0, 1, 2, 3, 4], [0, 1, 2, 3, 4, 6, 7], [0, 1, 2, 3, 4, 6, 7, 8], [0, 1, 2, 3, 4, 5, 6, 7, 8, 9], [0, 1, 2, 3, 4, 5, 6, 7, 8, 9, 10], [0, 1, 2, 3, 4], [0, 1, 2, 3, 4], [0, 1, 2, 3, 4, 12, 13], [0, 1, 2, 3, 4, 12, 13, 14], [0, 1, 2, 3, 4, 5, 6, 7, 8, 9, 10, 11, 12, 13, 14, 15], [0, 1, 2, 3, 4, 5, 6, 7, 8, 9, 10, 11, 12, 13, 14, 15, 16]] [16, 17, 18, 21, 22, 23, 24, 25, 26, 27, 28, 29, 30, 31] [] (by kernel_rfl) (by kernel_rfl) (by kernel_rfl) (by kernel_rfl) (by exact trivial) ?_) | (refine And.intro ?_ ?_; (try simp only [sxO] at *); omega) | fail) <;> (try simp (maxSteps := 1000000) only [wa, cE_ment, cE_kill, hasK_nil, bs_mk, bs_app, bs_ext, bs_size, bs_toList, bs_at, bs_cells, List.take_length, imp_ga, guard_pk, guard_pk2, ↓hold_pre, awayP, runOps, regK, step1, newK, genR, appR, obl, buildR, Value.cells, closeK, keepH, outV, retK, ret1, retC, RetV, Option.getD, runD, stepD, afterK, undef, simprocAttr, sxB, ↓sxD, sxE, sxTab]))
        exact ⟨i - (a + 1), riSt M4 u i (a + 1) Z, by omega, le_sub ⟨rfl, rfl, rfl, rfl, trivial⟩ ⟨rfl, trivial⟩ rfl rfl rfl (keepLt_of rfl), M4, a + 1, rfl, by omega, hM.trans m4, fun x hx => by
          rw [htk] at hx
          rcases List.mem_append.1 hx with hx | hx
          · exact hpre x hx
          · rw [List.mem_singleton.1 hx, hrat]; exact hle, rfl⟩
      · have d2 : decide (itC ⟨pk1, ts1, x1, x2, y1, y2, co1⟩ ⟨pk2, ts2, z1, z2, o1, o2, co2⟩ ≤ 0) = false := decide_eq_false hle
        rw [d2]
        refine Stop.go ?_
        refine Go1.mk ?_; repeat' ((first | (with_reducible refine Go1.go ?_) | ((with_reducible refine isDraw [some 16, some 17, some 18, some 19, some 20, some 21, some 22, some 23, some 24, some 25, some 26, some 27, some 28, some 29, some 30, some 31, some 32, some 33] (by decide) ?_); refine draw_rule [(0, []), (1, []), (2, []), (3, []), (4, []), (5, []), (6, []), (7, []), (8, []), (9, []), (10, []), (11, []), (12, [9, 11]), (13, [9, 11]), (14, [9, 11]), (15, [9, 11]), (16, []), (17, [])] [[], [], [1], [0, 1, 2], [0, 1, 2, 3], [0, 1, 2, 3, 4], [0, 1, 2, 3, 4], [0, 1, 2, 3, 4], [0, 1, 2, 3, 4, 6, 7], [0, 1, 2, 3, 4, 6, 7, 8], [0, 1, 2, 3, 4, 5, 6, 7, 8, 9], [0, 1, 2, 3, 4, 5, 6, 7, 8, 9, 10], [0, 1, 2, 3, 4], [0, 1, 2, 3, 4], [0, 1, 2, 3, 4, 12, 13], [0, 1, 2, 3, 4, 12, 13, 14], [0, 1, 2, 3, 4, 5, 6, 7, 8, 9, 10, 11, 12, 13, 14, 15], [0, 1, 2, 3, 4, 5, 6, 7, 8, 9, 10, 11, 12, 13, 14, 15, 16]] [16, 17, 18, 21, 22, 23, 24, 25, 26, 27, 28, 29, 30, 31] [] (by kernel_rfl) (by kernel_rfl) (by kernel_rfl) (by kernel_rfl) (by exact trivial) ?_) | (refine And.intro ?_ ?_; (try simp only [sxO] at *); omega) | fail) <;> (try simp (maxSteps := 1000000) only [wa, cE_ment, cE_kill, hasK_nil, bs_mk, bs_app, bs_ext, bs_size, bs_toList, bs_at, bs_cells, List.take_length, imp_ga, guard_pk, guard_pk2, ↓hold_pre, awayP, runOps, regK, step1, newK, genR, appR, obl, buildR, Value.cells, closeK, keepH, outV, retK, ret1, retC, RetV, Option.getD, runD, stepD, afterK, undef, simprocAttr, sxB, ↓sxD, sxE, sxTab]))
        exact ⟨riSt M4 u i a Z, le_sub ⟨rfl, rfl, rfl, rfl, trivial⟩ ⟨rfl, trivial⟩ rfl rfl rfl (keepLt_of rfl), M4, a, hM.trans m4, by omega, hpre, fun w hw => (by rw [hget] at hw; cases hw; rw [hrat]; exact hle), rfl⟩
    · clear hu2 hL2 hM
      rintro z ⟨M3, a, hM, ha, hpre, hnext, rfl⟩
      have b3 : (0 : Int) ≤ (a : Int) := by omega
      have b4 : (a : Int) ≤ (i : Int) := by omega
      have hnew : cE natV (Z.take a) ++ AV.ext (.int .i64 (i : Int)) :: cE natV ((Z.drop a).take (i - a)) = cE natV (Z.take a ++ i :: Z.drop a) := by
        rw [List.take_of_length_le (l := Z.drop a) (by rw [List.length_drop]; omega)]
        simp [cE, natV]
      have hsum : a + (1 + (i - a)) = i + 1 := by omega
      have hdl : ((Z.drop a).take (i - a)).length = i - a := by rw [List.length_take, List.length_drop]; omega
      have htw : List.take (1 + (i - a)) (AV.ext (.int .i64 (i : Int)) :: cE natV ((Z.drop a).take (i - a))) = AV.ext (.int .i64 (i : Int)) :: cE natV ((Z.drop a).take (i - a)) := List.take_of_length_le (by rw [List.length_cons, cE_len, hdl]; omega)
      have hso : 1 + (i - a) ≤ i - a + 1 := by omega
      refine Go1.mk ?_; repeat' ((first | (with_reducible refine Go1.go ?_) | ((with_reducible refine isDraw [some 36, some 37, some 38, some 39, some 40, some 41, some 42, some 43, some 44, some 45, some 4] (by decide) ?_); refine draw_rule [(0, []), (1, []), (2, []), (3, []), (4, []), (5, []), (6, []), (7, []), (8, [0, 1, 2]), (9, []), (10, [])] [[], [], [0, 1], [], [3], [], [], [5, 6], [3, 4, 5, 6, 7], [0, 1, 2, 3, 4, 5, 6, 7, 8], [0, 1, 2, 3, 4, 5, 6, 7, 8, 9]] [36, 37, 38, 39, 40, 41, 42, 43, 44] [] (by kernel_rfl) (by kernel_rfl) (by kernel_rfl) (by kernel_rfl) (by exact trivial) ?_) | (refine And.intro ?_ ?_; (try simp only [sxO] at *); omega) | fail) <;> (try simp (maxSteps := 1000000) only [riSt, wi, hnew, hsum, hdl, htw, hso, slops_hi, slops_lo, hlen, hao, b1, b3, b4, cE_len, cE_take, cE_drop, cE_ment, cE_kill, hasK_nil, Nat.mul_one, Nat.zero_add, Nat.sub_zero, Int.toNat_natCast, Int.toNat_zero, ↓hold_pre, awayP, runOps, regK, step1, newK, genR, appR, obl, buildR, Value.cells, closeK, keepH, outV, retK, ret1, retC, RetV, Option.getD, runD, stepD, afterK, undef, simprocAttr, sxB, ↓sxD, sxE, sxTab]))
      exact ⟨L.length - (i + 1), roSt M3 u (i + 1) (Z.take a ++ i :: Z.drop a), by omega, le_sub ⟨rfl, rfl, rfl, trivial⟩ ⟨by simp [lkH, roSt], trivial⟩ rfl rfl rfl (keepLt_of rfl), M3, _, i + 1, rfl, by omega, hM, ins_perm a hZ, ins_sorted hcmp hS hZi hpre hnext, rfl⟩
end
end Go.Proofs.Ytjapnklocibgaaa.Sx
namespace Go.Proofs.Ytjapnklocibgaaa.Sx
open Go
set_option maxRecDepth 100000
set_option linter.unusedVariables false
def toI (Z : List Nat) : List Int := Z.map fun (x : Nat) => (x : Int)
end Go.Proofs.Ytjapnklocibgaaa.Sx
namespace Go.Proofs.Ytjapnklocibgaaa.Sx
open Go Go.RowKit
set_option linter.unusedVariables false
set_option linter.unusedSimpArgs false
set_option maxRecDepth 100000
set_option maxHeartbeats 8000000
attribute [local congr] fin_congr finG_congr stepG_congr step1_congr runOps_congr brv_congr obl_congr condK_congr LoopK_congr seqK_congr CutK_congr vc_congr DrawK_congr regK_congr CallK_congr AskK_congr newK_congr retC_congr ret1_congr retK_congr outV_congr closeK_congr genR_congr appR_congr finD_congr finGD_congr stepGD_congr stepD_congr CallK0_congr runD_congr okR_congr CallS_congr vcX_congr
attribute [local congr] Stop_congr
theorem ordS_uniq {L : List IR} {Z W : List Nat} (hc : chkIL L = true) (h : ordS L Z) (h2 : ordS L W) : Z = W := by
  have h3 := h2
  unfold ordS at h3
  rw [if_pos hc] at h3
  exact ordS_one hc h h3.1 h3.2
theorem chkIL_of {M : Mem} {L : List IR} (h : ∀ x ∈ L, ItOK M x) (hl : L.length ≤ 64) : chkIL L = true := by
  unfold chkIL
  rw [Bool.and_eq_true, decide_eq_true_eq, List.all_eq_true]
  exact ⟨hl, fun x hx => (h x hx).chk⟩
theorem ordE_of {L : List IR} (h : chkIL L = true) : ordE L = 0 := by unfold ordE; rw [if_pos h]
theorem toI_len (Z : List Nat) : (toI Z).length = Z.length := by unfold toI; rw [List.length_map]
theorem ordS_len {L : List IR} {Z : List Nat} (hc : chkIL L = true) (h : ordS L Z) : Z.length = L.length := by
  unfold ordS at h
  rw [if_pos hc] at h
  rw [h.1.length_eq, List.length_range]
section
variable {M : Mem} {K : AV → Hp → Mem → Prop}
theorem orders29_ok (u : Value) (l : List Int) (hu : IsL M intV64 u l) (hK : ∀ M', Mem.le M M' → K (.ext (.bool true)) [] M') : CallS Try.prog 6 [.ext u] [] M [] K := by
  refine inlS (cs := []) Try.mixed Try.func6 rfl (by kernel_rfl) 21 rfl rfl ?_
  simp only [Try.f6]
  refine Go1.mk ?_; repeat' ((first | (with_reducible refine Go1.go ?_) | ((with_reducible refine isCall (f := 10) ?_); refine callA ?_) | ((with_reducible refine isCallS (f := 10) ?_); refine (items31_ok u l 0 20 hu (by omega) (by omega) (fun v L M1 p1 m1 hv hL fv ll lp => Stop.mk ?_))) | (refine And.intro ?_ ?_; (try simp only [sxO] at *); omega) | fail) <;> (try simp (maxSteps := 1000000) only [hu.one, hasK_nil, ↓hold_pre, awayP, runOps, regK, step1, newK, genR, appR, obl, buildR, Value.cells, closeK, keepH, outV, retK, ret1, retC, RetV, Option.getD, runD, stepD, afterK, undef, simprocAttr, sxB, ↓sxD, sxE, sxTab]))
  have m1 : Mem.le M M1 := m1
  have okL : okIL M1 L := fun x hx => (hL x hx).ok
  have hc := chkIL_of hL (by omega)
  have he := ordE_of hc
  refine Stop.go ?_
  refine Go1.mk ?_; repeat' ((first | (with_reducible refine Go1.go ?_) | (((with_reducible refine isCall (f := 11) ?_); refine callA_nil (by kernel_rfl) ?_; refine (order_ok hv okL (by omega) (fun v1 Z M2 a1 a2 a3 a4 => Stop.mk ?_)))) | (refine And.intro ?_ ?_; (try simp only [sxO] at *); omega) | fail) <;> (try simp (maxSteps := 1000000) only [hv.one, hasK_nil, ↓hold_pre, awayP, runOps, regK, step1, newK, genR, appR, obl, buildR, Value.cells, closeK, keepH, outV, retK, ret1, retC, RetV, Option.getD, runD, stepD, afterK, undef, simprocAttr, sxB, ↓sxD, sxE, sxTab]))
  have a1 : Mem.le M1 M2 := a1
  have hv2 := hv.le a1
  have okL2 := okL.le a1
  refine Stop.go ?_
  refine Go1.mk ?_; repeat' ((first | (with_reducible refine Go1.go ?_) | (((with_reducible refine isCall (f := 24) ?_); refine callA_nil (by kernel_rfl) ?_; refine (rorder29_ok hv2 okL2 (by omega) (fun v2 W M3 b1 b2 b3 b4 => Stop.mk ?_)))) | (refine And.intro ?_ ?_; (try simp only [sxO] at *); omega) | fail) <;> (try simp (maxSteps := 1000000) only [hv2.one, a3.one, hasK_nil, ↓hold_pre, awayP, runOps, regK, step1, newK, genR, appR, obl, buildR, Value.cells, closeK, keepH, outV, retK, ret1, retC, RetV, Option.getD, runD, stepD, afterK, undef, simprocAttr, sxB, ↓sxD, sxE, sxTab]))
  have b1 : Mem.le M2 M3 := b1
  obtain rfl := ordS_uniq hc a2 b2
  have a5 := (a3.le b1).nat
  have b5 := b3.nat
  have hlz := ordS_len hc a2
  have ht : decide (toI Z = toI Z) = true := decide_eq_true rfl
  have hk := hK
  refine Stop.go ?_
  refine Go1.mk ?_; repeat' ((first | (with_reducible refine Go1.go ?_) | (((with_reducible refine isCall (f := 23) ?_); refine callA_nil (by kernel_rfl) ?_; refine (sameInts_ok v1 v2 (toI Z) (toI Z) a5 b5 (by rw [toI_len]; omega) (by rw [toI_len]; omega) (Stop.mk ?_)))) | (refine And.intro ?_ ?_; (try simp only [sxO] at *); omega) | fail) <;> (try simp (maxSteps := 1000000) only [he, a5.one, b5.one, hasK_nil, ↓hold_pre, awayP, runOps, regK, step1, newK, genR, appR, obl, buildR, Value.cells, closeK, keepH, outV, retK, ret1, retC, RetV, Option.getD, runD, stepD, afterK, undef, simprocAttr, sxB, ↓sxD, sxE, sxTab]))
  refine Stop.go ?_
  refine Go1.mk ?_; repeat' ((first | (with_reducible refine Go1.go ?_) | (((with_reducible refine isCall (f := 15) ?_); refine callA_nil (by kernel_rfl) ?_; refine (known29_ok (fun M4 c1 => Stop.mk ?_)))) | (refine And.intro ?_ ?_; (try simp only [sxO] at *); omega) | fail) <;> (try simp (maxSteps := 1000000) only [hasK_nil, ↓hold_pre, awayP, runOps, regK, step1, newK, genR, appR, obl, buildR, Value.cells, closeK, keepH, outV, retK, ret1, retC, RetV, Option.getD, runD, stepD, afterK, undef, simprocAttr, sxB, ↓sxD, sxE, sxTab]))
  have hk := hK M4 (((m1.trans a1).trans b1).trans c1)
  refine Stop.go ?_
  refine Go1.mk ?_; repeat' ((first | (with_reducible refine Go1.go ?_) | (refine And.intro ?_ ?_; (try simp only [sxO] at *); omega) | fail) <;> (try simp (maxSteps := 1000000) only [hasK_nil, ↓hold_pre, awayP, runOps, regK, step1, newK, genR, appR, obl, buildR, Value.cells, closeK, keepH, outV, retK, ret1, retC, RetV, Option.getD, runD, stepD, afterK, undef, simprocAttr, sxB, ↓sxD, sxE, sxTab]))
  exact hk
end
end Go.Proofs.Ytjapnklocibgaaa.Sx
