/- Part 26 of the texts of this claim: a symbolic executor and contracts of functions. -/
import Derived.Test.YtgkfmlgfmcpebaaSLdRP2
namespace Go.Proofs.Ytgkfmlgfmcpebaa.Sx
open Go Go.RowKit
set_option linter.unusedVariables false
set_option linter.unusedSimpArgs false
set_option maxRecDepth 100000
set_option maxHeartbeats 8000000
attribute [local congr] fin_congr finG_congr stepG_congr step1_congr runOps_congr brv_congr obl_congr condK_congr LoopK_congr seqK_congr CutK_congr vc_congr DrawK_congr regK_congr CallK_congr AskK_congr newK_congr retC_congr ret1_congr retK_congr outV_congr closeK_congr genR_congr appR_congr finD_congr finGD_congr stepGD_congr stepD_congr CallK0_congr runD_congr okR_congr CallS_congr vcX_congr
attribute [local congr] Stop_congr
section
variable {M : Mem} {K : AV → Hp → Mem → Prop} {u v : Value} {T : List TK}
theorem maxO_ok {Ty : TypeId} {m : Nat} {E : List Nat} (hE : E.length = m) (hm1 : 1 ≤ m) (hm8 : m ≤ 8) (hK : K (.ext (.int .i64 ((maxL E : Nat) : Int))) [(7, Ty, end8 m E)] M) : CallS Try.prog 42 [.slo 7 0 m 1] [(7, Ty, end8 m E)] M [] K := by
  refine CallS.bor ⟨⟨_, rfl⟩, trivial⟩ fun us M' hM hb => ?_
  obtain ⟨x, _, rfl, h1, rfl⟩ := hb
  have h2 := h1.part (L := E ++ List.replicate (8 - m) 0) (g := natV) (T := Ty) (by simp [lkH, end8]) (by rw [List.length_append]; omega)
  rw [List.drop_zero, List.take_left' hE] at h2
  exact max_ok E h2 (by omega) (by omega) (BorK.same hK)
theorem contN (l : List Nat) (x : Nat) : (l.map fun (x : Nat) => (x : Int)).contains (x : Int) = l.contains x := by
  rw [Bool.eq_iff_iff]
  simp only [List.contains_iff_mem, List.mem_map]
  constructor
  · rintro ⟨y, h1, h2⟩
    have : y = x := by omega
    exact this ▸ h1
  · exact fun h => ⟨x, h, rfl⟩
theorem contO_ok {Ty : TypeId} {m r x : Nat} {E : List Nat} (hE : E.length = m) (hr : r ≤ m) (hm8 : m ≤ 8) (hK : K (.ext (.bool ((E.take r).contains x))) [(7, Ty, end8 m E)] M) : CallS Try.prog 43 [.slo 7 0 r 1, .ext (.int .i64 (x : Int))] [(7, Ty, end8 m E)] M [] K := by
  refine CallS.bor ⟨⟨_, rfl⟩, trivial⟩ fun us M' hM hb => ?_
  obtain ⟨y, _, rfl, h1, z, _, rfl, hz, rfl⟩ := hb
  have hz : z = .int .i64 (x : Int) := hz
  subst hz
  have h2 := h1.part (L := E ++ List.replicate (8 - m) 0) (g := natV) (T := Ty) (by simp [lkH, end8]) (by rw [List.length_append]; omega)
  rw [List.drop_zero, List.take_append_of_le_length (by omega)] at h2
  refine contains_ok y _ _ h2.nat (by rw [List.length_map, List.length_take]; omega) (BorK.same ?_)
  rw [contN]; exact hK
def plH (u v : Value) (m least : Nat) (E : List Nat) (b : Nat) : Hp := [(7, 61, end8 m E), (11, 64, [.fn 41 [.own 7 0, .own 3 0, .own 10 0, .own 9 0, .own 8 0, .own 2 0, .own 11 0]]), (10, 3, [.ext (.int .i64 (b : Int))]), (9, 3, [.ext (.int .i64 (least : Int))]), (8, 22, [.ext v]), (3, 3, [.ext (.int .i64 (m : Int))]), (2, 23, [.ext u])]
def plSt (M : Mem) (u v : Value) (m least k : Nat) (E : List Nat) (b r : Nat) : St := { env := [(28, .ext (.int .i64 (r : Int))), (27, .ext (.int .i64 (m : Int))), (0, .ext (.int .i64 (k : Int))), (1, .own 7 0), (2, .own 3 0), (3, .own 10 0), (4, .own 9 0), (5, .own 8 0), (6, .own 2 0), (7, .own 11 0)], hp := plH u v m least E b, M := M, kb := 100, fx := [7, 11, 10, 9, 8, 3, 2] }
theorem place_ok (hu : IsR M 4 TK.c u T) (hc : chkTL T = true) {m least : Nat} (hm1 : 1 ≤ m) (hm8 : m ≤ 8) {Z : List Nat} (hv : IsL M natV v Z) (hZ : ∀ x ∈ Z, x < T.length) (hZl : Z.length = T.length) : ∀ (q k : Nat) (E : List Nat) (b : Nat) (K : AV → Hp → Mem → Prop), k + q = Z.length → E.length = m → (∀ x ∈ E, x ≤ k * 1048576) → K (.ext (.tuple #[])) (plH u v m least E (plc (cosN T) m least (Z.drop k) E b)) M →
    CallS Try.prog 41 [.ext (.int .i64 (k : Int)), .own 7 0, .own 3 0, .own 10 0, .own 9 0, .own 8 0, .own 2 0, .own 11 0] (plH u v m least E b) M [] K := by
  obtain ⟨hT64, hTc⟩ := chkTL_parts hc
  intro q
  induction q with
  | zero =>
    intro k E b K hq hE hEb hK
    obtain rfl : k = Z.length := by omega
    rw [List.drop_length] at hK
    simp only [plc] at hK
    refine inlS (cs := []) Try.mixed Try.func41 rfl (by kernel_rfl) 100 rfl rfl ?_
    simp only [Try.f41]
    have l8 := end8_len hE hm8
    have b1 : (0 : Int) ≤ (m : Int) := by omega
    have b2 : (m : Int) ≤ 8 := by omega
    have d0 : decide ((Z.length : Int) = (Z.length : Int)) = true := by simp
    by_cases h1 : b ≤ maxL E
    · have d1 : decide ((b : Int) ≤ ((maxL E : Nat) : Int)) = true := by rw [decide_eq_true_eq]; omega
      rw [if_pos (.inl h1)] at hK
      (replace hb0 := true_and True); refine Go1.mk ?_; repeat' ((first | (with_reducible refine Go1.go ?_) | ((with_reducible first | refine brv_mk ?_ ?_ | refine gsplitD ?_ ?_ | refine gsplitG ?_ ?_) <;> intro h <;> (try simp only [Bool.not_eq_true', Bool.not_eq_false'] at h) <;> replace hb0 := h) | ((with_reducible refine isCall (f := 42) ?_); refine callA ?_) | ((with_reducible refine isCallS (f := 42) ?_); refine (maxO_ok hE hm1 hm8 (Stop.mk ?_))) | (refine And.intro ?_ ?_; (try simp only [sxO] at *); omega) | fail) <;> (try simp (maxSteps := 1000000) only [hb0, plH, l8, b1, b2, Int.toNat_natCast, Int.toNat_zero, Nat.sub_zero, Nat.mul_one, Nat.zero_add, Nat.zero_mul, end8_ment, end8_kill, hasK_nil, hv.one, hv.len, hv.sl, d1, ↓hold_pre, awayP, runOps, regK, step1, newK, genR, appR, obl, buildR, Value.cells, closeK, keepH, outV, retK, ret1, retC, RetV, Option.getD, runD, stepD, afterK, undef, simprocAttr, sxB, ↓sxD, sxE, sxTab]))
      refine Stop.go ?_
      (replace hb0 := true_and True); refine Go1.mk ?_; repeat' ((first | (with_reducible refine Go1.go ?_) | ((with_reducible first | refine brv_mk ?_ ?_ | refine gsplitD ?_ ?_ | refine gsplitG ?_ ?_) <;> intro h <;> (try simp only [Bool.not_eq_true', Bool.not_eq_false'] at h) <;> replace hb0 := h) | (refine And.intro ?_ ?_; (try simp only [sxO] at *); omega) | fail) <;> (try simp (maxSteps := 1000000) only [hb0, plH, l8, b1, b2, Int.toNat_natCast, Int.toNat_zero, Nat.sub_zero, Nat.mul_one, Nat.zero_add, Nat.zero_mul, end8_ment, end8_kill, hasK_nil, hv.one, hv.len, hv.sl, d1, ↓hold_pre, awayP, runOps, regK, step1, newK, genR, appR, obl, buildR, Value.cells, closeK, keepH, outV, retK, ret1, retC, RetV, Option.getD, runD, stepD, afterK, undef, simprocAttr, sxB, ↓sxD, sxE, sxTab]))
      exact hK
    have d1 : decide ((b : Int) ≤ ((maxL E : Nat) : Int)) = false := by rw [decide_eq_false_iff_not]; omega
    by_cases h2 : b = least
    · have d2 : decide ((b : Int) = (least : Int)) = true := by rw [decide_eq_true_eq]; omega
      rw [if_pos (.inr h2)] at hK
      (replace hb0 := true_and True); refine Go1.mk ?_; repeat' ((first | (with_reducible refine Go1.go ?_) | ((with_reducible first | refine brv_mk ?_ ?_ | refine gsplitD ?_ ?_ | refine gsplitG ?_ ?_) <;> intro h <;> (try simp only [Bool.not_eq_true', Bool.not_eq_false'] at h) <;> replace hb0 := h) | ((with_reducible refine isCall (f := 42) ?_); refine callA ?_) | ((with_reducible refine isCallS (f := 42) ?_); refine (maxO_ok hE hm1 hm8 (Stop.mk ?_))) | (refine And.intro ?_ ?_; (try simp only [sxO] at *); omega) | fail) <;> (try simp (maxSteps := 1000000) only [hb0, plH, l8, b1, b2, Int.toNat_natCast, Int.toNat_zero, Nat.sub_zero, Nat.mul_one, Nat.zero_add, Nat.zero_mul, end8_ment, end8_kill, hasK_nil, hv.one, hv.len, hv.sl, d1, d2, ↓hold_pre, awayP, runOps, regK, step1, newK, genR, appR, obl, buildR, Value.cells, closeK, keepH, outV, retK, ret1, retC, RetV, Option.getD, runD, stepD, afterK, undef, simprocAttr, sxB, ↓sxD, sxE, sxTab]))
      refine Stop.go ?_
      (replace hb0 := true_and True); refine Go1.mk ?_; repeat' ((first | (with_reducible refine Go1.go ?_) | ((with_reducible first | refine brv_mk ?_ ?_ | refine gsplitD ?_ ?_ | refine gsplitG ?_ ?_) <;> intro h <;> (try simp only [Bool.not_eq_true', Bool.not_eq_false'] at h) <;> replace hb0 := h) | (refine And.intro ?_ ?_; (try simp only [sxO] at *); omega) | fail) <;> (try simp (maxSteps := 1000000) only [hb0, plH, l8, b1, b2, Int.toNat_natCast, Int.toNat_zero, Nat.sub_zero, Nat.mul_one, Nat.zero_add, Nat.zero_mul, end8_ment, end8_kill, hasK_nil, hv.one, hv.len, hv.sl, d1, d2, ↓hold_pre, awayP, runOps, regK, step1, newK, genR, appR, obl, buildR, Value.cells, closeK, keepH, outV, retK, ret1, retC, RetV, Option.getD, runD, stepD, afterK, undef, simprocAttr, sxB, ↓sxD, sxE, sxTab]))
      exact hK
    have d2 : decide ((b : Int) = (least : Int)) = false := by rw [decide_eq_false_iff_not]; omega
    rw [if_neg (by rintro (h | h); exact h1 h; exact h2 h)] at hK
    (replace hb0 := true_and True); refine Go1.mk ?_; repeat' ((first | (with_reducible refine Go1.go ?_) | ((with_reducible first | refine brv_mk ?_ ?_ | refine gsplitD ?_ ?_ | refine gsplitG ?_ ?_) <;> intro h <;> (try simp only [Bool.not_eq_true', Bool.not_eq_false'] at h) <;> replace hb0 := h) | ((with_reducible refine isCall (f := 42) ?_); refine callA ?_) | ((with_reducible refine isCallS (f := 42) ?_); refine (maxO_ok hE hm1 hm8 (Stop.mk ?_))) | (refine And.intro ?_ ?_; (try simp only [sxO] at *); omega) | fail) <;> (try simp (maxSteps := 1000000) only [hb0, plH, l8, b1, b2, Int.toNat_natCast, Int.toNat_zero, Nat.sub_zero, Nat.mul_one, Nat.zero_add, Nat.zero_mul, end8_ment, end8_kill, hasK_nil, hv.one, hv.len, hv.sl, d1, d2, ↓hold_pre, awayP, runOps, regK, step1, newK, genR, appR, obl, buildR, Value.cells, closeK, keepH, outV, retK, ret1, retC, RetV, Option.getD, runD, stepD, afterK, undef, simprocAttr, sxB, ↓sxD, sxE, sxTab]))
    refine Stop.go ?_
    (replace hb0 := true_and True); refine Go1.mk ?_; repeat' ((first | (with_reducible refine Go1.go ?_) | ((with_reducible first | refine brv_mk ?_ ?_ | refine gsplitD ?_ ?_ | refine gsplitG ?_ ?_) <;> intro h <;> (try simp only [Bool.not_eq_true', Bool.not_eq_false'] at h) <;> replace hb0 := h) | (refine And.intro ?_ ?_; (try simp only [sxO] at *); omega) | fail) <;> (try simp (maxSteps := 1000000) only [hb0, plH, l8, b1, b2, Int.toNat_natCast, Int.toNat_zero, Nat.sub_zero, Nat.mul_one, Nat.zero_add, Nat.zero_mul, end8_ment, end8_kill, hasK_nil, hv.one, hv.len, hv.sl, d0, d1, d2, ↓hold_pre, awayP, runOps, regK, step1, newK, genR, appR, obl, buildR, Value.cells, closeK, keepH, outV, retK, ret1, retC, RetV, Option.getD, runD, stepD, afterK, undef, simprocAttr, sxB, ↓sxD, sxE, sxTab]))
    exact hK
  | succ q ih =>
    intro k E b K hq hE hEb hK
    have hkl : k < Z.length := by omega
    have hdr : Z.drop k = Z[k] :: Z.drop (k + 1) := (List.getElem_cons_drop hkl).symm
    have hvk := hv.at (P := Try.prog) (T := 3) tk3 tz3 hkl
    have hi := hZ _ (List.getElem_mem hkl)
    have vnn := hv.nn hkl
    rw [hdr, plc_cons] at hK
    clear hdr
    generalize Z[k] = i at *
    have hvk : lookM Try.prog 3 M (elemP v 1 k) = some (.int .i64 (i : Int)) := hvk
    refine inlS (cs := []) Try.mixed Try.func41 rfl (by kernel_rfl) 100 rfl rfl ?_
    simp only [Try.f41]
    have l8 := end8_len hE hm8
    have b1 : (0 : Int) ≤ (m : Int) := by omega
    have b2 : (m : Int) ≤ 8 := by omega
    have d0 : decide ((k : Int) = (Z.length : Int)) = false := by rw [decide_eq_false_iff_not]; omega
    by_cases h1 : b ≤ maxL E
    · have d1 : decide ((b : Int) ≤ ((maxL E : Nat) : Int)) = true := by rw [decide_eq_true_eq]; omega
      rw [if_pos (.inl h1)] at hK
      (replace hb0 := true_and True); refine Go1.mk ?_; repeat' ((first | (with_reducible refine Go1.go ?_) | ((with_reducible first | refine brv_mk ?_ ?_ | refine gsplitD ?_ ?_ | refine gsplitG ?_ ?_) <;> intro h <;> (try simp only [Bool.not_eq_true', Bool.not_eq_false'] at h) <;> replace hb0 := h) | ((with_reducible refine isCall (f := 42) ?_); refine callA ?_) | ((with_reducible refine isCallS (f := 42) ?_); refine (maxO_ok hE hm1 hm8 (Stop.mk ?_))) | (refine And.intro ?_ ?_; (try simp only [sxO] at *); omega) | fail) <;> (try simp (maxSteps := 1000000) only [hb0, plH, l8, b1, b2, Int.toNat_natCast, Int.toNat_zero, Nat.sub_zero, Nat.mul_one, Nat.zero_add, Nat.zero_mul, end8_ment, end8_kill, hasK_nil, hv.one, hv.len, hv.sl, d1, ↓hold_pre, awayP, runOps, regK, step1, newK, genR, appR, obl, buildR, Value.cells, closeK, keepH, outV, retK, ret1, retC, RetV, Option.getD, runD, stepD, afterK, undef, simprocAttr, sxB, ↓sxD, sxE, sxTab]))
      refine Stop.go ?_
      (replace hb0 := true_and True); refine Go1.mk ?_; repeat' ((first | (with_reducible refine Go1.go ?_) | ((with_reducible first | refine brv_mk ?_ ?_ | refine gsplitD ?_ ?_ | refine gsplitG ?_ ?_) <;> intro h <;> (try simp only [Bool.not_eq_true', Bool.not_eq_false'] at h) <;> replace hb0 := h) | (refine And.intro ?_ ?_; (try simp only [sxO] at *); omega) | fail) <;> (try simp (maxSteps := 1000000) only [hb0, plH, l8, b1, b2, Int.toNat_natCast, Int.toNat_zero, Nat.sub_zero, Nat.mul_one, Nat.zero_add, Nat.zero_mul, end8_ment, end8_kill, hasK_nil, hv.one, hv.len, hv.sl, d1, ↓hold_pre, awayP, runOps, regK, step1, newK, genR, appR, obl, buildR, Value.cells, closeK, keepH, outV, retK, ret1, retC, RetV, Option.getD, runD, stepD, afterK, undef, simprocAttr, sxB, ↓sxD, sxE, sxTab]))
      exact hK
    have d1 : decide ((b : Int) ≤ ((maxL E : Nat) : Int)) = false := by rw [decide_eq_false_iff_not]; omega
    by_cases h2 : b = least
    · have d2 : decide ((b : Int) = (least : Int)) = true := by rw [decide_eq_true_eq]; omega
      rw [if_pos (.inr h2)] at hK
      (replace hb0 := true_and True); refine Go1.mk ?_; repeat' ((first | (with_reducible refine Go1.go ?_) | ((with_reducible first | refine brv_mk ?_ ?_ | refine gsplitD ?_ ?_ | refine gsplitG ?_ ?_) <;> intro h <;> (try simp only [Bool.not_eq_true', Bool.not_eq_false'] at h) <;> replace hb0 := h) | ((with_reducible refine isCall (f := 42) ?_); refine callA ?_) | ((with_reducible refine isCallS (f := 42) ?_); refine (maxO_ok hE hm1 hm8 (Stop.mk ?_))) | (refine And.intro ?_ ?_; (try simp only [sxO] at *); omega) | fail) <;> (try simp (maxSteps := 1000000) only [hb0, plH, l8, b1, b2, Int.toNat_natCast, Int.toNat_zero, Nat.sub_zero, Nat.mul_one, Nat.zero_add, Nat.zero_mul, end8_ment, end8_kill, hasK_nil, hv.one, hv.len, hv.sl, d1, d2, ↓hold_pre, awayP, runOps, regK, step1, newK, genR, appR, obl, buildR, Value.cells, closeK, keepH, outV, retK, ret1, retC, RetV, Option.getD, runD, stepD, afterK, undef, simprocAttr, sxB, ↓sxD, sxE, sxTab]))
      refine Stop.go ?_
      (replace hb0 := true_and True); refine Go1.mk ?_; repeat' ((first | (with_reducible refine Go1.go ?_) | ((with_reducible first | refine brv_mk ?_ ?_ | refine gsplitD ?_ ?_ | refine gsplitG ?_ ?_) <;> intro h <;> (try simp only [Bool.not_eq_true', Bool.not_eq_false'] at h) <;> replace hb0 := h) | (refine And.intro ?_ ?_; (try simp only [sxO] at *); omega) | fail) <;> (try simp (maxSteps := 1000000) only [hb0, plH, l8, b1, b2, Int.toNat_natCast, Int.toNat_zero, Nat.sub_zero, Nat.mul_one, Nat.zero_add, Nat.zero_mul, end8_ment, end8_kill, hasK_nil, hv.one, hv.len, hv.sl, d1, d2, ↓hold_pre, awayP, runOps, regK, step1, newK, genR, appR, obl, buildR, Value.cells, closeK, keepH, outV, retK, ret1, retC, RetV, Option.getD, runD, stepD, afterK, undef, simprocAttr, sxB, ↓sxD, sxE, sxTab]))
      exact hK
    have d2 : decide ((b : Int) = (least : Int)) = false := by rw [decide_eq_false_iff_not]; omega
    rw [if_neg (by rintro (h | h); exact h1 h; exact h2 h)] at hK
    (replace hb0 := true_and True); refine Go1.mk ?_; repeat' ((first | (with_reducible refine Go1.go ?_) | ((with_reducible first | refine brv_mk ?_ ?_ | refine gsplitD ?_ ?_ | refine gsplitG ?_ ?_) <;> intro h <;> (try simp only [Bool.not_eq_true', Bool.not_eq_false'] at h) <;> replace hb0 := h) | ((with_reducible refine isCall (f := 42) ?_); refine callA ?_) | ((with_reducible refine isCallS (f := 42) ?_); refine (maxO_ok hE hm1 hm8 (Stop.mk ?_))) | (refine And.intro ?_ ?_; (try simp only [sxO] at *); omega) | fail) <;> (try simp (maxSteps := 1000000) only [hb0, plH, l8, b1, b2, Int.toNat_natCast, Int.toNat_zero, Nat.sub_zero, Nat.mul_one, Nat.zero_add, Nat.zero_mul, end8_ment, end8_kill, hasK_nil, hv.one, hv.len, hv.sl, d1, d2, ↓hold_pre, awayP, runOps, regK, step1, newK, genR, appR, obl, buildR, Value.cells, closeK, keepH, outV, retK, ret1, retC, RetV, Option.getD, runD, stepD, afterK, undef, simprocAttr, sxB, ↓sxD, sxE, sxTab]))
    refine Stop.go ?_
    (replace hb0 := true_and True); refine Go1.mk ?_; repeat' ((first | (with_reducible refine Go1.go ?_) | ((with_reducible first | refine brv_mk ?_ ?_ | refine gsplitD ?_ ?_ | refine gsplitG ?_ ?_) <;> intro h <;> (try simp only [Bool.not_eq_true', Bool.not_eq_false'] at h) <;> replace hb0 := h) | (refine And.intro ?_ ?_; (try simp only [sxO] at *); omega) | fail) <;> (try simp (maxSteps := 1000000) only [hb0, plH, l8, b1, b2, Int.toNat_natCast, Int.toNat_zero, Nat.sub_zero, Nat.mul_one, Nat.zero_add, Nat.zero_mul, end8_ment, end8_kill, hasK_nil, hv.one, hv.len, hv.sl, d0, d1, d2, ↓hold_pre, awayP, runOps, regK, step1, newK, genR, appR, obl, buildR, Value.cells, closeK, keepH, outV, retK, ret1, retC, RetV, Option.getD, runD, stepD, afterK, undef, simprocAttr, sxB, ↓sxD, sxE, sxTab]))
    refine ⟨fun d z => ∃ r b', d = m - r ∧ r ≤ m ∧ b' = (List.range r).foldl (plcS (cosN T) m least i (Z.drop (k + 1)) E) b ∧ z = plSt M u v m least k E b' r,
      ⟨m, plSt M u v m least k E b 0, le_sub ⟨rfl, rfl, rfl, rfl, rfl, rfl, rfl, rfl, rfl, rfl, trivial⟩ ⟨rfl, rfl, rfl, rfl, rfl, rfl, rfl, trivial⟩ rfl rfl rfl (by simp [keepLt, plSt, plH, lkH]), ⟨0, b, by omega, by omega, rfl, rfl⟩⟩, ?_⟩
    clear d1 d2 h1 h2
    rintro d z ⟨r, b', rfl, hr, hb', rfl⟩
    by_cases hlt : r < m
    case neg =>
      obtain rfl : r = m := by omega
      have c1 : decide ((r : Int) < (r : Int)) = false := by simp
      rw [← hb'] at hK
      (replace hb0 := true_and True); refine Go1.mk ?_; repeat' ((first | (with_reducible refine Go1.go ?_) | ((with_reducible first | refine brv_mk ?_ ?_ | refine gsplitD ?_ ?_ | refine gsplitG ?_ ?_) <;> intro h <;> (try simp only [Bool.not_eq_true', Bool.not_eq_false'] at h) <;> replace hb0 := h) | (refine And.intro ?_ ?_; (try simp only [sxO] at *); omega) | fail) <;> (try simp (maxSteps := 1000000) only [hb0, plSt, c1, plH, l8, b1, b2, Int.toNat_natCast, Int.toNat_zero, Nat.sub_zero, Nat.mul_one, Nat.zero_add, Nat.zero_mul, end8_ment, end8_kill, hasK_nil, hv.one, hv.len, hv.sl, ↓hold_pre, awayP, runOps, regK, step1, newK, genR, appR, obl, buildR, Value.cells, closeK, keepH, outV, retK, ret1, retC, RetV, Option.getD, runD, stepD, afterK, undef, simprocAttr, sxB, ↓sxD, sxE, sxTab]))
      exact hK
    have c1 : decide ((r : Int) < (m : Int)) = true := by rw [decide_eq_true_eq]; omega
    have c2 : (0 : Int) ≤ (r : Int) := by omega
    have c3 : (r : Int) < 8 := by omega
    have c4 : (r : Int) ≤ 8 := by omega
    have wr : IntKind.i64.wrap ((r : Int) + 1) = ((r + 1 : Nat) : Int) := succ_i (by omega)
    have wk : IntKind.i64.wrap ((k : Int) + 1) = ((k + 1 : Nat) : Int) := succ_i (by omega)
    have a1 := end8_at hE hlt
    have hnb : (List.range (r + 1)).foldl (plcS (cosN T) m least i (Z.drop (k + 1)) E) b = plcS (cosN T) m least i (Z.drop (k + 1)) E b' r := by rw [List.range_succ, List.foldl_append, ← hb']; rfl
    cases hcn : (E.take r).contains (E.getD r 0) with
    | true =>
      have hnb2 : plcS (cosN T) m least i (Z.drop (k + 1)) E b' r = b' := by unfold plcS; rw [hcn]; rfl
      rw [hnb2] at hnb
      (replace hb0 := true_and True); refine Go1.mk ?_; repeat' ((first | (with_reducible refine Go1.go ?_) | ((with_reducible first | refine brv_mk ?_ ?_ | refine gsplitD ?_ ?_ | refine gsplitG ?_ ?_) <;> intro h <;> (try simp only [Bool.not_eq_true', Bool.not_eq_false'] at h) <;> replace hb0 := h) | ((with_reducible refine isCall (f := 43) ?_); refine callA ?_) | ((with_reducible refine isCall0 (f := 43) ?_); refine callA0 ?_) | ((with_reducible refine isCallS (f := 43) ?_); refine (contO_ok hE (by omega) hm8 (Stop.mk ?_))) | ((with_reducible refine isDraw [some 31, some 32, some 33, some 34, some 35, some 36] (by decide) ?_); refine draw_rule [(0, []), (1, []), (2, [1]), (3, [1]), (4, [1]), (5, [])] [[], [0], [], [2], [2, 3], [0, 1, 2, 3, 4]] [31, 32, 33, 34, 35] [] (by kernel_rfl) (by kernel_rfl) (by kernel_rfl) (by kernel_rfl) (by exact trivial) ?_) | ((with_reducible refine isDraw [some 37, some 38, some 39, some 40, some 41, some 42, some 43, some 44, some 45, some 46, some 47, some 48, some 49, none] (by decide) ?_); refine draw_rule [(0, []), (1, []), (2, []), (3, [2]), (4, [2, 3]), (5, [2, 3, 4]), (6, [2, 3]), (7, [2, 3]), (8, [2]), (9, [2]), (10, [2]), (11, []), (12, []), (13, [])] [[], [0], [0, 1], [], [], [], [4, 5], [4, 5, 6], [3, 4, 5, 6, 7], [3, 4, 5, 6, 7, 8], [3, 4, 5, 6, 7, 8, 9], [0, 1, 2, 3, 4, 5, 6, 7, 8, 9, 10], [0, 1, 2, 3, 4, 5, 6, 7, 8, 9, 10, 11], [0, 1, 2, 3, 4, 5, 6, 7, 8, 9, 10, 11, 12]] [37, 38, 39, 40, 41, 42, 43, 44, 45, 46, 47] [] (by kernel_rfl) (by kernel_rfl) (by kernel_rfl) (by kernel_rfl) (by exact trivial) ?_) | ((with_reducible refine isDraw [some 54, some 55, some 56, some 57, some 58, some 59, some 60, some 61, some 62, some 63, some 64, some 65, some 66, none] (by decide) ?_); refine draw_rule [(0, []), (1, []), (2, []), (3, [2]), (4, [2, 3]), (5, [2, 3, 4]), (6, [2, 3]), (7, [2, 3]), (8, [2]), (9, [2]), (10, [2]), (11, []), (12, []), (13, [])] [[], [0], [0, 1], [], [], [], [4, 5], [4, 5, 6], [3, 4, 5, 6, 7], [3, 4, 5, 6, 7, 8], [3, 4, 5, 6, 7, 8, 9], [0, 1, 2, 3, 4, 5, 6, 7, 8, 9, 10], [0, 1, 2, 3, 4, 5, 6, 7, 8, 9, 10, 11], [0, 1, 2, 3, 4, 5, 6, 7, 8, 9, 10, 11, 12]] [54, 55, 56, 57, 58, 59, 60, 61, 62, 63, 64] [] (by kernel_rfl) (by kernel_rfl) (by kernel_rfl) (by kernel_rfl) (by exact trivial) ?_) | (refine And.intro ?_ ?_; (try simp only [sxO] at *); omega) | fail) <;> (try simp (maxSteps := 1000000) only [hb0, plSt, c1, c2, c3, c4, a1, plH, l8, b1, b2, Int.toNat_natCast, Int.toNat_zero, Nat.sub_zero, Nat.mul_one, Nat.zero_add, Nat.zero_mul, end8_ment, end8_kill, hasK_nil, hv.one, hv.len, hv.sl, ↓hold_pre, awayP, runOps, regK, step1, newK, genR, appR, obl, buildR, Value.cells, closeK, keepH, outV, retK, ret1, retC, RetV, Option.getD, runD, stepD, afterK, undef, simprocAttr, sxB, ↓sxD, sxE, sxTab]))
      rw [hcn]
      refine Stop.go ?_
      (replace hb0 := true_and True); refine Go1.mk ?_; repeat' ((first | (with_reducible refine Go1.go ?_) | ((with_reducible first | refine brv_mk ?_ ?_ | refine gsplitD ?_ ?_ | refine gsplitG ?_ ?_) <;> intro h <;> (try simp only [Bool.not_eq_true', Bool.not_eq_false'] at h) <;> replace hb0 := h) | ((with_reducible refine isDraw [some 31, some 32, some 33, some 34, some 35, some 36] (by decide) ?_); refine draw_rule [(0, []), (1, []), (2, [1]), (3, [1]), (4, [1]), (5, [])] [[], [0], [], [2], [2, 3], [0, 1, 2, 3, 4]] [31, 32, 33, 34, 35] [] (by kernel_rfl) (by kernel_rfl) (by kernel_rfl) (by kernel_rfl) (by exact trivial) ?_) | ((with_reducible refine isDraw [some 37, some 38, some 39, some 40, some 41, some 42, some 43, some 44, some 45, some 46, some 47, some 48, some 49, none] (by decide) ?_); refine draw_rule [(0, []), (1, []), (2, []), (3, [2]), (4, [2, 3]), (5, [2, 3, 4]), (6, [2, 3]), (7, [2, 3]), (8, [2]), (9, [2]), (10, [2]), (11, []), (12, []), (13, [])] [[], [0], [0, 1], [], [], [], [4, 5], [4, 5, 6], [3, 4, 5, 6, 7], [3, 4, 5, 6, 7, 8], [3, 4, 5, 6, 7, 8, 9], [0, 1, 2, 3, 4, 5, 6, 7, 8, 9, 10], [0, 1, 2, 3, 4, 5, 6, 7, 8, 9, 10, 11], [0, 1, 2, 3, 4, 5, 6, 7, 8, 9, 10, 11, 12]] [37, 38, 39, 40, 41, 42, 43, 44, 45, 46, 47] [] (by kernel_rfl) (by kernel_rfl) (by kernel_rfl) (by kernel_rfl) (by exact trivial) ?_) | ((with_reducible refine isDraw [some 54, some 55, some 56, some 57, some 58, some 59, some 60, some 61, some 62, some 63, some 64, some 65, some 66, none] (by decide) ?_); refine draw_rule [(0, []), (1, []), (2, []), (3, [2]), (4, [2, 3]), (5, [2, 3, 4]), (6, [2, 3]), (7, [2, 3]), (8, [2]), (9, [2]), (10, [2]), (11, []), (12, []), (13, [])] [[], [0], [0, 1], [], [], [], [4, 5], [4, 5, 6], [3, 4, 5, 6, 7], [3, 4, 5, 6, 7, 8], [3, 4, 5, 6, 7, 8, 9], [0, 1, 2, 3, 4, 5, 6, 7, 8, 9, 10], [0, 1, 2, 3, 4, 5, 6, 7, 8, 9, 10, 11], [0, 1, 2, 3, 4, 5, 6, 7, 8, 9, 10, 11, 12]] [54, 55, 56, 57, 58, 59, 60, 61, 62, 63, 64] [] (by kernel_rfl) (by kernel_rfl) (by kernel_rfl) (by kernel_rfl) (by exact trivial) ?_) | (refine And.intro ?_ ?_; (try simp only [sxO] at *); omega) | fail) <;> (try simp (maxSteps := 1000000) only [hb0, wr, plH, l8, b1, b2, Int.toNat_natCast, Int.toNat_zero, Nat.sub_zero, Nat.mul_one, Nat.zero_add, Nat.zero_mul, end8_ment, end8_kill, hasK_nil, hv.one, hv.len, hv.sl, ↓hold_pre, awayP, runOps, regK, step1, newK, genR, appR, obl, buildR, Value.cells, closeK, keepH, outV, retK, ret1, retC, RetV, Option.getD, runD, stepD, afterK, undef, simprocAttr, sxB, ↓sxD, sxE, sxTab]))
      exact ⟨m - (r + 1), plSt M u v m least k E b' (r + 1), by omega, le_sub ⟨rfl, rfl, rfl, rfl, rfl, rfl, rfl, rfl, rfl, rfl, trivial⟩ ⟨rfl, rfl, rfl, rfl, rfl, rfl, rfl, trivial⟩ rfl rfl rfl (by simp [keepLt, plSt, plH, lkH]), r + 1, b', rfl, by omega, hnb.symm, rfl⟩
    | false =>
      have hnb2 : plcS (cosN T) m least i (Z.drop (k + 1)) E b' r = plc (cosN T) m least (Z.drop (k + 1)) (E.set r (E.getD r 0 + cosN T i)) b' := by unfold plcS; rw [hcn]; rfl
      rw [hnb2] at hnb
      have hEr : E.getD r 0 ≤ k * 1048576 := by
        rw [List.getD_eq_getElem?_getD, List.getElem?_eq_getElem (by omega)]
        exact hEb _ (List.getElem_mem _)
      have hci := hTc i hi
      have hcb : cosN T i ≤ 1048576 := by unfold cosN; omega
      have w1 : IntKind.i64.wrap (((E.getD r 0 : Nat) : Int) + ((cosN T i : Nat) : Int)) = ((E.getD r 0 + cosN T i : Nat) : Int) := by rw [wrap_id (by omega) (by omega)]; omega
      have w2 : IntKind.i64.wrap (((E.getD r 0 + cosN T i : Nat) : Int) - ((cosN T i : Nat) : Int)) = ((E.getD r 0 : Nat) : Int) := by rw [wrap_id (by omega) (by omega)]; omega
      have st := end8_set hE hlt (E.getD r 0 + cosN T i)
      have hE2 : (E.set r (E.getD r 0 + cosN T i)).length = m := by rw [List.length_set, hE]
      have a2 := end8_at hE2 hlt
      rw [getD_set (by omega), if_pos rfl] at a2
      have sb := end8_set hE2 hlt (E.getD r 0)
      rw [set_back (by omega)] at sb
      have l2 := end8_len hE2 hm8
      have hEb2 := setE_le hEb (b := r) (y := E.getD r 0 + cosN T i) (Nat.le_trans (Nat.add_le_add hEr hcb) (by rw [Nat.succ_mul]; exact Nat.le_refl _))
      have unn := hu.nn hi
      have upt := hu.pt hi
      have uat := hu.atF (P := Try.prog) (T := 3) (fun _ => rfl) tk3 tz3 hi (o := 3) (v := .int .i64 T[i].cost) rfl
      rw [cosN_cost hi hci.1] at uat
      have i1 : (0 : Int) ≤ (i : Int) := by omega
      have i2 : (i : Int) < (T.length : Int) := by omega
      have k1 : (0 : Int) ≤ (k : Int) := by omega
      have k2 : (k : Int) < (Z.length : Int) := by omega
      have ih2 := fun K hK => ih (k + 1) (E.set r (E.getD r 0 + cosN T i)) b' K (by omega) hE2 hEb2 hK
      clear ih
      generalize plc (cosN T) m least (Z.drop (k + 1)) (E.set r (E.getD r 0 + cosN T i)) b' = nb at *
      (replace hb0 := true_and True); refine Go1.mk ?_; repeat' ((first | (with_reducible refine Go1.go ?_) | ((with_reducible first | refine brv_mk ?_ ?_ | refine gsplitD ?_ ?_ | refine gsplitG ?_ ?_) <;> intro h <;> (try simp only [Bool.not_eq_true', Bool.not_eq_false'] at h) <;> replace hb0 := h) | ((with_reducible refine isCall (f := 43) ?_); refine callA ?_) | ((with_reducible refine isCall0 (f := 43) ?_); refine callA0 ?_) | ((with_reducible refine isCallS (f := 43) ?_); refine (contO_ok hE (by omega) hm8 (Stop.mk ?_))) | ((with_reducible refine isDraw [some 31, some 32, some 33, some 34, some 35, some 36] (by decide) ?_); refine draw_rule [(0, []), (1, []), (2, [1]), (3, [1]), (4, [1]), (5, [])] [[], [0], [], [2], [2, 3], [0, 1, 2, 3, 4]] [31, 32, 33, 34, 35] [] (by kernel_rfl) (by kernel_rfl) (by kernel_rfl) (by kernel_rfl) (by exact trivial) ?_) | ((with_reducible refine isDraw [some 37, some 38, some 39, some 40, some 41, some 42, some 43, some 44, some 45, some 46, some 47, some 48, some 49, none] (by decide) ?_); refine draw_rule [(0, []), (1, []), (2, []), (3, [2]), (4, [2, 3]), (5, [2, 3, 4]), (6, [2, 3]), (7, [2, 3]), (8, [2]), (9, [2]), (10, [2]), (11, []), (12, []), (13, [])] [[], [0], [0, 1], [], [], [], [4, 5], [4, 5, 6], [3, 4, 5, 6, 7], [3, 4, 5, 6, 7, 8], [3, 4, 5, 6, 7, 8, 9], [0, 1, 2, 3, 4, 5, 6, 7, 8, 9, 10], [0, 1, 2, 3, 4, 5, 6, 7, 8, 9, 10, 11], [0, 1, 2, 3, 4, 5, 6, 7, 8, 9, 10, 11, 12]] [37, 38, 39, 40, 41, 42, 43, 44, 45, 46, 47] [] (by kernel_rfl) (by kernel_rfl) (by kernel_rfl) (by kernel_rfl) (by exact trivial) ?_) | ((with_reducible refine isDraw [some 54, some 55, some 56, some 57, some 58, some 59, some 60, some 61, some 62, some 63, some 64, some 65, some 66, none] (by decide) ?_); refine draw_rule [(0, []), (1, []), (2, []), (3, [2]), (4, [2, 3]), (5, [2, 3, 4]), (6, [2, 3]), (7, [2, 3]), (8, [2]), (9, [2]), (10, [2]), (11, []), (12, []), (13, [])] [[], [0], [0, 1], [], [], [], [4, 5], [4, 5, 6], [3, 4, 5, 6, 7], [3, 4, 5, 6, 7, 8], [3, 4, 5, 6, 7, 8, 9], [0, 1, 2, 3, 4, 5, 6, 7, 8, 9, 10], [0, 1, 2, 3, 4, 5, 6, 7, 8, 9, 10, 11], [0, 1, 2, 3, 4, 5, 6, 7, 8, 9, 10, 11, 12]] [54, 55, 56, 57, 58, 59, 60, 61, 62, 63, 64] [] (by kernel_rfl) (by kernel_rfl) (by kernel_rfl) (by kernel_rfl) (by exact trivial) ?_) | (refine And.intro ?_ ?_; (try simp only [sxO] at *); omega) | fail) <;> (try simp (maxSteps := 1000000) only [hb0, plSt, c1, c2, c3, c4, a1, plH, l8, b1, b2, Int.toNat_natCast, Int.toNat_zero, Nat.sub_zero, Nat.mul_one, Nat.zero_add, Nat.zero_mul, end8_ment, end8_kill, hasK_nil, hv.one, hv.len, hv.sl, ↓hold_pre, awayP, runOps, regK, step1, newK, genR, appR, obl, buildR, Value.cells, closeK, keepH, outV, retK, ret1, retC, RetV, Option.getD, runD, stepD, afterK, undef, simprocAttr, sxB, ↓sxD, sxE, sxTab]))
      rw [hcn]
      refine Stop.go ?_
      (replace hb0 := true_and True); refine Go1.mk ?_; repeat' ((first | (with_reducible refine Go1.go ?_) | ((with_reducible first | refine brv_mk ?_ ?_ | refine gsplitD ?_ ?_ | refine gsplitG ?_ ?_) <;> intro h <;> (try simp only [Bool.not_eq_true', Bool.not_eq_false'] at h) <;> replace hb0 := h) | ((with_reducible refine isCall (f := 41) ?_); refine callA ?_) | ((with_reducible refine isCallS (f := 41) ?_); refine (ih2 _ (Stop.mk ?_))) | ((with_reducible refine isDraw [some 31, some 32, some 33, some 34, some 35, some 36] (by decide) ?_); refine draw_rule [(0, []), (1, []), (2, [1]), (3, [1]), (4, [1]), (5, [])] [[], [0], [], [2], [2, 3], [0, 1, 2, 3, 4]] [31, 32, 33, 34, 35] [] (by kernel_rfl) (by kernel_rfl) (by kernel_rfl) (by kernel_rfl) (by exact trivial) ?_) | ((with_reducible refine isDraw [some 37, some 38, some 39, some 40, some 41, some 42, some 43, some 44, some 45, some 46, some 47, some 48, some 49, none] (by decide) ?_); refine draw_rule [(0, []), (1, []), (2, []), (3, [2]), (4, [2, 3]), (5, [2, 3, 4]), (6, [2, 3]), (7, [2, 3]), (8, [2]), (9, [2]), (10, [2]), (11, []), (12, []), (13, [])] [[], [0], [0, 1], [], [], [], [4, 5], [4, 5, 6], [3, 4, 5, 6, 7], [3, 4, 5, 6, 7, 8], [3, 4, 5, 6, 7, 8, 9], [0, 1, 2, 3, 4, 5, 6, 7, 8, 9, 10], [0, 1, 2, 3, 4, 5, 6, 7, 8, 9, 10, 11], [0, 1, 2, 3, 4, 5, 6, 7, 8, 9, 10, 11, 12]] [37, 38, 39, 40, 41, 42, 43, 44, 45, 46, 47] [] (by kernel_rfl) (by kernel_rfl) (by kernel_rfl) (by kernel_rfl) (by exact trivial) ?_) | ((with_reducible refine isDraw [some 54, some 55, some 56, some 57, some 58, some 59, some 60, some 61, some 62, some 63, some 64, some 65, some 66, none] (by decide) ?_); refine draw_rule [(0, []), (1, []), (2, []), (3, [2]), (4, [2, 3]), (5, [2, 3, 4]), (6, [2, 3]), (7, [2, 3]), (8, [2]), (9, [2]), (10, [2]), (11, []), (12, []), (13, [])] [[], [0], [0, 1], [], [], [], [4, 5], [4, 5, 6], [3, 4, 5, 6, 7], [3, 4, 5, 6, 7, 8], [3, 4, 5, 6, 7, 8, 9], [0, 1, 2, 3, 4, 5, 6, 7, 8, 9, 10], [0, 1, 2, 3, 4, 5, 6, 7, 8, 9, 10, 11], [0, 1, 2, 3, 4, 5, 6, 7, 8, 9, 10, 11, 12]] [54, 55, 56, 57, 58, 59, 60, 61, 62, 63, 64] [] (by kernel_rfl) (by kernel_rfl) (by kernel_rfl) (by kernel_rfl) (by exact trivial) ?_) | (refine And.intro ?_ ?_; (try simp only [sxO] at *); omega) | fail) <;> (try simp (maxSteps := 1000000) only [hb0, c2, c3, i1, i2, k1, k2, a1, st, w1, wk, hvk, vnn, unn, upt, uat, hu.one, hu.len, hu.sl, plH, l8, b1, b2, Int.toNat_natCast, Int.toNat_zero, Nat.sub_zero, Nat.mul_one, Nat.zero_add, Nat.zero_mul, end8_ment, end8_kill, hasK_nil, hv.one, hv.len, hv.sl, ↓hold_pre, awayP, runOps, regK, step1, newK, genR, appR, obl, buildR, Value.cells, closeK, keepH, outV, retK, ret1, retC, RetV, Option.getD, runD, stepD, afterK, undef, simprocAttr, sxB, ↓sxD, sxE, sxTab]))
      refine Stop.go ?_
      (replace hb0 := true_and True); refine Go1.mk ?_; repeat' ((first | (with_reducible refine Go1.go ?_) | ((with_reducible first | refine brv_mk ?_ ?_ | refine gsplitD ?_ ?_ | refine gsplitG ?_ ?_) <;> intro h <;> (try simp only [Bool.not_eq_true', Bool.not_eq_false'] at h) <;> replace hb0 := h) | ((with_reducible refine isDraw [some 31, some 32, some 33, some 34, some 35, some 36] (by decide) ?_); refine draw_rule [(0, []), (1, []), (2, [1]), (3, [1]), (4, [1]), (5, [])] [[], [0], [], [2], [2, 3], [0, 1, 2, 3, 4]] [31, 32, 33, 34, 35] [] (by kernel_rfl) (by kernel_rfl) (by kernel_rfl) (by kernel_rfl) (by exact trivial) ?_) | ((with_reducible refine isDraw [some 37, some 38, some 39, some 40, some 41, some 42, some 43, some 44, some 45, some 46, some 47, some 48, some 49, none] (by decide) ?_); refine draw_rule [(0, []), (1, []), (2, []), (3, [2]), (4, [2, 3]), (5, [2, 3, 4]), (6, [2, 3]), (7, [2, 3]), (8, [2]), (9, [2]), (10, [2]), (11, []), (12, []), (13, [])] [[], [0], [0, 1], [], [], [], [4, 5], [4, 5, 6], [3, 4, 5, 6, 7], [3, 4, 5, 6, 7, 8], [3, 4, 5, 6, 7, 8, 9], [0, 1, 2, 3, 4, 5, 6, 7, 8, 9, 10], [0, 1, 2, 3, 4, 5, 6, 7, 8, 9, 10, 11], [0, 1, 2, 3, 4, 5, 6, 7, 8, 9, 10, 11, 12]] [37, 38, 39, 40, 41, 42, 43, 44, 45, 46, 47] [] (by kernel_rfl) (by kernel_rfl) (by kernel_rfl) (by kernel_rfl) (by exact trivial) ?_) | ((with_reducible refine isDraw [some 54, some 55, some 56, some 57, some 58, some 59, some 60, some 61, some 62, some 63, some 64, some 65, some 66, none] (by decide) ?_); refine draw_rule [(0, []), (1, []), (2, []), (3, [2]), (4, [2, 3]), (5, [2, 3, 4]), (6, [2, 3]), (7, [2, 3]), (8, [2]), (9, [2]), (10, [2]), (11, []), (12, []), (13, [])] [[], [0], [0, 1], [], [], [], [4, 5], [4, 5, 6], [3, 4, 5, 6, 7], [3, 4, 5, 6, 7, 8], [3, 4, 5, 6, 7, 8, 9], [0, 1, 2, 3, 4, 5, 6, 7, 8, 9, 10], [0, 1, 2, 3, 4, 5, 6, 7, 8, 9, 10, 11], [0, 1, 2, 3, 4, 5, 6, 7, 8, 9, 10, 11, 12]] [54, 55, 56, 57, 58, 59, 60, 61, 62, 63, 64] [] (by kernel_rfl) (by kernel_rfl) (by kernel_rfl) (by kernel_rfl) (by exact trivial) ?_) | (refine And.intro ?_ ?_; (try simp only [sxO] at *); omega) | fail) <;> (try simp (maxSteps := 1000000) only [hb0, c2, c3, i1, i2, k1, k2, a2, sb, l2, w2, wr, hvk, vnn, unn, upt, uat, hu.one, hu.len, hu.sl, plH, l8, b1, b2, Int.toNat_natCast, Int.toNat_zero, Nat.sub_zero, Nat.mul_one, Nat.zero_add, Nat.zero_mul, end8_ment, end8_kill, hasK_nil, hv.one, hv.len, hv.sl, ↓hold_pre, awayP, runOps, regK, step1, newK, genR, appR, obl, buildR, Value.cells, closeK, keepH, outV, retK, ret1, retC, RetV, Option.getD, runD, stepD, afterK, undef, simprocAttr, sxB, ↓sxD, sxE, sxTab]))
      exact ⟨m - (r + 1), plSt M u v m least k E nb (r + 1), by omega, le_sub ⟨rfl, rfl, rfl, rfl, rfl, rfl, rfl, rfl, rfl, rfl, trivial⟩ ⟨rfl, rfl, rfl, rfl, rfl, rfl, rfl, trivial⟩ rfl rfl rfl (by simp [keepLt, plSt, plH, lkH]), r + 1, nb, rfl, by omega, hnb.symm, rfl⟩
end
end Go.Proofs.Ytgkfmlgfmcpebaa.Sx
namespace Go.Proofs.Ytgkfmlgfmcpebaa.Sx
open Go Go.RowKit
set_option linter.unusedVariables false
set_option linter.unusedSimpArgs false
set_option maxRecDepth 100000
set_option maxHeartbeats 8000000
attribute [local congr] fin_congr finG_congr stepG_congr step1_congr runOps_congr brv_congr obl_congr condK_congr LoopK_congr seqK_congr CutK_congr vc_congr DrawK_congr regK_congr CallK_congr AskK_congr newK_congr retC_congr ret1_congr retK_congr outV_congr closeK_congr genR_congr appR_congr finD_congr finGD_congr stepGD_congr stepD_congr CallK0_congr runD_congr okR_congr CallS_congr vcX_congr
attribute [local congr] Stop_congr
theorem CallS.eqv {P : Program} {f : FuncId} {args : List AV} {H H2 : Hp} {M : Mem} {mv : List Nat} {K : AV → Hp → Mem → Prop} (he : ∀ k, lkH H k = lkH H2 k) (h : CallS P f args H2 M mv K) : CallS P f args H M mv K := fun ρ w us hh ha => by
  refine (h ρ w us ⟨fun k T cs b hk hb => hh.hp k T cs b (by rw [he]; exact hk) hb, fun k T cs hk hb => hh.no k T cs (by rw [he]; exact hk) hb, fun k k' b b' hk hk' => hh.inj k k' b b' (by rw [he]; exact hk) (by rw [he]; exact hk'), hh.sub⟩ ha).mono fun e w' hall => ?_
  obtain ⟨x, v, H', M', ρ', e1, hK, hl⟩ := hall
  exact ⟨x, v, H', M', ρ', e1, hK, { is := hl.is, heap := hl.heap, keep := fun k hk => hl.keep k (by rw [← he]; exact hk), same := fun k hk hm => hl.same k (by rw [← he]; exact hk) hm, ment := hl.ment, fresh := fun k b hk hb => (by
    rcases hl.fresh k b hk hb with h1 | ⟨j, x, h1, h2, h3⟩
    · exact .inl h1
    · exact .inr ⟨j, x, by rw [he]; exact h1, h2, h3⟩), os := hl.os, tape := hl.tape, output := hl.output, size := hl.size, block := fun b hb hk => hl.block b hb fun k x h1 h2 => hk k x (by rw [he]; exact h1) h2, le := hl.le, mem := hl.mem }⟩
section
variable {M : Mem} {K : AV → Hp → Mem → Prop} {u v : Value} {T : List TK}
theorem plc_bestN (hc : chkTL T = true) (h10 : T.length ≤ 10) {m : Nat} (hm : 1 ≤ m) {Z : List Nat} (hZ : lonZ T Z) : plc (cosN T) m (bndT T m) Z (List.replicate m 0) 10485761 = bestN T m := by
  obtain ⟨_, hTc⟩ := chkTL_parts hc
  refine best_same (by omega) hZ.1 List.nodup_range (fun i hi => ?_) ?_
  · have := hTc i (List.mem_range.1 hi)
    unfold cosN; omega
  · have := sT_le hTc T.length (Nat.le_refl _)
    have e : ((List.range T.length).map (cosN T)).sum = sT T T.length := rfl
    omega
theorem Best_ok (hu : IsR M 4 TK.c u T) (hb : T.length < 1000000) (n : Int) (hK : ∀ M', Mem.le M M' → K (.ext (.tuple #[.int .i64 (bestQ T n).1, .int .i64 (bestQ T n).2])) [] M') : CallS Try.prog 21 [.ext u, .ext (.int .i64 n)] [] M [] K := by
  refine inlS (cs := []) Try.mixed Try.func21 rfl (by kernel_rfl) 0 rfl rfl ?_
  simp only [Try.f21]
  have hce : u.cells = #[u] := cells_sl hu.sl
  unfold Value.cells at hce
  by_cases he : errT T n = 0
  case neg =>
    have d1 : decide (errT T n = 0) = false := decide_eq_false he
    rw [bestQ_err he] at hK
    (replace hb0 := true_and True); refine Go1.mk ?_; repeat' ((first | (with_reducible refine Go1.go ?_) | ((with_reducible first | refine brv_mk ?_ ?_ | refine gsplitD ?_ ?_ | refine gsplitG ?_ ?_) <;> intro h <;> (try simp only [Bool.not_eq_true', Bool.not_eq_false'] at h) <;> replace hb0 := h) | (((with_reducible refine isCall (f := 34) ?_); refine callA_nil (by kernel_rfl) ?_; refine (tcheck_ok hu hb n ?_))) | (refine And.intro ?_ ?_; (try simp only [sxO] at *); omega) | fail) <;> (try simp (maxSteps := 1000000) only [hb0, hu.one, hce, d1, hasK_nil, ↓hold_pre, awayP, runOps, regK, step1, newK, genR, appR, obl, buildR, Value.cells, closeK, keepH, outV, retK, ret1, retC, RetV, Option.getD, runD, stepD, afterK, undef, simprocAttr, sxB, ↓sxD, sxE, sxTab]))
    exact hK _ (Mem.le.refl _)
  obtain ⟨hc, h1, h8⟩ := errT_0 he
  obtain ⟨m, rfl⟩ := Int.eq_ofNat_of_zero_le (show 0 ≤ n by omega)
  by_cases h10 : T.length ≤ 10
  case neg =>
    have d1 : decide ((10 : Int) < (T.length : Int)) = true := by rw [decide_eq_true_eq]; omega
    rw [bestQ_many he h10] at hK
    (replace hb0 := true_and True); refine Go1.mk ?_; repeat' ((first | (with_reducible refine Go1.go ?_) | ((with_reducible first | refine brv_mk ?_ ?_ | refine gsplitD ?_ ?_ | refine gsplitG ?_ ?_) <;> intro h <;> (try simp only [Bool.not_eq_true', Bool.not_eq_false'] at h) <;> replace hb0 := h) | (((with_reducible refine isCall (f := 34) ?_); refine callA_nil (by kernel_rfl) ?_; refine (tcheck_ok hu hb _ ?_))) | (refine And.intro ?_ ?_; (try simp only [sxO] at *); omega) | fail) <;> (try simp (maxSteps := 1000000) only [hb0, hu.one, hce, hu.len, hu.sl, he, d1, hasK_nil, ↓hold_pre, awayP, runOps, regK, step1, newK, genR, appR, obl, buildR, Value.cells, closeK, keepH, outV, retK, ret1, retC, RetV, Option.getD, runD, stepD, afterK, undef, simprocAttr, sxB, ↓sxD, sxE, sxTab]))
    exact hK _ (Mem.le.refl _)
  have d1 : decide ((10 : Int) < (T.length : Int)) = false := by rw [decide_eq_false_iff_not]; omega
  rw [bestQ_ok he h10] at hK
  have hm8 : m ≤ 8 := by omega
  have hm1 : 1 ≤ m := by omega
  (replace hb0 := true_and True); refine Go1.mk ?_; repeat' ((first | (with_reducible refine Go1.go ?_) | ((with_reducible first | refine brv_mk ?_ ?_ | refine gsplitD ?_ ?_ | refine gsplitG ?_ ?_) <;> intro h <;> (try simp only [Bool.not_eq_true', Bool.not_eq_false'] at h) <;> replace hb0 := h) | (((with_reducible refine isCall (f := 34) ?_); refine callA_nil (by kernel_rfl) ?_; refine (tcheck_ok hu hb _ ?_))) | ((first | ((with_reducible refine isCall (f := 39) ?_); refine callA_nil (by kernel_rfl) ?_) | ((with_reducible refine isCall0 (f := 39) ?_); refine callA0_nil (by kernel_rfl) ?_)); refine (lon_ok hu hb (fun v Z M1 m1 z1 z2 z3 => Stop.mk ?_))) | ((with_reducible refine isDraw [some 21, some 22, some 23, some 24, some 25, some 8, some 9, some 10, none, none, none] (by decide) ?_); refine draw_rule [(0, []), (2, [0]), (3, [0, 2]), (5, [0, 2, 3]), (6, [0, 2, 3]), (7, [0, 2, 3]), (1, [2, 3]), (4, []), (8, []), (9, []), (10, [])] [[], [0], [], [], [0, 1, 2, 3], [], [], [], [0, 1, 2, 3, 4, 5, 6, 7], [0, 1, 2, 3, 4, 5, 6, 7, 8], [0, 1, 2, 3, 4, 5, 6, 7, 8, 9]] [21, 22, 23, 24, 25, 8, 9, 10] [] (by kernel_rfl) (by kernel_rfl) (by kernel_rfl) (by kernel_rfl) (by exact trivial) ?_) | (refine And.intro ?_ ?_; (try simp only [sxO] at *); omega) | fail) <;> (try simp (maxSteps := 1000000) only [hb0, hu.one, hce, hu.len, hu.sl, he, d1, hasK_nil, mentL_ext, List.nil_append, ↓hold_pre, awayP, runOps, regK, step1, newK, genR, appR, obl, buildR, Value.cells, closeK, keepH, outV, retK, ret1, retC, RetV, Option.getD, runD, stepD, afterK, undef, simprocAttr, sxB, ↓sxD, sxE, sxTab]))
  have m1 : Mem.le M M1 := m1
  have z1 : lonZ T Z := z1
  have z2 : IsL M1 natV v Z := z2
  have hu1 := hu.le m1
  clear z3
  refine Stop.go ?_
  have hplc := plc_bestN hc h10 hm1 z1
  have hZl : Z.length = T.length := by rw [z1.1.length_eq, List.length_range]
  have e8 := (end8_zero hm8).symm
  (replace hb0 := true_and True); refine Go1.mk ?_; repeat' ((first | (with_reducible refine Go1.go ?_) | ((with_reducible first | refine brv_mk ?_ ?_ | refine gsplitD ?_ ?_ | refine gsplitG ?_ ?_) <;> intro h <;> (try simp only [Bool.not_eq_true', Bool.not_eq_false'] at h) <;> replace hb0 := h) | ((first | ((with_reducible refine isCall (f := 40) ?_); refine callA_nil (by kernel_rfl) ?_) | ((with_reducible refine isCall0 (f := 40) ?_); refine callA0_nil (by kernel_rfl) ?_)); refine (bound_ok hu1 hc hm1 hm8 ?_)) | ((with_reducible refine isCall (f := 41) ?_); refine callA ?_) | ((with_reducible refine isCallS (f := 41) ?_); refine (CallS.eqv (H2 := plH u v m (bndT T m) (List.replicate m 0) 10485761) (fun k => ?_) (place_ok hu1 hc hm1 hm8 z2 (lonZ_in z1) hZl Z.length 0 (List.replicate m 0) 10485761 _ (by omega) List.length_replicate (fun x hx => by rw [(List.mem_replicate.1 hx).2]; omega) (Stop.mk ?_)))) | ((with_reducible refine isDraw [some 21, some 22, some 23, some 24, some 25, some 8, some 9, some 10, none, none, none] (by decide) ?_); refine draw_rule [(0, []), (2, [0]), (3, [0, 2]), (5, [0, 2, 3]), (6, [0, 2, 3]), (7, [0, 2, 3]), (1, [2, 3]), (4, []), (8, []), (9, []), (10, [])] [[], [0], [], [], [0, 1, 2, 3], [], [], [], [0, 1, 2, 3, 4, 5, 6, 7], [0, 1, 2, 3, 4, 5, 6, 7, 8], [0, 1, 2, 3, 4, 5, 6, 7, 8, 9]] [21, 22, 23, 24, 25, 8, 9, 10] [] (by kernel_rfl) (by kernel_rfl) (by kernel_rfl) (by kernel_rfl) (by exact trivial) ?_) | (refine And.intro ?_ ?_; (try simp only [sxO] at *); omega) | fail) <;> (try simp (maxSteps := 1000000) only [hb0, hu1.one, z2.one, hce, hasK_nil, mentL_ext, List.nil_append, ↓hold_pre, awayP, runOps, regK, step1, newK, genR, appR, obl, buildR, Value.cells, closeK, keepH, outV, retK, ret1, retC, RetV, Option.getD, runD, stepD, afterK, undef, simprocAttr, sxB, ↓sxD, sxE, sxTab]))
  · unfold plH
    rw [end8_zero hm8]
    simp only [lkH]
    by_cases k7 : 7 = k
    · subst k7; simp
    · simp only [if_neg k7]; rfl
  · rw [hplc]
    refine Stop.go ?_
    (replace hb0 := true_and True); refine Go1.mk ?_; repeat' ((first | (with_reducible refine Go1.go ?_) | ((with_reducible first | refine brv_mk ?_ ?_ | refine gsplitD ?_ ?_ | refine gsplitG ?_ ?_) <;> intro h <;> (try simp only [Bool.not_eq_true', Bool.not_eq_false'] at h) <;> replace hb0 := h) | ((with_reducible refine isDraw [some 21, some 22, some 23, some 24, some 25, some 8, some 9, some 10, none, none, none] (by decide) ?_); refine draw_rule [(0, []), (2, [0]), (3, [0, 2]), (5, [0, 2, 3]), (6, [0, 2, 3]), (7, [0, 2, 3]), (1, [2, 3]), (4, []), (8, []), (9, []), (10, [])] [[], [0], [], [], [0, 1, 2, 3], [], [], [], [0, 1, 2, 3, 4, 5, 6, 7], [0, 1, 2, 3, 4, 5, 6, 7, 8], [0, 1, 2, 3, 4, 5, 6, 7, 8, 9]] [21, 22, 23, 24, 25, 8, 9, 10] [] (by kernel_rfl) (by kernel_rfl) (by kernel_rfl) (by kernel_rfl) (by exact trivial) ?_) | (refine And.intro ?_ ?_; (try simp only [sxO] at *); omega) | fail) <;> (try simp (maxSteps := 1000000) only [hb0, plH, hu1.one, z2.one, end8_ment, hasK_nil, mentL_ext, List.nil_append, ↓hold_pre, awayP, runOps, regK, step1, newK, genR, appR, obl, buildR, Value.cells, closeK, keepH, outV, retK, ret1, retC, RetV, Option.getD, runD, stepD, afterK, undef, simprocAttr, sxB, ↓sxD, sxE, sxTab]))
    exact hK M1 m1
end
end Go.Proofs.Ytgkfmlgfmcpebaa.Sx
namespace Go.Proofs.Ytgkfmlgfmcpebaa.Sx
open Go Go.RowKit
set_option linter.unusedVariables false
set_option linter.unusedSimpArgs false
set_option maxRecDepth 100000
set_option maxHeartbeats 8000000
attribute [local congr] fin_congr finG_congr stepG_congr step1_congr runOps_congr brv_congr obl_congr condK_congr LoopK_congr seqK_congr CutK_congr vc_congr DrawK_congr regK_congr CallK_congr AskK_congr newK_congr retC_congr ret1_congr retK_congr outV_congr closeK_congr genR_congr appR_congr finD_congr finGD_congr stepGD_congr stepD_congr CallK0_congr runD_congr okR_congr CallS_congr vcX_congr
attribute [local congr] Stop_congr
def tkC (L : List TK) : List AV := (L.flatMap TK.c).map .ext
theorem tkC_len (L : List TK) : (tkC L).length = L.length * 4 := by
  unfold tkC
  rw [List.length_map, flat_len (z := 4) (fun _ => rfl)]
theorem tkC_ment (L : List TK) : mentL (tkC L) = [] := mentL_ext _
theorem tkC_kill (k : Nat) (L : List TK) : killL k (tkC L) = tkC L := killL_exts _ _
theorem tkC_app (L : List TK) (x : TK) : tkC L ++ [.ext (.string (bs x.pk)), .ext (.string (bs x.ts)), .ext (.int .i64 x.env), .ext (.int .i64 x.cost)] = tkC (L ++ [x]) := by simp [tkC, TK.c]
def mkX (cs : List Int) (i : Nat) : TK := ⟨[112], [116], ((i % 3 : Nat) : Int), cs.getD i 0⟩
def mkP (cs : List Int) (i : Nat) : List TK := (List.range i).map (mkX cs)
def mkT (cs : List Int) : List TK := mkP cs cs.length
theorem mkP_len (cs : List Int) (i : Nat) : (mkP cs i).length = i := by simp [mkP]
theorem mkP_succ (cs : List Int) (i : Nat) : mkP cs (i + 1) = mkP cs i ++ [mkX cs i] := by simp [mkP, List.range_succ]
section
variable {M : Mem} {K : AV → Hp → Mem → Prop} {w : Value} {cs : List Int}
def tsSt (M : Mem) (w : Value) (cs : List Int) (i : Nat) : St := { env := [(4, .ext (.int .i64 (i : Int))), (3, .slo 221 0 i 4), (0, .ext w)], hp := [(221, 49, tkC (mkP cs i))], M := M, kb := 200, fx := [] }
theorem tasks_ok (hw : IsL M intV64 w cs) (hb : cs.length < 1000000) (hK : K (.slo 221 0 cs.length 4) [(221, 49, tkC (mkT cs))] M) : CallS Try.prog 23 [.ext w] [] M [] K := by
  refine inlS (cs := []) Try.mixed Try.func23 rfl (by kernel_rfl) 200 rfl rfl ?_
  simp only [Try.f23]
  (replace hb0 := true_and True); refine Go1.mk ?_; repeat' ((first | (with_reducible refine Go1.go ?_) | ((with_reducible first | refine brv_mk ?_ ?_ | refine gsplitD ?_ ?_ | refine gsplitG ?_ ?_) <;> intro h <;> (try simp only [Bool.not_eq_true', Bool.not_eq_false'] at h) <;> replace hb0 := h) | (refine And.intro ?_ ?_; (try simp only [sxO] at *); omega) | fail) <;> (try simp (maxSteps := 1000000) only [hb0, hw.one, ↓hold_pre, awayP, runOps, regK, step1, newK, genR, appR, obl, buildR, Value.cells, closeK, keepH, outV, retK, ret1, retC, RetV, Option.getD, runD, stepD, afterK, undef, simprocAttr, sxB, ↓sxD, sxE, sxTab]))
  refine ⟨fun d z => ∃ i, i ≤ cs.length ∧ d = cs.length - i ∧ z = tsSt M w cs i, ⟨cs.length, tsSt M w cs 0, (le_nil 3 221 49 4 rfl (.inl (by simp [awayB, mentE, mentH, mentL, AV.ment, hasK]))).trans (le_sub ⟨rfl, rfl, rfl, trivial⟩ ⟨by simp [lkH, tsSt, tkC, mkP], trivial⟩ rfl rfl rfl (by simp [keepLt, tsSt, lkH])), ⟨0, by omega, by omega, rfl⟩⟩, ?_⟩
  rintro d z ⟨i, hi, rfl, rfl⟩
  by_cases hlt : i < cs.length
  case neg =>
    obtain rfl : i = cs.length := by omega
    have f1 := hw.fin hlt
    (replace hb0 := true_and True); refine Go1.mk ?_; repeat' ((first | (with_reducible refine Go1.go ?_) | ((with_reducible first | refine brv_mk ?_ ?_ | refine gsplitD ?_ ?_ | refine gsplitG ?_ ?_) <;> intro h <;> (try simp only [Bool.not_eq_true', Bool.not_eq_false'] at h) <;> replace hb0 := h) | (refine And.intro ?_ ?_; (try simp only [sxO] at *); omega) | fail) <;> (try simp (maxSteps := 1000000) only [hb0, tsSt, f1, tkC_ment, tkC_kill, hasK_nil, ↓hold_pre, awayP, runOps, regK, step1, newK, genR, appR, obl, buildR, Value.cells, closeK, keepH, outV, retK, ret1, retC, RetV, Option.getD, runD, stepD, afterK, undef, simprocAttr, sxB, ↓sxD, sxE, sxTab]))
    exact hK
  have f1 := hw.idx (P := Try.prog) (T := 3) tk3 tz3 (by omega) hlt
  have hle := tkC_len (mkP cs i)
  rw [mkP_len] at hle
  have hap := tkC_app (mkP cs i) (mkX cs i)
  rw [← mkP_succ] at hap
  have hget : cs[i] = cs.getD i 0 := by rw [List.getD_eq_getElem?_getD, List.getElem?_eq_getElem hlt]; rfl
  rw [hget] at f1
  have hap : tkC (mkP cs i) ++ [.ext (.string (bs [112])), .ext (.string (bs [116])), .ext (.int .i64 ((i % 3 : Nat) : Int)), .ext (.int .i64 (cs.getD i 0))] = tkC (mkP cs (i + 1)) := hap
  have hmod : ((i : Int)).tmod 3 = ((i % 3 : Nat) : Int) := rfl
  (replace hb0 := true_and True); refine Go1.mk ?_; repeat' ((first | (with_reducible refine Go1.go ?_) | ((with_reducible first | refine brv_mk ?_ ?_ | refine gsplitD ?_ ?_ | refine gsplitG ?_ ?_) <;> intro h <;> (try simp only [Bool.not_eq_true', Bool.not_eq_false'] at h) <;> replace hb0 := h) | (refine And.intro ?_ ?_; (try simp only [sxO] at *); omega) | fail) <;> (try simp (maxSteps := 1000000) only [hb0, tsSt, f1, intV64, hmod, hle, hap, tkC_ment, tkC_kill, hasK_nil, bs_mk, bs_app, bs_ext, bs_size, bs_toList, bs_at, bs_cells, List.take_length, imp_ga, guard_pk, guard_pk2, ↓hold_pre, awayP, runOps, regK, step1, newK, genR, appR, obl, buildR, Value.cells, closeK, keepH, outV, retK, ret1, retC, RetV, Option.getD, runD, stepD, afterK, undef, simprocAttr, sxB, ↓sxD, sxE, sxTab]))
  exact ⟨cs.length - (i + 1), tsSt M w cs (i + 1), by omega, le_sub ⟨rfl, rfl, rfl, trivial⟩ ⟨by simp [lkH, tsSt], trivial⟩ rfl rfl rfl (by simp [keepLt, tsSt, lkH]), i + 1, by omega, rfl, rfl⟩
theorem tasksF_ok (hw : IsL M intV64 w cs) (hb : cs.length < 1000000) (hK : ∀ U M', Mem.le M M' → IsR M' 4 TK.c U (mkT cs) → FreshS M U → K (.ext U) [] M') : CallS Try.prog 23 [.ext w] [] M [] K := by
  refine CallS.frzF (tasks_ok hw hb ?_)
  have hl : (mkT cs).length = cs.length := mkP_len cs cs.length
  refine FrzF.one ((mkT cs).flatMap TK.c) rfl (by rw [flat_len (z := 4) (fun _ => rfl), hl]) fun U M' h1 h2 h3 => hK U M' h1 ?_ h3
  unfold IsR
  rw [hl]; exact h2
theorem tasksB_ok {k n : Nat} {Ty : TypeId} (hn : n = cs.length) (hb : cs.length < 1000000) (hK : ∀ U M', Mem.le M M' → IsR M' 4 TK.c U (mkT cs) → K (.ext U) [(k, Ty, cE intV64 cs)] M') : CallS Try.prog 23 [.slo k 0 n 1] [(k, Ty, cE intV64 cs)] M [] K := by
  refine CallS.bor ⟨⟨_, rfl⟩, trivial⟩ fun us M' hM hb' => ?_
  obtain ⟨x, _, rfl, h1, rfl⟩ := hb'
  refine tasksF_ok (h1.isL (L := cs) (T := Ty) (by simp [lkH]) hn) hb fun U M2 a1 a2 a3 => ?_
  exact ⟨fun j hj => rfl, fun M3 h5 h6 _ => hK U M3 h5 (SlM.move a2 a3 h6)⟩
def grI (l : List Int) : Int := l.foldl (fun n x => if n < x then x else n) 0
def grSt (M : Mem) (w : Value) (l : List Int) (i : Nat) : St := { env := [(4, .ext (.int .i64 (i : Int))), (3, .ext (.int .i64 (grI (l.take i)))), (0, .ext w)], hp := [], M := M, kb := 0, fx := [] }
theorem greatest_ok {l : List Int} (hw : IsL M intV64 w l) (hb : l.length < 1000000) (hK : K (.ext (.int .i64 (grI l))) [] M) : CallS Try.prog 25 [.ext w] [] M [] K := by
  refine inlS (cs := []) Try.mixed Try.func25 rfl (by kernel_rfl) 0 rfl rfl ?_
  simp only [Try.f25]
  (replace hb0 := true_and True); refine Go1.mk ?_; repeat' ((first | (with_reducible refine Go1.go ?_) | ((with_reducible first | refine brv_mk ?_ ?_ | refine gsplitD ?_ ?_ | refine gsplitG ?_ ?_) <;> intro h <;> (try simp only [Bool.not_eq_true', Bool.not_eq_false'] at h) <;> replace hb0 := h) | (refine And.intro ?_ ?_; (try simp only [sxO] at *); omega) | fail) <;> (try simp (maxSteps := 1000000) only [hb0, hw.one, ↓hold_pre, awayP, runOps, regK, step1, newK, genR, appR, obl, buildR, Value.cells, closeK, keepH, outV, retK, ret1, retC, RetV, Option.getD, runD, stepD, afterK, undef, simprocAttr, sxB, ↓sxD, sxE, sxTab]))
  refine ⟨fun d z => ∃ i, i ≤ l.length ∧ d = l.length - i ∧ z = grSt M w l i, ⟨l.length, grSt M w l 0, le_sub ⟨rfl, rfl, rfl, trivial⟩ trivial rfl rfl rfl (keepLt0 _), ⟨0, by omega, by omega, rfl⟩⟩, ?_⟩
  rintro d z ⟨i, hi, rfl, rfl⟩
  by_cases hlt : i < l.length
  case neg =>
    obtain rfl : i = l.length := by omega
    have f1 := hw.fin hlt
    have ht : l.take l.length = l := List.take_length
    (replace hb0 := true_and True); refine Go1.mk ?_; repeat' ((first | (with_reducible refine Go1.go ?_) | ((with_reducible first | refine brv_mk ?_ ?_ | refine gsplitD ?_ ?_ | refine gsplitG ?_ ?_) <;> intro h <;> (try simp only [Bool.not_eq_true', Bool.not_eq_false'] at h) <;> replace hb0 := h) | (refine And.intro ?_ ?_; (try simp only [sxO] at *); omega) | fail) <;> (try simp (maxSteps := 1000000) only [hb0, grSt, f1, ht, ↓hold_pre, awayP, runOps, regK, step1, newK, genR, appR, obl, buildR, Value.cells, closeK, keepH, outV, retK, ret1, retC, RetV, Option.getD, runD, stepD, afterK, undef, simprocAttr, sxB, ↓sxD, sxE, sxTab]))
    exact hK
  have f1 := hw.idx (P := Try.prog) (T := 3) tk3 tz3 (by omega) hlt
  have hx : (if grI (l.take i) < l[i] then l[i] else grI (l.take i)) = grI (l.take (i + 1)) := by
    unfold grI
    rw [List.take_add_one, List.getElem?_eq_getElem hlt]
    simp only [Option.toList_some, List.foldl_append, List.foldl_cons, List.foldl_nil]
  (replace hb0 := true_and True); refine Go1.mk ?_; repeat' ((first | (with_reducible refine Go1.go ?_) | ((with_reducible first | refine brv_mk ?_ ?_ | refine gsplitD ?_ ?_ | refine gsplitG ?_ ?_) <;> intro h <;> (try simp only [Bool.not_eq_true', Bool.not_eq_false'] at h) <;> replace hb0 := h) | (refine And.intro ?_ ?_; (try simp only [sxO] at *); omega) | fail) <;> (try simp (maxSteps := 1000000) only [hb0, grSt, f1, intV64, hx, ↓hold_pre, awayP, runOps, regK, step1, newK, genR, appR, obl, buildR, Value.cells, closeK, keepH, outV, retK, ret1, retC, RetV, Option.getD, runD, stepD, afterK, undef, simprocAttr, sxB, ↓sxD, sxE, sxTab]))
  exact ⟨l.length - (i + 1), grSt M w l (i + 1), by omega, le_sub ⟨rfl, rfl, rfl, trivial⟩ trivial rfl rfl rfl (keepLt0 _), i + 1, by omega, rfl, rfl⟩
end
end Go.Proofs.Ytgkfmlgfmcpebaa.Sx
namespace Go.Proofs.Ytgkfmlgfmcpebaa.Sx
open Go Go.RowKit
set_option linter.unusedVariables false
set_option linter.unusedSimpArgs false
set_option maxRecDepth 100000
set_option maxHeartbeats 8000000
attribute [local congr] fin_congr finG_congr stepG_congr step1_congr runOps_congr brv_congr obl_congr condK_congr LoopK_congr seqK_congr CutK_congr vc_congr DrawK_congr regK_congr CallK_congr AskK_congr newK_congr retC_congr ret1_congr retK_congr outV_congr closeK_congr genR_congr appR_congr finD_congr finGD_congr stepGD_congr stepD_congr CallK0_congr runD_congr okR_congr CallS_congr vcX_congr
attribute [local congr] Stop_congr
def natI (P : List (List Nat)) : List (List Int) := P.map fun l => l.map fun (x : Nat) => (x : Int)
theorem LsP_natI (P : List (List Nat)) : LsP P = LsI (natI P) := by
  unfold LsP LsI natI
  rw [List.map_map]
  refine List.map_congr_left fun l _ => ?_
  simp only [Function.comp, List.map_map]
  rfl
def t5 : List TK := mkT [5, 4, 3, 3, 3]
theorem t5_div : divR t5 2 allY [[0, 3], [1, 2, 4]] 0 := by
  refine .inr ⟨by decide, 2, rfl, some [[0, 3], [1, 2, 4]], ⟨[0, 1, 2, 3, 4], ⟨List.Perm.refl _, ?_⟩, by decide⟩, rfl, rfl⟩
  have h : ([0, 1, 2, 3, 4] : List Nat).Pairwise (fun x y => cosC t5 x y < 0 ∨ (cosC t5 x y = 0 ∧ x < y)) := by decide
  exact h
theorem t5_err : errT t5 2 = 0 := by decide
theorem t5_end : endQ t5 (natI [[0, 3], [1, 2, 4]]) = ([8, 10], 0) := by decide
theorem t5_bnd : bndQ t5 2 = 9 := by decide
theorem t5_best : bestQ t5 2 = (9, 0) := by decide
theorem t5_gr : grI [8, 10] = 10 := by decide
section
variable {M : Mem} {K : AV → Hp → Mem → Prop}
theorem known_ok (hK : ∀ M', Mem.le M M' → K (.ext (.bool true)) [] M') : CallS Try.prog 16 [] [] M [] K := by
  refine inlS (cs := []) Try.mixed Try.func16 rfl (by kernel_rfl) 0 rfl rfl ?_
  simp only [Try.f16]
  have hc5 : [AV.ext (.int .i64 5), .ext (.int .i64 4), .ext (.int .i64 3), .ext (.int .i64 3), .ext (.int .i64 3)] = cE intV64 [5, 4, 3, 3, 3] := rfl
  (replace hb0 := true_and True); refine Go1.mk ?_; repeat' ((first | (with_reducible refine Go1.go ?_) | ((with_reducible first | refine brv_mk ?_ ?_ | refine gsplitD ?_ ?_ | refine gsplitG ?_ ?_) <;> intro h <;> (try simp only [Bool.not_eq_true', Bool.not_eq_false'] at h) <;> replace hb0 := h) | ((with_reducible refine isCall (f := 23) ?_); refine callA ?_) | ((with_reducible refine isCallS (f := 23) ?_); refine (tasksB_ok (cs := [5, 4, 3, 3, 3]) rfl (by decide) (fun u M1 m1 hu => Stop.mk ?_))) | (refine And.intro ?_ ?_; (try simp only [sxO] at *); omega) | fail) <;> (try simp (maxSteps := 1000000) only [hb0, hc5, cE_ment, hasK_nil, ↓hold_pre, awayP, runOps, regK, step1, newK, genR, appR, obl, buildR, Value.cells, closeK, keepH, outV, retK, ret1, retC, RetV, Option.getD, runD, stepD, afterK, undef, simprocAttr, sxB, ↓sxD, sxE, sxTab]))
  have m1 : Mem.le M M1 := m1
  have hu : IsR M1 4 TK.c u t5 := hu
  clear hc5
  refine Stop.go ?_
  have hb : t5.length < 1000000 := by decide
  (replace hb0 := true_and True); refine Go1.mk ?_; repeat' ((first | (with_reducible refine Go1.go ?_) | ((with_reducible first | refine brv_mk ?_ ?_ | refine gsplitD ?_ ?_ | refine gsplitG ?_ ?_) <;> intro h <;> (try simp only [Bool.not_eq_true', Bool.not_eq_false'] at h) <;> replace hb0 := h) | (((with_reducible refine isCall (f := 13) ?_); refine callA_nil (by kernel_rfl) ?_; refine (Divide_ok hu hb 2 (fun M2 U P e m2 d1 hU => Stop.mk ?_)))) | (refine And.intro ?_ ?_; (try simp only [sxO] at *); omega) | fail) <;> (try simp (maxSteps := 1000000) only [hb0, hu.one, cE_ment, hasK_nil, ↓hold_pre, awayP, runOps, regK, step1, newK, genR, appR, obl, buildR, Value.cells, closeK, keepH, outV, retK, ret1, retC, RetV, Option.getD, runD, stepD, afterK, undef, simprocAttr, sxB, ↓sxD, sxE, sxTab]))
  have m2 : Mem.le M1 M2 := m2
  have d1 : divR t5 2 allY P e := d1
  have hU : LLF M1 M2 U (LsP P) := hU
  obtain ⟨rfl, rfl⟩ := divR_one d1 t5_div
  have hL := hU.ll
  rw [LsP_natI] at hL
  have hu2 := hu.le m2
  have ho := hL.sl.2.2
  refine Stop.go ?_
  (replace hb0 := true_and True); refine Go1.mk ?_; repeat' ((first | (with_reducible refine Go1.go ?_) | ((with_reducible first | refine brv_mk ?_ ?_ | refine gsplitD ?_ ?_ | refine gsplitG ?_ ?_) <;> intro h <;> (try simp only [Bool.not_eq_true', Bool.not_eq_false'] at h) <;> replace hb0 := h) | (((with_reducible refine isCall (f := 18) ?_); refine callA_nil (by kernel_rfl) ?_; refine (Ends_ok hu2 hb hL (by decide) (by decide) (fun V M3 m3 hV _ => Stop.mk ?_)))) | (refine And.intro ?_ ?_; (try simp only [sxO] at *); omega) | fail) <;> (try simp (maxSteps := 1000000) only [hb0, hu2.one, ho, cE_ment, hasK_nil, ↓hold_pre, awayP, runOps, regK, step1, newK, genR, appR, obl, buildR, Value.cells, closeK, keepH, outV, retK, ret1, retC, RetV, Option.getD, runD, stepD, afterK, undef, simprocAttr, sxB, ↓sxD, sxE, sxTab]))
  have m3 : Mem.le M2 M3 := m3
  rw [t5_end] at hV
  have hV : IsL M3 intV64 V [8, 10] := hV
  rw [t5_end]
  have hu3 := hu2.le m3
  have hb9 := t5_bnd
  have he2 := t5_err
  refine Stop.go ?_
  (replace hb0 := true_and True); refine Go1.mk ?_; repeat' ((first | (with_reducible refine Go1.go ?_) | ((with_reducible first | refine brv_mk ?_ ?_ | refine gsplitD ?_ ?_ | refine gsplitG ?_ ?_) <;> intro h <;> (try simp only [Bool.not_eq_true', Bool.not_eq_false'] at h) <;> replace hb0 := h) | (((with_reducible refine isCall (f := 24) ?_); refine callA_nil (by kernel_rfl) ?_; refine (Bound_ok hu3 hb 2 ?_))) | (((with_reducible refine isCall (f := 21) ?_); refine callA_nil (by kernel_rfl) ?_; refine (Best_ok hu3 hb 2 (fun M4 m4 => Stop.mk ?_)))) | (refine And.intro ?_ ?_; (try simp only [sxO] at *); omega) | fail) <;> (try simp (maxSteps := 1000000) only [hb0, hu3.one, hV.one, hb9, he2, cE_ment, hasK_nil, ↓hold_pre, awayP, runOps, regK, step1, newK, genR, appR, obl, buildR, Value.cells, closeK, keepH, outV, retK, ret1, retC, RetV, Option.getD, runD, stepD, afterK, undef, simprocAttr, sxB, ↓sxD, sxE, sxTab]))
  have m4 : Mem.le M3 M4 := m4
  have hV4 := hV.le m4
  rw [t5_best]
  have hk := hK M4 (m1.trans (m2.trans (m3.trans m4)))
  have hgr := t5_gr
  refine Stop.go ?_
  (replace hb0 := true_and True); refine Go1.mk ?_; repeat' ((first | (with_reducible refine Go1.go ?_) | ((with_reducible first | refine brv_mk ?_ ?_ | refine gsplitD ?_ ?_ | refine gsplitG ?_ ?_) <;> intro h <;> (try simp only [Bool.not_eq_true', Bool.not_eq_false'] at h) <;> replace hb0 := h) | (((with_reducible refine isCall (f := 25) ?_); refine callA_nil (by kernel_rfl) ?_; refine (greatest_ok hV4 (by decide) (Stop.mk ?_)))) | (refine And.intro ?_ ?_; (try simp only [sxO] at *); omega) | fail) <;> (try simp (maxSteps := 1000000) only [hb0, hV4.one, hgr, cE_ment, hasK_nil, ↓hold_pre, awayP, runOps, regK, step1, newK, genR, appR, obl, buildR, Value.cells, closeK, keepH, outV, retK, ret1, retC, RetV, Option.getD, runD, stepD, afterK, undef, simprocAttr, sxB, ↓sxD, sxE, sxTab]))
  exact Stop.go hk
end
end Go.Proofs.Ytgkfmlgfmcpebaa.Sx
namespace Go.Proofs.Ytgkfmlgfmcpebaa.Sx
open Go Go.RowKit
set_option linter.unusedVariables false
set_option linter.unusedSimpArgs false
set_option maxRecDepth 100000
set_option maxHeartbeats 8000000
attribute [local congr] fin_congr finG_congr stepG_congr step1_congr runOps_congr brv_congr obl_congr condK_congr LoopK_congr seqK_congr CutK_congr vc_congr DrawK_congr regK_congr CallK_congr AskK_congr newK_congr retC_congr ret1_congr retK_congr outV_congr closeK_congr genR_congr appR_congr finD_congr finGD_congr stepGD_congr stepD_congr CallK0_congr runD_congr okR_congr CallS_congr vcX_congr
attribute [local congr] Stop_congr
theorem tkC_set : ∀ {L : List TK} {i : Nat} (h : i < L.length) (e : Int), (tkC L).set (i * 4 + 2) (.ext (.int .i64 e)) = tkC (L.set i { L[i] with env := e })
  | x :: L, 0, _, e => by simp [tkC, TK.c]
  | x :: L, i + 1, h, e => by
    have ih := tkC_set (L := L) (i := i) (by simpa using h) e
    have e1 : tkC (x :: L) = [.ext (.string (bs x.pk)), .ext (.string (bs x.ts)), .ext (.int .i64 x.env), .ext (.int .i64 x.cost)] ++ tkC L := by simp [tkC, TK.c]
    have e2 : ∀ y, tkC (x :: L.set i y) = [.ext (.string (bs x.pk)), .ext (.string (bs x.ts)), .ext (.int .i64 x.env), .ext (.int .i64 x.cost)] ++ tkC (L.set i y) := fun y => by simp [tkC, TK.c]
    rw [e1, List.set_append_right _ _ (by simp; omega), List.set_cons_succ, e2]
    congr 1
    refine Eq.trans ?_ ih
    congr 1
    simp only [List.length_cons, List.length_nil]; omega
theorem FrzF.keepZ {K : AV → Hp → Mem → Prop} {H H2 : Hp} {M' : Mem} {k n z : Nat} {T : TypeId} (cs : List Value) (h1 : lkH H k = none) (h2 : cs.length = n * z) (h3 : hasK k (mentH H2) = false) (h4 : lkH H2 k = none) (h : ∀ u M'', Mem.le M' M'' → SlM M'' z u n cs → FreshS M' u → K (.ext u) H2 M'') : FrzF K H (.slo k 0 n z) ((k, T, cs.map .ext) :: H2) M' :=
  .inr ⟨none, [], [], k, n, z, T, cs, H2, rfl, rfl, h4, h1, h2, by simpa [mentL] using h3, h⟩
structure okT (x : TK) : Prop where
  pk : x.pk = [112]
  ts : x.ts = [116]
  e0 : 0 ≤ x.env
  e2 : x.env ≤ 2
  c1 : 1 ≤ x.cost
  c2 : x.cost ≤ 100
theorem okT_chk {x : TK} (h : okT x) : chkT x = true := by
  obtain ⟨pk, ts, env, cost⟩ := x
  obtain ⟨h1, h2, h3, h4, h5, h6⟩ := h
  simp only at *
  subst h1 h2
  unfold chkT usaT
  simp
  omega
theorem mkT_ok {cs : List Int} (h : ∀ c ∈ cs, 1 ≤ c ∧ c ≤ 100) : ∀ x ∈ mkT cs, okT x := fun x hx => by
  unfold mkT mkP at hx
  obtain ⟨i, hi, rfl⟩ := List.mem_map.1 hx
  have hi := List.mem_range.1 hi
  have := h (cs.getD i 0) (by rw [List.getD_eq_getElem?_getD, List.getElem?_eq_getElem hi]; exact List.getElem_mem _)
  exact ⟨rfl, rfl, by simp only [mkX]; omega, by simp only [mkX]; omega, this.1, this.2⟩
section
variable {M : Mem} {K : AV → Hp → Mem → Prop}
theorem tasksO_ok {k n : Nat} {cs : List Int} {Ty : TypeId} (hk : k ≠ 221) (hn : n = cs.length) (hb : cs.length < 1000000) (hK : K (.slo 221 0 n 4) [(221, 49, tkC (mkT cs)), (k, Ty, cE intV64 cs)] M) : CallS Try.prog 23 [.slo k 0 n 1] [(k, Ty, cE intV64 cs)] M [] K := by
  subst hn
  refine CallS.bor ⟨⟨_, rfl⟩, trivial⟩ fun us M' hM hb' => ?_
  obtain ⟨x, _, rfl, h1, rfl⟩ := hb'
  refine tasks_ok (h1.isL (L := cs) (T := Ty) (by simp [lkH]) rfl) hb ⟨fun j hj => ?_, fun M3 _ _ h => by rw [h rfl]; exact hK⟩
  simp only [lkH] at hj ⊢
  split at hj
  · rename_i e
    rw [if_neg (by omega)]
  · cases hj
theorem pick3_ok (u : Value) (l : List Int) (p : Nat) (L : List Int) (hL : L.length = 3) (hu : IsL M intV64 u l) (hp : p < 1000000) (hK : ∀ x ∈ L, K (.ext (.int .i64 x)) [(31, 27, [.ext u, .ext (.int .i64 ((p + 1 : Nat) : Int))]), (311, 3, cE intV64 L)] M) :
    CallS Try.prog 26 [.own 31 0, .slo 311 0 3 1] [(311, 3, cE intV64 L), (31, 27, [.ext u, .ext (.int .i64 (p : Int))])] M [] K := by
  refine inlS (cs := []) Try.mixed Try.func26 rfl (by kernel_rfl) 400 rfl rfl ?_
  simp only [Try.f26]
  (replace hb0 := true_and True); refine Go1.mk ?_; repeat' ((first | (with_reducible refine Go1.go ?_) | ((with_reducible first | refine brv_mk ?_ ?_ | refine gsplitD ?_ ?_ | refine gsplitG ?_ ?_) <;> intro h <;> (try simp only [Bool.not_eq_true', Bool.not_eq_false'] at h) <;> replace hb0 := h) | ((with_reducible refine isCall (f := 17) ?_); refine callA ?_) | ((with_reducible refine isCallS (f := 17) ?_); refine (nextI_ok 31 u l p 3 hu (by omega) (by omega) (by omega) (fun x hx0 hx1 => Stop.mk ?_))) | (refine And.intro ?_ ?_; (try simp only [sxO] at *); omega) | fail) <;> (try simp (maxSteps := 1000000) only [hb0, cE_ment, cE_len, cE_kill, hasK_nil, Nat.mul_one, hu.one, ↓hold_pre, awayP, runOps, regK, step1, newK, genR, appR, obl, buildR, Value.cells, closeK, keepH, outV, retK, ret1, retC, RetV, Option.getD, runD, stepD, afterK, undef, simprocAttr, sxB, ↓sxD, sxE, sxTab]))
  obtain ⟨j, rfl⟩ := Int.eq_ofNat_of_zero_le hx0
  have hj : j < L.length := by omega
  have hat := cE_at intV64 hj
  have hm : L[j] ∈ L := List.getElem_mem hj
  have a1 : (0 : Int) ≤ (j : Int) := by omega
  have a2 : (j : Int) < 3 := by omega
  have a3 : (j : Int) < ((3 : Nat) : Int) := by omega
  generalize L[j] = y at *
  refine Stop.go ?_
  (replace hb0 := true_and True); refine Go1.mk ?_; repeat' ((first | (with_reducible refine Go1.go ?_) | ((with_reducible first | refine brv_mk ?_ ?_ | refine gsplitD ?_ ?_ | refine gsplitG ?_ ?_) <;> intro h <;> (try simp only [Bool.not_eq_true', Bool.not_eq_false'] at h) <;> replace hb0 := h) | (refine And.intro ?_ ?_; (try simp only [sxO] at *); omega) | fail) <;> (try simp (maxSteps := 1000000) only [hb0, cE_ment, cE_len, cE_kill, hasK_nil, Nat.mul_one, hu.one, hat, a1, a2, a3, intV64, ↓hold_pre, awayP, runOps, regK, step1, newK, genR, appR, obl, buildR, Value.cells, closeK, keepH, outV, retK, ret1, retC, RetV, Option.getD, runD, stepD, afterK, undef, simprocAttr, sxB, ↓sxD, sxE, sxTab]))
  exact hK _ hm
def drA (M : Mem) (u : Value) (p q : Nat) (top : Int) (cs : List Int) : St := { env := [(7, .ext (.int .i64 (q : Int))), (6, .ext (.int .i64 top)), (5, .slo 327 0 cs.length 1), (0, .own 31 0)], hp := [(327, 3, cE intV64 cs), (31, 27, [.ext u, .ext (.int .i64 (p : Int))])], M := M, kb := 300, fx := [31] }
def drB (M : Mem) (u : Value) (p n : Nat) (L : List TK) (i : Nat) : St := { env := [(9, .ext (.int .i64 (i : Int))), (8, .slo 221 0 n 4), (0, .own 31 0)], hp := [(221, 49, tkC L), (31, 27, [.ext u, .ext (.int .i64 (p : Int))])], M := M, kb := 300, fx := [31] }
theorem drawn_ok (u : Value) (l : List Int) (p : Nat) (most : Nat) (hu : IsL M intV64 u l) (hp : p < 10000) (hmo : most < 1000) (hK : ∀ U L p' M', Mem.le M M' → IsR M' 4 TK.c U L → L.length ≤ most → (∀ x ∈ L, okT x) → p' ≤ p + 3000 → K (.ext U) [(31, 27, [.ext u, .ext (.int .i64 ((p' : Nat) : Int))])] M') :
    CallS Try.prog 11 [.own 31 0, .ext (.int .i64 (most : Int))] [(31, 27, [.ext u, .ext (.int .i64 (p : Int))])] M [] K := by
  refine CallS.frzF ?_
  refine inlS (cs := []) Try.mixed Try.func11 rfl (by kernel_rfl) 300 rfl rfl ?_
  simp only [Try.f11]
  have hc3 : [AV.ext (.int .i64 4), .ext (.int .i64 10), .ext (.int .i64 100)] = cE intV64 [4, 10, 100] := rfl
  have w0 : IntKind.i64.wrap ((most : Int) + 1) = ((most + 1 : Nat) : Int) := succ_i (by omega)
  (replace hb0 := true_and True); refine Go1.mk ?_; repeat' ((first | (with_reducible refine Go1.go ?_) | ((with_reducible first | refine brv_mk ?_ ?_ | refine gsplitD ?_ ?_ | refine gsplitG ?_ ?_) <;> intro h <;> (try simp only [Bool.not_eq_true', Bool.not_eq_false'] at h) <;> replace hb0 := h) | ((with_reducible refine isCall (f := 26) ?_); refine callA ?_) | ((with_reducible refine isCallS (f := 26) ?_); refine (pick3_ok u l p [4, 10, 100] rfl hu (by omega) (fun top htop => Stop.mk ?_))) | (refine And.intro ?_ ?_; (try simp only [sxO] at *); omega) | fail) <;> (try simp (maxSteps := 1000000) only [hb0, hc3, w0, hu.one, cE_ment, cE_kill, hasK_nil, ↓hold_pre, awayP, runOps, regK, step1, newK, genR, appR, obl, buildR, Value.cells, closeK, keepH, outV, retK, ret1, retC, RetV, Option.getD, runD, stepD, afterK, undef, simprocAttr, sxB, ↓sxD, sxE, sxTab]))
  have ht : 4 ≤ top ∧ top ≤ 100 := by
    have htop : top ∈ ([4, 10, 100] : List Int) := htop
    simp only [List.mem_cons, List.not_mem_nil, or_false] at htop
    omega
  refine Stop.go ?_
  (replace hb0 := true_and True); refine Go1.mk ?_; repeat' ((first | (with_reducible refine Go1.go ?_) | ((with_reducible first | refine brv_mk ?_ ?_ | refine gsplitD ?_ ?_ | refine gsplitG ?_ ?_) <;> intro h <;> (try simp only [Bool.not_eq_true', Bool.not_eq_false'] at h) <;> replace hb0 := h) | ((with_reducible refine isCall (f := 17) ?_); refine callA ?_) | ((with_reducible refine isCallS (f := 17) ?_); refine (nextI_ok 31 u l (p + 1) ((most + 1 : Nat) : Int) hu (by omega) (by omega) (by omega) (fun x hx0 hx1 => Stop.mk ?_))) | (refine And.intro ?_ ?_; (try simp only [sxO] at *); omega) | fail) <;> (try simp (maxSteps := 1000000) only [hb0, w0, hu.one, cE_ment, cE_kill, hasK_nil, ↓hold_pre, awayP, runOps, regK, step1, newK, genR, appR, obl, buildR, Value.cells, closeK, keepH, outV, retK, ret1, retC, RetV, Option.getD, runD, stepD, afterK, undef, simprocAttr, sxB, ↓sxD, sxE, sxTab]))
  obtain ⟨q0, rfl⟩ := Int.eq_ofNat_of_zero_le hx0
  refine Stop.go ?_
  clear hc3
  (replace hb0 := true_and True); refine Go1.mk ?_; repeat' ((first | (with_reducible refine Go1.go ?_) | ((with_reducible first | refine brv_mk ?_ ?_ | refine gsplitD ?_ ?_ | refine gsplitG ?_ ?_) <;> intro h <;> (try simp only [Bool.not_eq_true', Bool.not_eq_false'] at h) <;> replace hb0 := h) | (refine And.intro ?_ ?_; (try simp only [sxO] at *); omega) | fail) <;> (try simp (maxSteps := 1000000) only [hb0, hu.one, cE_ment, cE_kill, hasK_nil, ↓hold_pre, awayP, runOps, regK, step1, newK, genR, appR, obl, buildR, Value.cells, closeK, keepH, outV, retK, ret1, retC, RetV, Option.getD, runD, stepD, afterK, undef, simprocAttr, sxB, ↓sxD, sxE, sxTab]))
  refine ⟨fun d z => ∃ q cs p', d = q ∧ cs.length + q ≤ most ∧ p' ≤ p + 2 + cs.length ∧ (∀ c ∈ cs, 1 ≤ c ∧ c ≤ 100) ∧ z = drA M u p' q top cs, ⟨q0, drA M u (p + 1 + 1) q0 top [], (le_nil 5 327 3 1 rfl (.inl (by simp [awayB, mentE, mentH, mentL, AV.ment, hasK, cE_ment]))).trans (le_sub ⟨rfl, rfl, rfl, rfl, trivial⟩ ⟨by simp [lkH, drA, cE], by simp [lkH, drA], trivial⟩ rfl rfl rfl (by simp [keepLt, drA, lkH])), ⟨q0, [], p + 1 + 1, rfl, by simp only [List.length_nil]; omega, by simp only [List.length_nil]; omega, fun c hc => (by cases hc), rfl⟩⟩, ?_⟩
  rintro d z ⟨q, cs, p', rfl, hcl, hp', hcs, rfl⟩
  cases d with
  | zero =>
    have d1 : decide ((0 : Int) < ((0 : Nat) : Int)) = false := by simp
    (replace hb0 := true_and True); refine Go1.mk ?_; repeat' ((first | (with_reducible refine Go1.go ?_) | ((with_reducible first | refine brv_mk ?_ ?_ | refine gsplitD ?_ ?_ | refine gsplitG ?_ ?_) <;> intro h <;> (try simp only [Bool.not_eq_true', Bool.not_eq_false'] at h) <;> replace hb0 := h) | ((with_reducible refine isCall (f := 23) ?_); refine callA ?_) | ((with_reducible refine isCallS (f := 23) ?_); refine (tasksO_ok (by decide) rfl (by omega) (Stop.mk ?_))) | (refine And.intro ?_ ?_; (try simp only [sxO] at *); omega) | fail) <;> (try simp (maxSteps := 1000000) only [hb0, drA, d1, hu.one, cE_ment, cE_kill, hasK_nil, ↓hold_pre, awayP, runOps, regK, step1, newK, genR, appR, obl, buildR, Value.cells, closeK, keepH, outV, retK, ret1, retC, RetV, Option.getD, runD, stepD, afterK, undef, simprocAttr, sxB, ↓sxD, sxE, sxTab]))
    have hlt0 : (mkT cs).length = cs.length := mkP_len cs cs.length
    refine Stop.go ?_
    (replace hb0 := true_and True); refine Go1.mk ?_; repeat' ((first | (with_reducible refine Go1.go ?_) | ((with_reducible first | refine brv_mk ?_ ?_ | refine gsplitD ?_ ?_ | refine gsplitG ?_ ?_) <;> intro h <;> (try simp only [Bool.not_eq_true', Bool.not_eq_false'] at h) <;> replace hb0 := h) | (refine And.intro ?_ ?_; (try simp only [sxO] at *); omega) | fail) <;> (try simp (maxSteps := 1000000) only [hb0, hu.one, cE_ment, cE_kill, tkC_ment, tkC_kill, hasK_nil, ↓hold_pre, awayP, runOps, regK, step1, newK, genR, appR, obl, buildR, Value.cells, closeK, keepH, outV, retK, ret1, retC, RetV, Option.getD, runD, stepD, afterK, undef, simprocAttr, sxB, ↓sxD, sxE, sxTab]))
    refine ⟨fun d z => ∃ i L p2, d = cs.length - i ∧ i ≤ cs.length ∧ L.length = cs.length ∧ p2 ≤ p + 2 + cs.length + i ∧ (∀ x ∈ L, okT x) ∧ z = drB M u p2 cs.length L i, ⟨cs.length, drB M u p' cs.length (mkT cs) 0, le_sub ⟨rfl, rfl, rfl, trivial⟩ ⟨by simp [lkH, drB], by simp [lkH, drB], trivial⟩ rfl rfl rfl (by simp [keepLt, drB, lkH]), ⟨0, mkT cs, p', by omega, by omega, hlt0, by omega, mkT_ok hcs, rfl⟩⟩, ?_⟩
    rintro d z ⟨i, L, p2, rfl, hi, hL, hp2, hok, rfl⟩
    by_cases hlt : i < cs.length
    case neg =>
      obtain rfl : i = cs.length := by omega
      have d2 : decide ((cs.length : Int) < (cs.length : Int)) = false := by simp
      (replace hb0 := true_and True); refine Go1.mk ?_; repeat' ((first | (with_reducible refine Go1.go ?_) | ((with_reducible first | refine brv_mk ?_ ?_ | refine gsplitD ?_ ?_ | refine gsplitG ?_ ?_) <;> intro h <;> (try simp only [Bool.not_eq_true', Bool.not_eq_false'] at h) <;> replace hb0 := h) | (refine And.intro ?_ ?_; (try simp only [sxO] at *); omega) | fail) <;> (try simp (maxSteps := 1000000) only [hb0, drB, d2, hu.one, tkC_ment, tkC_kill, hasK_nil, ↓hold_pre, awayP, runOps, regK, step1, newK, genR, appR, obl, buildR, Value.cells, closeK, keepH, outV, retK, ret1, retC, RetV, Option.getD, runD, stepD, afterK, undef, simprocAttr, sxB, ↓sxD, sxE, sxTab]))
      refine FrzF.keepZ (L.flatMap TK.c) rfl (by rw [flat_len (z := 4) (fun _ => rfl), hL]) (by simp [mentH, mentL, AV.ment, hasK]) rfl fun w M3 h1 h2 h3 => hK w L p2 M3 h1 ?_ (by omega) hok (by omega)
      unfold IsR
      rw [hL]; exact h2
    have d2 : decide ((i : Int) < (cs.length : Int)) = true := by rw [decide_eq_true_eq]; omega
    have b1 : (0 : Int) ≤ (i : Int) := by omega
    have b2 : (i : Int) < (cs.length : Int) := by omega
    have wi : IntKind.i64.wrap ((i : Int) + 1) = ((i + 1 : Nat) : Int) := succ_i (by omega)
    have hle := tkC_len L
    rw [hL] at hle
    (replace hb0 := true_and True); refine Go1.mk ?_; repeat' ((first | (with_reducible refine Go1.go ?_) | ((with_reducible first | refine brv_mk ?_ ?_ | refine gsplitD ?_ ?_ | refine gsplitG ?_ ?_) <;> intro h <;> (try simp only [Bool.not_eq_true', Bool.not_eq_false'] at h) <;> replace hb0 := h) | ((with_reducible refine isCall (f := 17) ?_); refine callA ?_) | ((with_reducible refine isCallS (f := 17) ?_); refine (nextI_ok 31 u l p2 3 hu (by omega) (by omega) (by omega) (fun e he0 he1 => Stop.mk ?_))) | (refine And.intro ?_ ?_; (try simp only [sxO] at *); omega) | fail) <;> (try simp (maxSteps := 1000000) only [hb0, drB, d2, b1, b2, hu.one, tkC_ment, tkC_kill, hasK_nil, ↓hold_pre, awayP, runOps, regK, step1, newK, genR, appR, obl, buildR, Value.cells, closeK, keepH, outV, retK, ret1, retC, RetV, Option.getD, runD, stepD, afterK, undef, simprocAttr, sxB, ↓sxD, sxE, sxTab]))
    have hse := tkC_set (L := L) (i := i) (by omega) e
    have hok2 : ∀ x ∈ L.set i { L[i] with env := e }, okT x := fun x hx => by
      rcases List.mem_or_eq_of_mem_set hx with h | rfl
      · exact hok x h
      · have := hok _ (List.getElem_mem (show i < L.length by omega))
        exact ⟨this.pk, this.ts, he0, by simp only; omega, this.c1, this.c2⟩
    have hin : i * 4 + 2 < cs.length * 4 := by omega
    refine Stop.go ?_
    (replace hb0 := true_and True); refine Go1.mk ?_; repeat' ((first | (with_reducible refine Go1.go ?_) | ((with_reducible first | refine brv_mk ?_ ?_ | refine gsplitD ?_ ?_ | refine gsplitG ?_ ?_) <;> intro h <;> (try simp only [Bool.not_eq_true', Bool.not_eq_false'] at h) <;> replace hb0 := h) | (refine And.intro ?_ ?_; (try simp only [sxO] at *); omega) | fail) <;> (try simp (maxSteps := 1000000) only [hb0, b1, b2, wi, hle, hse, hin, hu.one, tkC_ment, tkC_kill, hasK_nil, Nat.zero_add, ↓hold_pre, awayP, runOps, regK, step1, newK, genR, appR, obl, buildR, Value.cells, closeK, keepH, outV, retK, ret1, retC, RetV, Option.getD, runD, stepD, afterK, undef, simprocAttr, sxB, ↓sxD, sxE, sxTab]))
    exact ⟨cs.length - (i + 1), drB M u (p2 + 1) cs.length _ (i + 1), by omega, le_sub ⟨rfl, rfl, rfl, trivial⟩ ⟨by simp [lkH, drB], by simp [lkH, drB], trivial⟩ rfl rfl rfl (by simp [keepLt, drB, lkH]), i + 1, _, p2 + 1, rfl, by omega, by rw [List.length_set, hL], by omega, hok2, rfl⟩
  | succ q =>
    have d1 : decide ((0 : Int) < ((q + 1 : Nat) : Int)) = true := by rw [decide_eq_true_eq]; omega
    have w1 : IntKind.i64.wrap (((q + 1 : Nat) : Int) - 1) = ((q : Nat) : Int) := by rw [wrap_id (by omega) (by omega)]; omega
    (replace hb0 := true_and True); refine Go1.mk ?_; repeat' ((first | (with_reducible refine Go1.go ?_) | ((with_reducible first | refine brv_mk ?_ ?_ | refine gsplitD ?_ ?_ | refine gsplitG ?_ ?_) <;> intro h <;> (try simp only [Bool.not_eq_true', Bool.not_eq_false'] at h) <;> replace hb0 := h) | ((with_reducible refine isCall (f := 17) ?_); refine callA ?_) | ((with_reducible refine isCallS (f := 17) ?_); refine (nextI_ok 31 u l p' top hu (by omega) (by omega) (by omega) (fun x hx0 hx1 => Stop.mk ?_))) | (refine And.intro ?_ ?_; (try simp only [sxO] at *); omega) | fail) <;> (try simp (maxSteps := 1000000) only [hb0, drA, d1, hu.one, cE_ment, cE_kill, hasK_nil, ↓hold_pre, awayP, runOps, regK, step1, newK, genR, appR, obl, buildR, Value.cells, closeK, keepH, outV, retK, ret1, retC, RetV, Option.getD, runD, stepD, afterK, undef, simprocAttr, sxB, ↓sxD, sxE, sxTab]))
    have w2 : IntKind.i64.wrap (1 + x) = 1 + x := wrap_id (by omega) (by omega)
    have hsn : cE intV64 cs ++ [.ext (.int .i64 (1 + x))] = cE intV64 (cs ++ [1 + x]) := cE_snoc intV64 cs (1 + x)
    have hln : cs.length + 1 = (cs ++ [1 + x]).length := by simp
    refine Stop.go ?_
    (replace hb0 := true_and True); refine Go1.mk ?_; repeat' ((first | (with_reducible refine Go1.go ?_) | ((with_reducible first | refine brv_mk ?_ ?_ | refine gsplitD ?_ ?_ | refine gsplitG ?_ ?_) <;> intro h <;> (try simp only [Bool.not_eq_true', Bool.not_eq_false'] at h) <;> replace hb0 := h) | (refine And.intro ?_ ?_; (try simp only [sxO] at *); omega) | fail) <;> (try simp (maxSteps := 1000000) only [hb0, w1, w2, hsn, hu.one, cE_len, cE_ment, cE_kill, hasK_nil, ↓hold_pre, awayP, runOps, regK, step1, newK, genR, appR, obl, buildR, Value.cells, closeK, keepH, outV, retK, ret1, retC, RetV, Option.getD, runD, stepD, afterK, undef, simprocAttr, sxB, ↓sxD, sxE, sxTab]))
    exact ⟨q, drA M u (p' + 1) q top (cs ++ [1 + x]), by omega, le_sub ⟨rfl, rfl, by rw [← hln]; rfl, rfl, trivial⟩ ⟨by simp [lkH, drA], by simp [lkH, drA], trivial⟩ rfl rfl rfl (by simp [keepLt, drA, lkH]), q, _, p' + 1, rfl, by rw [← hln]; omega, by rw [← hln]; omega, fun c hc => by
      rcases List.mem_append.1 hc with h | h
      · exact hcs c h
      · rw [List.mem_singleton.1 h]; omega, rfl⟩
end
end Go.Proofs.Ytgkfmlgfmcpebaa.Sx
namespace Go.Proofs.Ytgkfmlgfmcpebaa.Sx
open Go Go.RowKit
set_option linter.unusedVariables false
set_option linter.unusedSimpArgs false
set_option maxRecDepth 100000
set_option maxHeartbeats 8000000
attribute [local congr] fin_congr finG_congr stepG_congr step1_congr runOps_congr brv_congr obl_congr condK_congr LoopK_congr seqK_congr CutK_congr vc_congr DrawK_congr regK_congr CallK_congr AskK_congr newK_congr retC_congr ret1_congr retK_congr outV_congr closeK_congr genR_congr appR_congr finD_congr finGD_congr stepGD_congr stepD_congr CallK0_congr runD_congr okR_congr CallS_congr vcX_congr
attribute [local congr] Stop_congr
theorem mem_flat_len : ∀ {P : List (List Nat)} {l : List Nat}, l ∈ P → l.length ≤ P.flatten.length
  | p :: P, l, h => by
    rw [List.flatten_cons, List.length_append]
    rcases List.mem_cons.1 h with rfl | h
    · omega
    · have := mem_flat_len h; omega
theorem divR_len {T : List TK} {n : Int} {may : Nat → Nat → Bool} {P : List (List Nat)} {e : Int} (h : divR T n may P e) : (∀ l ∈ P, l.length ≤ T.length) ∧ P.length ≤ 8 := by
  rcases h with ⟨_, rfl, _⟩ | ⟨he, m, rfl, Q, ⟨Z, hZ, hQ⟩, rfl, _⟩
  · exact ⟨fun l hl => (by cases hl), by simp⟩
  · obtain ⟨_, _, h8⟩ := errT_0 he
    cases hg : giveS may (cosN T) m Z (List.replicate m 0) (List.replicate m []) with
    | none => rw [hg] at hQ; subst hQ; exact ⟨fun l hl => (by cases hl), by simp [divO]⟩
    | some x =>
      obtain ⟨E, P⟩ := x
      rw [hg] at hQ
      subst hQ
      have hk := giveS_ok (giv_start (cosN T) m) hg
      refine ⟨fun l hl => ?_, ?_⟩
      · have h1 := mem_flat_len (P := P) hl
        rw [hk.all.length_eq, List.append_nil, List.length_reverse, hZ.1.length_eq, List.length_range] at h1
        exact h1
      · have : (divO (Option.map Prod.snd (some (E, P)))).length = m := hk.lp
        omega
section
variable {M : Mem} {K : AV → Hp → Mem → Prop}
end
end Go.Proofs.Ytgkfmlgfmcpebaa.Sx
namespace Go.Proofs.Ytgkfmlgfmcpebaa.Sx
open Go
set_option linter.unusedVariables false
theorem chkTL_drawn {L : List TK} (h : ∀ x ∈ L, okT x) (hl : L.length ≤ 64) : chkTL L = true := by
  unfold chkTL
  rw [decide_eq_true hl, Bool.true_and]
  exact List.all_eq_true.2 fun x hx => okT_chk (h x hx)
theorem errT_drawn {L : List TK} (h : ∀ x ∈ L, okT x) (hl : L.length ≤ 64) {m : Nat} (h1 : 1 ≤ m) (h8 : m ≤ 8) : errT L m = 0 := by
  unfold errT
  rw [chkTL_drawn h hl, if_pos rfl, if_pos (by omega)]
structure DivD (L : List TK) (m : Nat) (P : List (List Nat)) (Z E : List Nat) : Prop where
  lon : lonZ L Z
  giv : giveS allY (cosN L) m Z (List.replicate m 0) (List.replicate m []) = some (E, P)
  ok : GivOK (cosN L) m (Z.reverse ++ []) E P
theorem divD_of {L : List TK} (h : ∀ x ∈ L, okT x) (hl : L.length ≤ 64) {m : Nat} (h1 : 1 ≤ m) (h8 : m ≤ 8) {P : List (List Nat)} {e : Int} (hd : divR L m allY P e) : e = 0 ∧ ∃ Z E, DivD L m P Z E := by
  rcases hd with ⟨he, _, _⟩ | ⟨_, m', hm, Q, ⟨Z, hZ, hQ⟩, rfl, rfl⟩
  · exact absurd (errT_drawn h hl h1 h8) he
  · obtain rfl : m = m' := by omega
    obtain ⟨E', P', hg⟩ := give_all (c := cosN L) (m := m) (by omega) Z (List.replicate m 0) (List.replicate m [])
    have hg : giveS allY (cosN L) m Z (List.replicate m 0) (List.replicate m []) = some (E', P') := hg
    rw [hg] at hQ
    subst hQ
    exact ⟨rfl, Z, E', hZ, hg, giveS_ok (giv_start (cosN L) m) hg⟩
end Go.Proofs.Ytgkfmlgfmcpebaa.Sx
namespace Go.Proofs.Ytgkfmlgfmcpebaa.Sx
open Go
set_option linter.unusedVariables false
theorem callA_no {P : Program} {f : FuncId} {args : List AV} {s : St} {d : Option Nat} {K : St → Prop} (hm : mentL args = []) (h : CallS P f args [] s.M [] (afterK s d [] K)) : CallK P f args s d K := callA_nil (by rw [hm]; simp [reachK, cellsK, subH_no]) h
end Go.Proofs.Ytgkfmlgfmcpebaa.Sx
namespace Go.Proofs.Ytgkfmlgfmcpebaa.Sx
open Go Go.RowKit
set_option linter.unusedVariables false
set_option linter.unusedSimpArgs false
section
variable {b : Nat} {T T0 : TypeId} {Ls : List (List Value)} {k i n O : Nat}
theorem le_famPut {s : St} (l : List Value) (E : Env) (R : Hp) (hi : i < Ls.length) (hl : Ls[i] = l) (hn : l.length = n) (hO : lkH s.hp O = some (T0, (famC b Ls).set i (.slo k 0 n 1)))
    (hk : lkH s.hp k = some (T, l.map .ext)) (hF : ∀ j (hj : j < Ls.length), j ≠ i → lkH s.hp (j + b) = some (T, Ls[j].map .ext)) (hkb : k < b) (hOb : O < b) (hOk : O ≠ k)
    (hE : subE E s.env) (hE1 : hasK k (mentE E) = false) (hE2 : ltB b (mentE E) = true) (hR : subHp R s.hp) (hR1 : hasK k (mentH R) = false) (hR2 : ltB b (mentH R) = true) (hR3 : hasK O (keysH R) = false)
    (hfx : hasK k s.fx = false) (hfx2 : ltB b s.fx = true) (hsb : s.kb ≤ b) (hkeep : keepLt s.kb ((O, T0, famC b Ls) :: famH b T Ls R) s.hp) :
    Le s { env := E, hp := (O, T0, famC b Ls) :: famH b T Ls R, M := s.M, kb := s.kb, fx := s.fx, fr := s.fr } := fun c q ρ a w g => by
  let ρ' : Rho := fun j => if j = i + b then ρ k else ρ j
  have hne : ∀ j, j ≠ i + b → ρ j = ρ' j := fun j h => by simp only [ρ', if_neg h]
  have hself : ρ' (i + b) = ρ k := by simp only [ρ', if_pos rfl]
  have hlt : ∀ j, j < b → ρ j = ρ' j := fun j h => hne j (by omega)
  -- what a block of the new heap was
  have hsrc : ∀ j T' cs, lkH ((O, T0, famC b Ls) :: famH b T Ls R) j = some (T', cs) → (j = O ∧ T' = T0 ∧ cs = famC b Ls) ∨ (j ≠ O ∧ ∃ q, ∃ hq : q < Ls.length, j = q + b ∧ T' = T ∧ cs = Ls[q].map .ext) ∨ (j ≠ O ∧ j < b ∧ j ≠ k ∧ lkH s.hp j = some (T', cs) ∧ (∀ m ∈ mentL cs, m < b ∧ m ≠ k)) := fun j T' cs hj => by
    simp only [lkH] at hj
    split at hj
    · rename_i e; cases hj; exact .inl ⟨e.symm, rfl, rfl⟩
    · rename_i e
      have e : j ≠ O := fun h => e h.symm
      by_cases hb : b ≤ j
      · cases hq : Ls[j - b]? with
        | some l' =>
          obtain ⟨hq1, hq2⟩ := List.getElem?_eq_some_iff.1 hq
          unfold famH at hj
          rw [lkH_append, lkH_famB, if_pos hb, hq] at hj
          simp only [Option.map_some, Option.some.injEq, Prod.mk.injEq] at hj
          exact .inr (.inl ⟨e, j - b, hq1, by omega, hj.1.symm, by rw [← hj.2, hq2]⟩)
        | none =>
          unfold famH at hj
          rw [lkH_append, lkH_famB, if_pos hb, hq] at hj
          have := ltB_no hR2 hb
          exact absurd (mentH_lk (T := T') (cs := cs) hj (.inl rfl)) this
      · rw [lkH_fam (by omega)] at hj
        refine .inr (.inr ⟨e, by omega, fun h => hasK_no.1 hR1 (mentH_lk (T := T') (cs := cs) hj (.inl h.symm)), subHp_lk hR j _ hj, fun m hm => ⟨?_, fun h => hasK_no.1 hR1 (mentH_lk hj (.inr (h ▸ hm)))⟩⟩)
        exact Classical.byContradiction fun h => ltB_no hR2 (show b ≤ m by omega) (mentH_lk hj (.inr hm))
  -- each block lay somewhere ahead of it
  have hold : ∀ j x, lkH ((O, T0, famC b Ls) :: famH b T Ls R) j = some x → ∃ j0, ρ' j = ρ j0 ∧ (lkH s.hp j0).isSome = true ∧ ((j = i + b ∧ j0 = k) ∨ (j ≠ i + b ∧ j ≠ k ∧ j0 = j)) := fun j x hj => by
    rcases hsrc j x.1 x.2 hj with ⟨rfl, _, _⟩ | ⟨_, q, hq, rfl, _, _⟩ | ⟨_, h1, h2, h3, _⟩
    · exact ⟨j, (hlt j hOb).symm, by rw [hO]; rfl, .inr ⟨by omega, hOk, rfl⟩⟩
    · by_cases e : q = i
      · subst e; exact ⟨k, hself, by rw [hk]; rfl, .inl ⟨rfl, rfl⟩⟩
      · exact ⟨q + b, (hne _ (by omega)).symm, by rw [hF q hq e]; rfl, .inr ⟨by omega, by omega, rfl⟩⟩
    · exact ⟨j, (hlt j h1).symm, by rw [h3]; rfl, .inr ⟨by omega, h2, rfl⟩⟩
  refine ⟨ρ', { df := g.df, sz := g.sz, env := fun t => ?_, hp := fun j T' cs bb hj hb' => ?_, no := fun j T' cs hj hb' => ?_, inj := fun j j' bb bb' hj hj' hb1 hb2' e => ?_, os := g.os, tape := g.tape, output := g.output, size := g.size, block := g.block, sub := g.sub, le := g.le, mf := g.mf, fix := fun j hj => ?_, fx := fun j hj => ?_, kl := g.kl, fr := g.fr }⟩
  · rcases subE_lk hE t with h | h
    · show (lk E t).is ρ' _
      rw [h]; trivial
    · have h1 := g.env t
      rw [← h] at h1
      exact is_agree (fun j hj => hlt j (Classical.byContradiction fun hc => ltB_no hE2 (show b ≤ j by omega) (mentE_lk hj))) h1
  · rcases hsrc j T' cs hj with ⟨rfl, rfl, rfl⟩ | ⟨_, q, hq, rfl, rfl, rfl⟩ | ⟨_, h1, h2, h3, h4⟩
    · rw [← hlt _ hOb] at hb'
      obtain ⟨⟨arr, f1⟩, f2⟩ := g.hp j T' _ bb hO hb'
      refine ⟨⟨arr, f1.there, f1.size, by have := f1.le; rwa [List.length_set] at this, fun q v hv => ?_⟩, f2⟩
      rw [famC_get?] at hv
      cases e : Ls[q]? with
      | none => rw [e] at hv; cases hv
      | some l' =>
        rw [e] at hv
        simp only [Option.map_some, Option.some.injEq] at hv
        subst hv
        obtain ⟨hq, hq2⟩ := List.getElem?_eq_some_iff.1 e
        by_cases eq : q = i
        · subst eq
          have h5 := f1.is q (.slo k 0 n 1) (by rw [List.getElem?_set, if_pos rfl, if_pos (by rw [famC_len]; exact hq)])
          have h6 : isSlo ρ k 0 n 1 (arr.getD q undef) := h5
          show isSlo ρ' (q + b) 0 l'.length 1 _
          unfold isSlo at h6 ⊢
          rw [hself]
          rw [show l'.length = n by rw [← hq2, hl, hn]]
          exact h6
        · have h5 := f1.is q (.slo (q + b) 0 l'.length 1) (by rw [List.getElem?_set, if_neg (fun h => eq h.symm), famC_get?, e]; rfl)
          refine is_agree (fun m hm => ?_) h5
          have : m = q + b := by simpa [AV.ment] using hm
          subst this
          exact hne _ (by omega)
    · have hex : ∀ (l' : List Value) m, m ∈ mentL (l'.map AV.ext) → False := fun l' m hm => by rw [mentL_ext] at hm; cases hm
      by_cases e : q = i
      · subst e
        rw [hself] at hb'
        obtain ⟨⟨arr, f1⟩, f2⟩ := g.hp k _ _ bb hk hb'
        rw [hl]
        exact ⟨⟨arr, f1.there, f1.size, f1.le, fun p v hv => is_agree (fun m hm => (hex l m (mentL_get hv hm)).elim) (f1.is p v hv)⟩, f2⟩
      · rw [← hne _ (by omega)] at hb'
        obtain ⟨⟨arr, f1⟩, f2⟩ := g.hp _ _ _ bb (hF q hq e) hb'
        exact ⟨⟨arr, f1.there, f1.size, f1.le, fun p v hv => is_agree (fun m hm => (hex _ m (mentL_get hv hm)).elim) (f1.is p v hv)⟩, f2⟩
    · rw [← hlt j h1] at hb'
      obtain ⟨⟨arr, f1⟩, f2⟩ := g.hp j T' cs bb h3 hb'
      exact ⟨⟨arr, f1.there, f1.size, f1.le, fun p v hv => is_agree (fun m hm => hlt m (h4 m (mentL_get hv hm)).1) (f1.is p v hv)⟩, f2⟩
  · rcases hsrc j T' cs hj with ⟨rfl, rfl, rfl⟩ | ⟨_, q, hq, rfl, rfl, rfl⟩ | ⟨_, h1, h2, h3, h4⟩
    · rw [← hlt _ hOb] at hb'
      have := g.no j _ _ hO hb'
      have h5 : ((famC b Ls).set i (.slo k 0 n 1)).length = 0 := by rw [this]; rfl
      rw [List.length_set] at h5
      exact List.eq_nil_of_length_eq_zero h5
    · by_cases e : q = i
      · subst e
        rw [hself] at hb'
        rw [hl]
        exact g.no k _ _ hk hb'
      · rw [← hne _ (by omega)] at hb'
        exact g.no _ _ _ (hF q hq e) hb'
    · rw [← hlt j h1] at hb'
      exact g.no j T' cs h3 hb'
  · obtain ⟨x, hx⟩ := Option.isSome_iff_exists.1 hj
    obtain ⟨x', hx'⟩ := Option.isSome_iff_exists.1 hj'
    obtain ⟨j0, p1, p2, p3⟩ := hold j x hx
    obtain ⟨j1, q1, q2, q3⟩ := hold j' x' hx'
    rw [p1] at hb1
    rw [q1] at hb2'
    have h0 := g.inj j0 j1 bb bb' p2 q2 hb1 hb2' e
    omega
  · exact keepLt_ok hkeep j (g.kl j hj) (g.fix j hj)
  · rw [← hlt j (Classical.byContradiction fun h => ltB_no hfx2 (show b ≤ j by omega) hj)]
    exact g.fx j hj
theorem famC_setset (x : AV) (l : List Value) : (famC b Ls).set i x = (famC b (Ls.set i l)).set i x := by
  refine List.ext_getElem? fun q => ?_
  rw [List.getElem?_set, List.getElem?_set, famC_len, famC_len, List.length_set, famC_get?, famC_get?, List.getElem?_set]
  by_cases e : i = q
  · rw [if_pos e, if_pos e]
  · rw [if_neg e, if_neg e, if_neg e]
theorem le_famSet {s : St} (l : List Value) (E : Env) (R : Hp) (hi : i < Ls.length) (hn : l.length = n) (hO : lkH s.hp O = some (T0, (famC b Ls).set i (.slo k 0 n 1)))
    (hk : lkH s.hp k = some (T, l.map .ext)) (hF : ∀ j (hj : j < Ls.length), lkH s.hp (j + b) = some (T, Ls[j].map .ext)) (hkb : k < b) (hOb : O < b) (hOk : O ≠ k)
    (hE : subE E s.env) (hE1 : hasK k (mentE E) = false) (hE2 : ltB b (mentE E) = true) (hR : subHp R s.hp) (hR1 : hasK k (mentH R) = false) (hR2 : ltB b (mentH R) = true) (hR3 : hasK O (keysH R) = false)
    (hfx : hasK k s.fx = false) (hfx2 : ltB b s.fx = true) (hsb : s.kb ≤ b) (hkeep : keepLt s.kb ((O, T0, famC b (Ls.set i l)) :: famH b T (Ls.set i l) R) s.hp) :
    Le s { env := E, hp := (O, T0, famC b (Ls.set i l)) :: famH b T (Ls.set i l) R, M := s.M, kb := s.kb, fx := s.fx, fr := s.fr } := by
  refine le_famPut (i := i) (k := k) (n := n) l E R (by rw [List.length_set]; exact hi) (by rw [List.getElem_set_self]) hn (by rw [← famC_setset]; exact hO) hk (fun j hj hne => ?_) hkb hOb hOk hE hE1 hE2 hR hR1 hR2 hR3 hfx hfx2 hsb hkeep
  rw [List.length_set] at hj
  rw [hF j hj, List.getElem_set_ne (fun h => hne h.symm)]
theorem hasK_end (k : Nat) (l : List Nat) : hasK k (l ++ [k]) = true := by
  rw [hasK_app]
  have : hasK k [k] = true := by simp [hasK]
  rw [this, Bool.or_true]
theorem subH_fam1 : subH (famH b T Ls []) (mentL (famC b Ls) ++ [O]) = famH b T Ls [] := by
  rw [subH_famAll fun j hj => by rw [hasK_app, famC_has hj]; rfl]; rfl
theorem lk_famI {x : TypeId × List AV} (hO : O < b) (hi : i < Ls.length) : lkH ((O, x) :: famH b T Ls []) (i + b) = some (T, Ls[i].map .ext) := by
  simp only [lkH]
  rw [if_neg (by omega)]
  exact lkH_famI hi
theorem dropH_fam1 {x : TypeId × List AV} (hO : O < b) : dropH ((O, x) :: famH b T Ls []) (famH b T Ls []) = [] := by
  rw [dropH_famAll fun j hj => by rw [lk_famI hO hj]; rfl]; rfl
theorem newKeys_fam {x : TypeId × List AV} (hO : O < b) (s : St) : newKeys s ((O, x) :: famH b T Ls []) (famH b T Ls []) = True := by
  refine eq_true ?_
  have key : ∀ (H : Hp), (∀ j, (lkH (famH b T Ls []) j).isSome = true → (lkH H j).isSome = true) → ∀ (A : Hp), (∀ y ∈ A, (lkH H y.1).isSome = true) → newKeys s H A := fun H _ A => by
    induction A with
    | nil => exact fun _ => trivial
    | cons y A ih => exact fun h => ⟨.inl (h y List.mem_cons_self), ih fun z hz => h z (List.mem_cons_of_mem _ hz)⟩
  refine key _ (fun j hj => ?_) _ (fun y hy => ?_)
  · simp only [lkH]; split
    · rfl
    · exact hj
  · unfold famH famB at hy
    rw [List.append_nil] at hy
    obtain ⟨q, hq, e⟩ := List.getElem_of_mem hy
    rw [List.getElem_mapIdx] at e
    rw [← e]
    have hq2 : q < Ls.length := by rw [List.length_mapIdx] at hq; exact hq
    show (lkH ((O, x) :: famH b T Ls []) (q + b)).isSome = true
    rw [lk_famI hO hq2]; rfl
end
end Go.Proofs.Ytgkfmlgfmcpebaa.Sx
namespace Go.Proofs.Ytgkfmlgfmcpebaa.Sx
open Go Go.RowKit
set_option linter.unusedVariables false
set_option linter.unusedSimpArgs false
set_option maxRecDepth 100000
set_option maxHeartbeats 8000000
attribute [local congr] fin_congr finG_congr stepG_congr step1_congr runOps_congr brv_congr obl_congr condK_congr LoopK_congr seqK_congr CutK_congr vc_congr DrawK_congr regK_congr CallK_congr AskK_congr newK_congr retC_congr ret1_congr retK_congr outV_congr closeK_congr genR_congr appR_congr finD_congr finGD_congr stepGD_congr stepD_congr CallK0_congr runD_congr okR_congr CallS_congr vcX_congr
attribute [local congr] Stop_congr
theorem bst_congr {may may' : Nat → Bool} {E : List Nat} : ∀ {m : Nat}, (∀ r, r < m → may r = may' r) → bst may E m = bst may' E m
  | 0, _ => rfl
  | m + 1, h => by
    have h1 := bst_congr (E := E) (m := m) fun r hr => h r (by omega)
    have h2 := h m (by omega)
    simp only [bst, h1, h2]
theorem giveS_congr {may may' : Nat → Nat → Bool} {c : Nat → Nat} {m : Nat} : ∀ {Z E : List Nat} {P : List (List Nat)}, (∀ i ∈ Z, ∀ r, r < m → may r i = may' r i) → giveS may c m Z E P = giveS may' c m Z E P
  | [], E, P, _ => rfl
  | i :: Z, E, P, h => by
    have h1 : bst (fun k => may k i) E m = bst (fun k => may' k i) E m := bst_congr fun r hr => h i List.mem_cons_self r hr
    simp only [giveS, h1]
    cases bst (fun k => may' k i) E m with
    | none => rfl
    | some b => exact giveS_congr fun j hj => h j (List.mem_cons_of_mem _ hj)
theorem divR_congr {L : List TK} {m : Nat} {may may' : Nat → Nat → Bool} {P : List (List Nat)} {e : Int} (h : ∀ i, i < L.length → ∀ r, r < m → may r i = may' r i) (hd : divR L m may P e) : divR L m may' P e := by
  rcases hd with h1 | ⟨h1, m', hm, Q, ⟨Z, hZ, hQ⟩, h2⟩
  · exact .inl h1
  · obtain rfl : m = m' := by omega
    refine .inr ⟨h1, m, rfl, Q, ⟨Z, hZ, ?_⟩, h2⟩
    rw [hQ, giveS_congr fun i hi r hr => h i (lonZ_in hZ i hi) r hr]
section
variable {M : Mem} {K : AV → Hp → Mem → Prop}
def l201 : List Value := [.int .i64 2, .int .i64 0, .int .i64 1]
def frSt (M : Mem) (U : Value) (m i : Nat) (Ls : List (List Value)) : St := { env := [(7, .ext (.int .i64 (i : Int))), (6, .slo 36 0 m 1), (5, .ext U)], hp := (36, 22, famC 1000 Ls) :: famH 1000 3 Ls [], M := M, kb := 17, fx := [] }
theorem free30_ok (u : Value) (l : List Int) (n : Int) (hu : IsL M intV64 u l) (hK : ∀ M', Mem.le M M' → K (.ext (.bool true)) [] M') : CallS Try.prog 10 [.ext u, .ext (.int .i64 n)] [] M [] K := by
  refine inlS (cs := []) Try.mixed Try.func10 rfl (by kernel_rfl) 17 rfl rfl ?_
  simp only [Try.f10]
  (replace hb0 := true_and True); refine Go1.mk ?_; repeat' ((first | (with_reducible refine Go1.go ?_) | ((with_reducible first | refine brv_mk ?_ ?_ | refine gsplitD ?_ ?_ | refine gsplitG ?_ ?_) <;> intro h <;> (try simp only [Bool.not_eq_true', Bool.not_eq_false'] at h) <;> replace hb0 := h) | ((with_reducible refine isCall (f := 11) ?_); refine callA ?_) | ((with_reducible refine isCallS (f := 11) ?_); refine (drawn_ok u l 0 30 hu (by omega) (by omega) (fun U L p' M1 m1 hU hl hok hp => Stop.mk ?_))) | (refine And.intro ?_ ?_; (try simp only [sxO] at *); omega) | fail) <;> (try simp (maxSteps := 1000000) only [hb0, hu.one, hasK_nil, ↓hold_pre, awayP, runOps, regK, step1, newK, genR, appR, obl, buildR, Value.cells, closeK, keepH, outV, retK, ret1, retC, RetV, Option.getD, runD, stepD, afterK, undef, simprocAttr, sxB, ↓sxD, sxE, sxTab]))
  have m1 : Mem.le M M1 := m1
  have hU : IsR M1 4 TK.c U L := hU
  have hLb : L.length < 1000000 := by omega
  refine Stop.go ?_
  (replace hb0 := true_and True); refine Go1.mk ?_; repeat' ((first | (with_reducible refine Go1.go ?_) | ((with_reducible first | refine brv_mk ?_ ?_ | refine gsplitD ?_ ?_ | refine gsplitG ?_ ?_) <;> intro h <;> (try simp only [Bool.not_eq_true', Bool.not_eq_false'] at h) <;> replace hb0 := h) | (((with_reducible refine isCall (f := 12) ?_); refine callA_nil (by kernel_rfl) ?_; refine (fold_ok n 8 (Stop.mk ?_)))) | (refine And.intro ?_ ?_; (try simp only [sxO] at *); omega) | fail) <;> (try simp (maxSteps := 1000000) only [hb0, hU.one, hasK_nil, ↓hold_pre, awayP, runOps, regK, step1, newK, genR, appR, obl, buildR, Value.cells, closeK, keepH, outV, retK, ret1, retC, RetV, Option.getD, runD, stepD, afterK, undef, simprocAttr, sxB, ↓sxD, sxE, sxTab]))
  obtain ⟨m, hm, hm1, hm8⟩ : ∃ m : Nat, IntKind.i64.wrap (1 + foldI n 8) = (m : Int) ∧ 1 ≤ m ∧ m ≤ 8 := by
    obtain ⟨f1, f2⟩ := foldI_bd1 n 8 (by omega) (by omega)
    refine ⟨(1 + foldI n 8).toNat, ?_, by omega, by omega⟩
    rw [wrap_id (by omega) (by omega)]; omega
  rw [hm]
  have he := errT_drawn hok (by omega) hm1 hm8
  have t1 := Int.toNat_natCast m
  have t2 := repN_nil m
  refine Stop.go ?_
  (replace hb0 := true_and True); refine Go1.mk ?_; repeat' ((first | (with_reducible refine Go1.go ?_) | ((with_reducible first | refine brv_mk ?_ ?_ | refine gsplitD ?_ ?_ | refine gsplitG ?_ ?_) <;> intro h <;> (try simp only [Bool.not_eq_true', Bool.not_eq_false'] at h) <;> replace hb0 := h) | (refine And.intro ?_ ?_; (try simp only [sxO] at *); omega) | fail) <;> (try simp (maxSteps := 1000000) only [hb0, hU.one, t1, t2, mentL_rep, hasK_nil, ↓hold_pre, awayP, runOps, regK, step1, newK, genR, appR, obl, buildR, Value.cells, closeK, keepH, outV, retK, ret1, retC, RetV, Option.getD, runD, stepD, afterK, undef, simprocAttr, sxB, ↓sxD, sxE, sxTab]))
  clear t1 t2
  refine ⟨fun d z => ∃ i Ls, d = m - i ∧ i ≤ m ∧ Ls.length = m ∧ (∀ j, j < i → Ls[j]? = some l201) ∧ z = frSt M1 U m i Ls, ⟨m, frSt M1 U m 0 (List.replicate m []), (le_fam (O := 36) (b := 1000) (n := m) 3 (T0 := 22) (by simp [lkH]) (by simp [ltB, mentE, AV.ment]) (by simp [ltB, mentH, mentL, AV.ment, mentL_rep]) (by simp [ltB]) (by simp)).trans (le_sub ⟨rfl, rfl, rfl, trivial⟩ ⟨by rw [lkH_fam (by omega)]; simp [lkH, upH], subHp_fam (fun i hi => lkH_famI hi) trivial⟩ rfl rfl rfl (keepLt_fam (show 17 ≤ 1000 by omega) (by simp [keepLt, upH]))), ⟨0, _, by omega, by omega, List.length_replicate, fun j hj => absurd hj (by omega), rfl⟩⟩, ?_⟩
  rintro d z ⟨i, Ls, rfl, hi, hLs, hLi, rfl⟩
  have fl := famC_len (b := 1000) (Ls := Ls)
  rw [hLs] at fl
  by_cases hlt : i < m
  · have d1 : decide ((i : Int) < (m : Int)) = true := by rw [decide_eq_true_eq]; omega
    have b1 : (0 : Int) ≤ (i : Int) := by omega
    have b2 : (i : Int) < (m : Int) := by omega
    have wi : IntKind.i64.wrap ((i : Int) + 1) = ((i + 1 : Nat) : Int) := succ_i (by omega)
    have f1 : hasK 45 (mentL (famC 1000 Ls)) = false := famC_ment Ls 1000 (by omega)
    have f2 : hasK 45 (mentH (famH 1000 3 Ls [])) = false := by rw [hasK_fam (by omega)]; rfl
    (replace hb0 := true_and True); refine Go1.mk ?_; repeat' ((first | (with_reducible refine Go1.go ?_) | ((with_reducible first | refine brv_mk ?_ ?_ | refine gsplitD ?_ ?_ | refine gsplitG ?_ ?_) <;> intro h <;> (try simp only [Bool.not_eq_true', Bool.not_eq_false'] at h) <;> replace hb0 := h) | (refine And.intro ?_ ?_; (try simp only [sxO] at *); omega) | fail) <;> (try simp (maxSteps := 1000000) only [hb0, frSt, d1, b1, b2, wi, fl, f1, f2, hasK_app, hasK_nil, Nat.mul_one, Nat.zero_add, ↓hold_pre, awayP, runOps, regK, step1, newK, genR, appR, obl, buildR, Value.cells, closeK, keepH, outV, retK, ret1, retC, RetV, Option.getD, runD, stepD, afterK, undef, simprocAttr, sxB, ↓sxD, sxE, sxTab]))
    refine ⟨m - (i + 1), frSt M1 U m (i + 1) (Ls.set i l201), by omega, le_famSet (O := 36) (k := 45) (b := 1000) (n := 3) l201 _ [] (by omega) rfl (by simp [lkH]) (by simp [lkH, l201]) (fun j hj => ?_) (by omega) (by omega) (by omega) ⟨rfl, rfl, rfl, trivial⟩ (by simp [mentE, AV.ment, hasK]) (by simp [mentE, AV.ment, ltB]) trivial rfl rfl rfl rfl rfl (show 17 ≤ 1000 by omega) ⟨.inl (show 17 ≤ 45 by omega), .inl (show 17 ≤ 36 by omega), keepLt_fam (show 17 ≤ 1000 by omega) trivial⟩, i + 1, _, rfl, by omega, by rw [List.length_set, hLs], fun j hj => ?_, rfl⟩
    · simp only [lkH]
      rw [if_neg (by omega), if_neg (by omega)]
      exact lkH_famI hj
    · rw [List.getElem?_set]
      by_cases e : i = j
      · rw [if_pos e, if_pos (by omega)]
      · rw [if_neg e]; exact hLi j (by omega)
  obtain rfl : i = m := by omega
  have hPl : Ls = LsI (List.replicate i [2, 0, 1]) := by
    refine List.ext_getElem? fun q => ?_
    unfold LsI
    rw [List.map_replicate, List.getElem?_replicate]
    by_cases h : q < i
    · rw [if_pos h, hLi q h]; rfl
    · rw [if_neg h, List.getElem?_eq_none (by omega)]
  subst hPl
  have d1 : decide ((i : Int) < (i : Int)) = false := by simp
  (replace hb0 := true_and True); refine Go1.mk ?_; repeat' ((first | (with_reducible refine Go1.go ?_) | ((with_reducible first | refine brv_mk ?_ ?_ | refine gsplitD ?_ ?_ | refine gsplitG ?_ ?_) <;> intro h <;> (try simp only [Bool.not_eq_true', Bool.not_eq_false'] at h) <;> replace hb0 := h) | (((with_reducible refine isCall (f := 13) ?_); refine callA_no (by simp [mentL, AV.ment, mentL_ext]) ?_; refine (Divide_ok hU hLb _ (fun M3 A P e m3 q1 hA => Stop.mk ?_)))) | (refine And.intro ?_ ?_; (try simp only [sxO] at *); omega) | fail) <;> (try simp (maxSteps := 1000000) only [hb0, frSt, d1, hU.one, hasK_nil, ↓hold_pre, awayP, runOps, regK, step1, newK, genR, appR, obl, buildR, Value.cells, closeK, keepH, outV, retK, ret1, retC, RetV, Option.getD, runD, stepD, afterK, undef, simprocAttr, sxB, ↓sxD, sxE, sxTab]))
  have m3 : Mem.le M1 M3 := m3
  have q1 : divR L i allY P e := q1
  have hA : LLF M1 M3 A (LsP P) := hA
  obtain ⟨rfl, _⟩ := divD_of hok (by omega) hm1 hm8 q1
  have hU3 := hU.le m3
  have ho := hA.ll.sl.2.2
  have hPlen : ∀ q ∈ List.replicate i ([2, 0, 1] : List Int), q.length < 1000000000 := fun q hq => by rw [(List.mem_replicate.1 hq).2]; simp
  have hmay : ∀ j, j < L.length → ∀ r, r < i → mayP L (List.replicate i [2, 0, 1]) r j = allY r j := fun j hj r hr => by
    have hx := hok _ (List.getElem_mem hj)
    have h1 := hx.e0
    have h2 := hx.e2
    unfold mayP allY
    rw [List.getElem?_eq_getElem hj, List.getD_eq_getElem?_getD, List.getElem?_replicate, if_pos hr]
    simp only [Option.map_some, Option.getD_some]
    rw [List.contains_iff_mem]
    simp only [List.mem_cons, List.not_mem_nil, or_false]
    omega
  have hPl0 : (LsI (List.replicate i [2, 0, 1])).length = i := by rw [LsI_len, List.length_replicate]
  have hPn : (List.replicate i ([2, 0, 1] : List Int)).length = i := List.length_replicate
  generalize hPq : List.replicate i ([2, 0, 1] : List Int) = Pl at *
  have r1 := hasK_end 36 (mentL (famC 1000 (LsI Pl)))
  have r2 := subH_fam1 (b := 1000) (T := 3) (Ls := LsI Pl) (O := 36)
  have r3 := dropH_fam1 (b := 1000) (T := 3) (Ls := LsI Pl) (O := 36) (x := (22, famC 1000 (LsI Pl))) (by omega)
  have r4 := newKeys_fam (b := 1000) (T := 3) (Ls := LsI Pl) (O := 36) (x := (22, famC 1000 (LsI Pl))) (by omega)
  refine Stop.go ?_
  (replace hb0 := true_and True); refine Go1.mk ?_; repeat' ((first | (with_reducible refine Go1.go ?_) | ((with_reducible first | refine brv_mk ?_ ?_ | refine gsplitD ?_ ?_ | refine gsplitG ?_ ?_) <;> intro h <;> (try simp only [Bool.not_eq_true', Bool.not_eq_false'] at h) <;> replace hb0 := h) | ((with_reducible refine isCall (f := 28) ?_); refine callA ?_) | ((with_reducible refine isCallS (f := 28) ?_); refine (Stop.mk ?_)) | (refine And.intro ?_ ?_; (try simp only [sxO] at *); omega) | fail) <;> (try simp (maxSteps := 1000000) only [hb0, hU3.one, ho, dropH_no, r1, r2, hasK_nil, ↓hold_pre, awayP, runOps, regK, step1, newK, genR, appR, obl, buildR, Value.cells, closeK, keepH, outV, retK, ret1, retC, RetV, Option.getD, runD, stepD, afterK, undef, simprocAttr, sxB, ↓sxD, sxE, sxTab]))
  refine Stop.go (CallS.borFam (b := 1000) (Ls := LsI Pl) (l1 := [U]) (l2 := []) (by omega) hPl0.symm (fun W M4 m4 hW => ?_))
  have m4 : Mem.le M3 M4 := m4
  have hW : LLF M3 M4 W (LsI Pl) := hW
  refine Assign_ok (hU3.le m4) hLb hW.ll hPlen (by omega) (fun M5 B P2 e2 m5 q2 hB => ⟨fun j hj => rfl, fun M6 g1 g2 _ => Stop.mk ?_⟩)
  have g1 : Mem.le M3 M6 := g1
  rw [hPn] at q2
  obtain ⟨rfl, rfl⟩ := divR_one q1 (divR_congr hmay q2)
  have hB6 := hB.moveF m4 g2
  have ho2 := hB6.ll.sl.2.2
  obtain ⟨z1, z2⟩ := divR_len q1
  refine Stop.go ?_
  (replace hb0 := true_and True); refine Go1.mk ?_; repeat' ((first | (with_reducible refine Go1.go ?_) | ((with_reducible first | refine brv_mk ?_ ?_ | refine gsplitD ?_ ?_ | refine gsplitG ?_ ?_) <;> intro h <;> (try simp only [Bool.not_eq_true', Bool.not_eq_false'] at h) <;> replace hb0 := h) | (((with_reducible refine isCall (f := 15) ?_); refine callA_no (by simp [mentL, AV.ment, mentL_ext]) ?_; refine (rSame_ok (hA.ll.le g1) hB6.ll (fun l hl => by have := z1 l hl; omega) (by omega) ?_))) | (((with_reducible refine isCall (f := 16) ?_); refine callA_no (by simp [mentL, AV.ment, mentL_ext]) ?_; refine (known_ok (fun M7 m7 => Stop.mk ?_)))) | (refine And.intro ?_ ?_; (try simp only [sxO] at *); omega) | fail) <;> (try simp (maxSteps := 1000000) only [hb0, ho, ho2, dropH_no, r1, r2, r3, r4, List.append_nil, List.nil_append, List.cons_append, hasK_nil, ↓hold_pre, awayP, runOps, regK, step1, newK, genR, appR, obl, buildR, Value.cells, closeK, keepH, outV, retK, ret1, retC, RetV, Option.getD, runD, stepD, afterK, undef, simprocAttr, sxB, ↓sxD, sxE, sxTab]))
  have m7 : Mem.le M6 M7 := m7
  have hk := hK M7 (m1.trans (m3.trans (g1.trans m7)))
  refine Stop.go ?_
  (replace hb0 := true_and True); refine Go1.mk ?_; repeat' ((first | (with_reducible refine Go1.go ?_) | ((with_reducible first | refine brv_mk ?_ ?_ | refine gsplitD ?_ ?_ | refine gsplitG ?_ ?_) <;> intro h <;> (try simp only [Bool.not_eq_true', Bool.not_eq_false'] at h) <;> replace hb0 := h) | (refine And.intro ?_ ?_; (try simp only [sxO] at *); omega) | fail) <;> (try simp (maxSteps := 1000000) only [hb0, subH_no, hasK_nil, ↓hold_pre, awayP, runOps, regK, step1, newK, genR, appR, obl, buildR, Value.cells, closeK, keepH, outV, retK, ret1, retC, RetV, Option.getD, runD, stepD, afterK, undef, simprocAttr, sxB, ↓sxD, sxE, sxTab]))
  exact hk
end
end Go.Proofs.Ytgkfmlgfmcpebaa.Sx
