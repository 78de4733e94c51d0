/- Part 26 of the texts of this claim: a symbolic executor and contracts of functions. -/
import Derived.Test.YtgkfmlgfmcpebaaSLgRP2
import Derived.Test.YtgkfmlgfmcpebaaSLgRCRow
namespace Go.Proofs.Ytgkfmlgfmcpebaa.Sx
open Go Go.RowKit
set_option linter.unusedVariables false
set_option linter.unusedSimpArgs false
set_option maxRecDepth 100000
set_option maxHeartbeats 8000000
attribute [local congr] fin_congr finG_congr stepG_congr step1_congr runOps_congr brv_congr obl_congr condK_congr LoopK_congr seqK_congr CutK_congr vc_congr DrawK_congr regK_congr CallK_congr AskK_congr newK_congr retC_congr ret1_congr retK_congr outV_congr closeK_congr genR_congr appR_congr finD_congr finGD_congr stepGD_congr stepD_congr CallK0_congr runD_congr okR_congr CallS_congr vcX_congr
attribute [local congr] Stop_congr
section
variable {M : Mem} {K : AV → Hp → Mem → Prop} {u v : Value} {T : List TK}
theorem maxO_ok {Ty : TypeId} {m : Nat} {E : List Nat} (hE : E.length = m) (hm1 : 1 ≤ m) (hm8 : m ≤ 8) (hK : K (.ext (.int .i64 ((maxL E : Nat) : Int))) [(7, Ty, end8 m E)] M) : CallS Try.prog 42 [.slo 7 0 m 1] [(7, Ty, end8 m E)] M [] K := by
  refine CallS.bor ⟨⟨_, rfl⟩, trivial⟩ fun us M' hM hb => ?_
  obtain ⟨x, _, rfl, h1, rfl⟩ := hb
  have h2 := h1.part (L := E ++ List.replicate (8 - m) 0) (g := natV) (T := Ty) (by simp [lkH, end8]) (by rw [List.length_append]; omega)
  rw [List.drop_zero, List.take_left' hE] at h2
  exact max_ok E h2 (by omega) (by omega) (BorK.same hK)
theorem contN (l : List Nat) (x : Nat) : (l.map fun (x : Nat) => (x : Int)).contains (x : Int) = l.contains x := by
  rw [Bool.eq_iff_iff]
  simp only [List.contains_iff_mem, List.mem_map]
  constructor
  · rintro ⟨y, h1, h2⟩
    have : y = x := by omega
    exact this ▸ h1
  · exact fun h => ⟨x, h, rfl⟩
theorem contO_ok {Ty : TypeId} {m r x : Nat} {E : List Nat} (hE : E.length = m) (hr : r ≤ m) (hm8 : m ≤ 8) (hK : K (.ext (.bool ((E.take r).contains x))) [(7, Ty, end8 m E)] M) : CallS Try.prog 43 [.slo 7 0 r 1, .ext (.int .i64 (x : Int))] [(7, Ty, end8 m E)] M [] K := by
  refine CallS.bor ⟨⟨_, rfl⟩, trivial⟩ fun us M' hM hb => ?_
  obtain ⟨y, _, rfl, h1, z, _, rfl, hz, rfl⟩ := hb
  have hz : z = .int .i64 (x : Int) := hz
  subst hz
  have h2 := h1.part (L := E ++ List.replicate (8 - m) 0) (g := natV) (T := Ty) (by simp [lkH, end8]) (by rw [List.length_append]; omega)
  rw [List.drop_zero, List.take_append_of_le_length (by omega)] at h2
  refine contains_ok y _ _ h2.nat (by rw [List.length_map, List.length_take]; omega) (BorK.same ?_)
  rw [contN]; exact hK
def plH (u v : Value) (m least : Nat) (E : List Nat) (b : Nat) : Hp := [(7, 61, end8 m E), (11, 64, [.fn 41 [.own 7 0, .own 3 0, .own 10 0, .own 9 0, .own 8 0, .own 2 0, .own 11 0]]), (10, 3, [.ext (.int .i64 (b : Int))]), (9, 3, [.ext (.int .i64 (least : Int))]), (8, 22, [.ext v]), (3, 3, [.ext (.int .i64 (m : Int))]), (2, 23, [.ext u])]
def plSt (M : Mem) (u v : Value) (m least k : Nat) (E : List Nat) (b r : Nat) : St := { env := [(28, .ext (.int .i64 (r : Int))), (27, .ext (.int .i64 (m : Int))), (0, .ext (.int .i64 (k : Int))), (1, .own 7 0), (2, .own 3 0), (3, .own 10 0), (4, .own 9 0), (5, .own 8 0), (6, .own 2 0), (7, .own 11 0)], hp := plH u v m least E b, M := M, kb := 100, fx := [7, 11, 10, 9, 8, 3, 2] }
theorem place_ok (hu : IsR M 4 TK.c u T) (hc : chkTL T = true) {m least : Nat} (hm1 : 1 ≤ m) (hm8 : m ≤ 8) {Z : List Nat} (hv : IsL M natV v Z) (hZ : ∀ x ∈ Z, x < T.length) (hZl : Z.length = T.length) : ∀ (q k : Nat) (E : List Nat) (b : Nat) (K : AV → Hp → Mem → Prop), k + q = Z.length → E.length = m → (∀ x ∈ E, x ≤ k * 1048576) → K (.ext (.tuple #[])) (plH u v m least E (plc (cosN T) m least (Z.drop k) E b)) M →
    CallS Try.prog 41 [.ext (.int .i64 (k : Int)), .own 7 0, .own 3 0, .own 10 0, .own 9 0, .own 8 0, .own 2 0, .own 11 0] (plH u v m least E b) M [] K := by
  obtain ⟨hT64, hTc⟩ := chkTL_parts hc
  intro q
  induction q with
  | zero =>
    intro k E b K hq hE hEb hK
    obtain rfl : k = Z.length := by omega
    rw [List.drop_length] at hK
    simp only [plc] at hK
    refine inlS (cs := []) Try.mixed Try.func41 rfl (by kernel_rfl) 100 rfl rfl ?_
    simp only [Try.f41]
    have l8 := end8_len hE hm8
    have b1 : (0 : Int) ≤ (m : Int) := by omega
    have b2 : (m : Int) ≤ 8 := by omega
    have d0 : decide ((Z.length : Int) = (Z.length : Int)) = true := by simp
    by_cases h1 : b ≤ maxL E
    · have d1 : decide ((b : Int) ≤ ((maxL E : Nat) : Int)) = true := by rw [decide_eq_true_eq]; omega
      rw [if_pos (.inl h1)] at hK
      (replace hb0 := true_and True); refine Go1.mk ?_; repeat' ((first | (with_reducible refine Go1.go ?_) | ((with_reducible first | refine brv_mk ?_ ?_ | refine gsplitD ?_ ?_ | refine gsplitG ?_ ?_) <;> intro h <;> (try simp only [Bool.not_eq_true', Bool.not_eq_false'] at h) <;> replace hb0 := h) | ((with_reducible refine isCall (f := 42) ?_); refine callA ?_) | ((with_reducible refine isCallS (f := 42) ?_); refine (maxO_ok hE hm1 hm8 (Stop.mk ?_))) | (refine And.intro ?_ ?_; (try simp only [sxO] at *); omega) | fail) <;> (try simp (maxSteps := 1000000) only [hb0, plH, l8, b1, b2, Int.toNat_natCast, Int.toNat_zero, Nat.sub_zero, Nat.mul_one, Nat.zero_add, Nat.zero_mul, end8_ment, end8_kill, hasK_nil, hv.one, hv.len, hv.sl, d1, ↓hold_pre, awayP, runOps, regK, step1, newK, genR, appR, obl, buildR, Value.cells, closeK, keepH, outV, retK, ret1, retC, RetV, Option.getD, runD, stepD, afterK, undef, simprocAttr, sxB, ↓sxD, sxE, sxTab]))
      refine Stop.go ?_
      (replace hb0 := true_and True); refine Go1.mk ?_; repeat' ((first | (with_reducible refine Go1.go ?_) | ((with_reducible first | refine brv_mk ?_ ?_ | refine gsplitD ?_ ?_ | refine gsplitG ?_ ?_) <;> intro h <;> (try simp only [Bool.not_eq_true', Bool.not_eq_false'] at h) <;> replace hb0 := h) | (refine And.intro ?_ ?_; (try simp only [sxO] at *); omega) | fail) <;> (try simp (maxSteps := 1000000) only [hb0, plH, l8, b1, b2, Int.toNat_natCast, Int.toNat_zero, Nat.sub_zero, Nat.mul_one, Nat.zero_add, Nat.zero_mul, end8_ment, end8_kill, hasK_nil, hv.one, hv.len, hv.sl, d1, ↓hold_pre, awayP, runOps, regK, step1, newK, genR, appR, obl, buildR, Value.cells, closeK, keepH, outV, retK, ret1, retC, RetV, Option.getD, runD, stepD, afterK, undef, simprocAttr, sxB, ↓sxD, sxE, sxTab]))
      exact hK
    have d1 : decide ((b : Int) ≤ ((maxL E : Nat) : Int)) = false := by rw [decide_eq_false_iff_not]; omega
    by_cases h2 : b = least
    · have d2 : decide ((b : Int) = (least : Int)) = true := by rw [decide_eq_true_eq]; omega
      rw [if_pos (.inr h2)] at hK
      (replace hb0 := true_and True); refine Go1.mk ?_; repeat' ((first | (with_reducible refine Go1.go ?_) | ((with_reducible first | refine brv_mk ?_ ?_ | refine gsplitD ?_ ?_ | refine gsplitG ?_ ?_) <;> intro h <;> (try simp only [Bool.not_eq_true', Bool.not_eq_false'] at h) <;> replace hb0 := h) | ((with_reducible refine isCall (f := 42) ?_); refine callA ?_) | ((with_reducible refine isCallS (f := 42) ?_); refine (maxO_ok hE hm1 hm8 (Stop.mk ?_))) | (refine And.intro ?_ ?_; (try simp only [sxO] at *); omega) | fail) <;> (try simp (maxSteps := 1000000) only [hb0, plH, l8, b1, b2, Int.toNat_natCast, Int.toNat_zero, Nat.sub_zero, Nat.mul_one, Nat.zero_add, Nat.zero_mul, end8_ment, end8_kill, hasK_nil, hv.one, hv.len, hv.sl, d1, d2, ↓hold_pre, awayP, runOps, regK, step1, newK, genR, appR, obl, buildR, Value.cells, closeK, keepH, outV, retK, ret1, retC, RetV, Option.getD, runD, stepD, afterK, undef, simprocAttr, sxB, ↓sxD, sxE, sxTab]))
      refine Stop.go ?_
      (replace hb0 := true_and True); refine Go1.mk ?_; repeat' ((first | (with_reducible refine Go1.go ?_) | ((with_reducible first | refine brv_mk ?_ ?_ | refine gsplitD ?_ ?_ | refine gsplitG ?_ ?_) <;> intro h <;> (try simp only [Bool.not_eq_true', Bool.not_eq_false'] at h) <;> replace hb0 := h) | (refine And.intro ?_ ?_; (try simp only [sxO] at *); omega) | fail) <;> (try simp (maxSteps := 1000000) only [hb0, plH, l8, b1, b2, Int.toNat_natCast, Int.toNat_zero, Nat.sub_zero, Nat.mul_one, Nat.zero_add, Nat.zero_mul, end8_ment, end8_kill, hasK_nil, hv.one, hv.len, hv.sl, d1, d2, ↓hold_pre, awayP, runOps, regK, step1, newK, genR, appR, obl, buildR, Value.cells, closeK, keepH, outV, retK, ret1, retC, RetV, Option.getD, runD, stepD, afterK, undef, simprocAttr, sxB, ↓sxD, sxE, sxTab]))
      exact hK
    have d2 : decide ((b : Int) = (least : Int)) = false := by rw [decide_eq_false_iff_not]; omega
    rw [if_neg (by rintro (h | h); exact h1 h; exact h2 h)] at hK
    (replace hb0 := true_and True); refine Go1.mk ?_; repeat' ((first | (with_reducible refine Go1.go ?_) | ((with_reducible first | refine brv_mk ?_ ?_ | refine gsplitD ?_ ?_ | refine gsplitG ?_ ?_) <;> intro h <;> (try simp only [Bool.not_eq_true', Bool.not_eq_false'] at h) <;> replace hb0 := h) | ((with_reducible refine isCall (f := 42) ?_); refine callA ?_) | ((with_reducible refine isCallS (f := 42) ?_); refine (maxO_ok hE hm1 hm8 (Stop.mk ?_))) | (refine And.intro ?_ ?_; (try simp only [sxO] at *); omega) | fail) <;> (try simp (maxSteps := 1000000) only [hb0, plH, l8, b1, b2, Int.toNat_natCast, Int.toNat_zero, Nat.sub_zero, Nat.mul_one, Nat.zero_add, Nat.zero_mul, end8_ment, end8_kill, hasK_nil, hv.one, hv.len, hv.sl, d1, d2, ↓hold_pre, awayP, runOps, regK, step1, newK, genR, appR, obl, buildR, Value.cells, closeK, keepH, outV, retK, ret1, retC, RetV, Option.getD, runD, stepD, afterK, undef, simprocAttr, sxB, ↓sxD, sxE, sxTab]))
    refine Stop.go ?_
    (replace hb0 := true_and True); refine Go1.mk ?_; repeat' ((first | (with_reducible refine Go1.go ?_) | ((with_reducible first | refine brv_mk ?_ ?_ | refine gsplitD ?_ ?_ | refine gsplitG ?_ ?_) <;> intro h <;> (try simp only [Bool.not_eq_true', Bool.not_eq_false'] at h) <;> replace hb0 := h) | (refine And.intro ?_ ?_; (try simp only [sxO] at *); omega) | fail) <;> (try simp (maxSteps := 1000000) only [hb0, plH, l8, b1, b2, Int.toNat_natCast, Int.toNat_zero, Nat.sub_zero, Nat.mul_one, Nat.zero_add, Nat.zero_mul, end8_ment, end8_kill, hasK_nil, hv.one, hv.len, hv.sl, d0, d1, d2, ↓hold_pre, awayP, runOps, regK, step1, newK, genR, appR, obl, buildR, Value.cells, closeK, keepH, outV, retK, ret1, retC, RetV, Option.getD, runD, stepD, afterK, undef, simprocAttr, sxB, ↓sxD, sxE, sxTab]))
    exact hK
  | succ q ih =>
    intro k E b K hq hE hEb hK
    have hkl : k < Z.length := by omega
    have hdr : Z.drop k = Z[k] :: Z.drop (k + 1) := (List.getElem_cons_drop hkl).symm
    have hvk := hv.at (P := Try.prog) (T := 3) tk3 tz3 hkl
    have hi := hZ _ (List.getElem_mem hkl)
    have vnn := hv.nn hkl
    rw [hdr, plc_cons] at hK
    clear hdr
    generalize Z[k] = i at *
    have hvk : lookM Try.prog 3 M (elemP v 1 k) = some (.int .i64 (i : Int)) := hvk
    refine inlS (cs := []) Try.mixed Try.func41 rfl (by kernel_rfl) 100 rfl rfl ?_
    simp only [Try.f41]
    have l8 := end8_len hE hm8
    have b1 : (0 : Int) ≤ (m : Int) := by omega
    have b2 : (m : Int) ≤ 8 := by omega
    have d0 : decide ((k : Int) = (Z.length : Int)) = false := by rw [decide_eq_false_iff_not]; omega
    by_cases h1 : b ≤ maxL E
    · have d1 : decide ((b : Int) ≤ ((maxL E : Nat) : Int)) = true := by rw [decide_eq_true_eq]; omega
      rw [if_pos (.inl h1)] at hK
      (replace hb0 := true_and True); refine Go1.mk ?_; repeat' ((first | (with_reducible refine Go1.go ?_) | ((with_reducible first | refine brv_mk ?_ ?_ | refine gsplitD ?_ ?_ | refine gsplitG ?_ ?_) <;> intro h <;> (try simp only [Bool.not_eq_true', Bool.not_eq_false'] at h) <;> replace hb0 := h) | ((with_reducible refine isCall (f := 42) ?_); refine callA ?_) | ((with_reducible refine isCallS (f := 42) ?_); refine (maxO_ok hE hm1 hm8 (Stop.mk ?_))) | (refine And.intro ?_ ?_; (try simp only [sxO] at *); omega) | fail) <;> (try simp (maxSteps := 1000000) only [hb0, plH, l8, b1, b2, Int.toNat_natCast, Int.toNat_zero, Nat.sub_zero, Nat.mul_one, Nat.zero_add, Nat.zero_mul, end8_ment, end8_kill, hasK_nil, hv.one, hv.len, hv.sl, d1, ↓hold_pre, awayP, runOps, regK, step1, newK, genR, appR, obl, buildR, Value.cells, closeK, keepH, outV, retK, ret1, retC, RetV, Option.getD, runD, stepD, afterK, undef, simprocAttr, sxB, ↓sxD, sxE, sxTab]))
      refine Stop.go ?_
      (replace hb0 := true_and True); refine Go1.mk ?_; repeat' ((first | (with_reducible refine Go1.go ?_) | ((with_reducible first | refine brv_mk ?_ ?_ | refine gsplitD ?_ ?_ | refine gsplitG ?_ ?_) <;> intro h <;> (try simp only [Bool.not_eq_true', Bool.not_eq_false'] at h) <;> replace hb0 := h) | (refine And.intro ?_ ?_; (try simp only [sxO] at *); omega) | fail) <;> (try simp (maxSteps := 1000000) only [hb0, plH, l8, b1, b2, Int.toNat_natCast, Int.toNat_zero, Nat.sub_zero, Nat.mul_one, Nat.zero_add, Nat.zero_mul, end8_ment, end8_kill, hasK_nil, hv.one, hv.len, hv.sl, d1, ↓hold_pre, awayP, runOps, regK, step1, newK, genR, appR, obl, buildR, Value.cells, closeK, keepH, outV, retK, ret1, retC, RetV, Option.getD, runD, stepD, afterK, undef, simprocAttr, sxB, ↓sxD, sxE, sxTab]))
      exact hK
    have d1 : decide ((b : Int) ≤ ((maxL E : Nat) : Int)) = false := by rw [decide_eq_false_iff_not]; omega
    by_cases h2 : b = least
    · have d2 : decide ((b : Int) = (least : Int)) = true := by rw [decide_eq_true_eq]; omega
      rw [if_pos (.inr h2)] at hK
      (replace hb0 := true_and True); refine Go1.mk ?_; repeat' ((first | (with_reducible refine Go1.go ?_) | ((with_reducible first | refine brv_mk ?_ ?_ | refine gsplitD ?_ ?_ | refine gsplitG ?_ ?_) <;> intro h <;> (try simp only [Bool.not_eq_true', Bool.not_eq_false'] at h) <;> replace hb0 := h) | ((with_reducible refine isCall (f := 42) ?_); refine callA ?_) | ((with_reducible refine isCallS (f := 42) ?_); refine (maxO_ok hE hm1 hm8 (Stop.mk ?_))) | (refine And.intro ?_ ?_; (try simp only [sxO] at *); omega) | fail) <;> (try simp (maxSteps := 1000000) only [hb0, plH, l8, b1, b2, Int.toNat_natCast, Int.toNat_zero, Nat.sub_zero, Nat.mul_one, Nat.zero_add, Nat.zero_mul, end8_ment, end8_kill, hasK_nil, hv.one, hv.len, hv.sl, d1, d2, ↓hold_pre, awayP, runOps, regK, step1, newK, genR, appR, obl, buildR, Value.cells, closeK, keepH, outV, retK, ret1, retC, RetV, Option.getD, runD, stepD, afterK, undef, simprocAttr, sxB, ↓sxD, sxE, sxTab]))
      refine Stop.go ?_
      (replace hb0 := true_and True); refine Go1.mk ?_; repeat' ((first | (with_reducible refine Go1.go ?_) | ((with_reducible first | refine brv_mk ?_ ?_ | refine gsplitD ?_ ?_ | refine gsplitG ?_ ?_) <;> intro h <;> (try simp only [Bool.not_eq_true', Bool.not_eq_false'] at h) <;> replace hb0 := h) | (refine And.intro ?_ ?_; (try simp only [sxO] at *); omega) | fail) <;> (try simp (maxSteps := 1000000) only [hb0, plH, l8, b1, b2, Int.toNat_natCast, Int.toNat_zero, Nat.sub_zero, Nat.mul_one, Nat.zero_add, Nat.zero_mul, end8_ment, end8_kill, hasK_nil, hv.one, hv.len, hv.sl, d1, d2, ↓hold_pre, awayP, runOps, regK, step1, newK, genR, appR, obl, buildR, Value.cells, closeK, keepH, outV, retK, ret1, retC, RetV, Option.getD, runD, stepD, afterK, undef, simprocAttr, sxB, ↓sxD, sxE, sxTab]))
      exact hK
    have d2 : decide ((b : Int) = (least : Int)) = false := by rw [decide_eq_false_iff_not]; omega
    rw [if_neg (by rintro (h | h); exact h1 h; exact h2 h)] at hK
    (replace hb0 := true_and True); refine Go1.mk ?_; repeat' ((first | (with_reducible refine Go1.go ?_) | ((with_reducible first | refine brv_mk ?_ ?_ | refine gsplitD ?_ ?_ | refine gsplitG ?_ ?_) <;> intro h <;> (try simp only [Bool.not_eq_true', Bool.not_eq_false'] at h) <;> replace hb0 := h) | ((with_reducible refine isCall (f := 42) ?_); refine callA ?_) | ((with_reducible refine isCallS (f := 42) ?_); refine (maxO_ok hE hm1 hm8 (Stop.mk ?_))) | (refine And.intro ?_ ?_; (try simp only [sxO] at *); omega) | fail) <;> (try simp (maxSteps := 1000000) only [hb0, plH, l8, b1, b2, Int.toNat_natCast, Int.toNat_zero, Nat.sub_zero, Nat.mul_one, Nat.zero_add, Nat.zero_mul, end8_ment, end8_kill, hasK_nil, hv.one, hv.len, hv.sl, d1, d2, ↓hold_pre, awayP, runOps, regK, step1, newK, genR, appR, obl, buildR, Value.cells, closeK, keepH, outV, retK, ret1, retC, RetV, Option.getD, runD, stepD, afterK, undef, simprocAttr, sxB, ↓sxD, sxE, sxTab]))
    refine Stop.go ?_
    (replace hb0 := true_and True); refine Go1.mk ?_; repeat' ((first | (with_reducible refine Go1.go ?_) | ((with_reducible first | refine brv_mk ?_ ?_ | refine gsplitD ?_ ?_ | refine gsplitG ?_ ?_) <;> intro h <;> (try simp only [Bool.not_eq_true', Bool.not_eq_false'] at h) <;> replace hb0 := h) | (refine And.intro ?_ ?_; (try simp only [sxO] at *); omega) | fail) <;> (try simp (maxSteps := 1000000) only [hb0, plH, l8, b1, b2, Int.toNat_natCast, Int.toNat_zero, Nat.sub_zero, Nat.mul_one, Nat.zero_add, Nat.zero_mul, end8_ment, end8_kill, hasK_nil, hv.one, hv.len, hv.sl, d0, d1, d2, ↓hold_pre, awayP, runOps, regK, step1, newK, genR, appR, obl, buildR, Value.cells, closeK, keepH, outV, retK, ret1, retC, RetV, Option.getD, runD, stepD, afterK, undef, simprocAttr, sxB, ↓sxD, sxE, sxTab]))
    refine ⟨fun d z => ∃ r b', d = m - r ∧ r ≤ m ∧ b' = (List.range r).foldl (plcS (cosN T) m least i (Z.drop (k + 1)) E) b ∧ z = plSt M u v m least k E b' r,
      ⟨m, plSt M u v m least k E b 0, le_sub ⟨rfl, rfl, rfl, rfl, rfl, rfl, rfl, rfl, rfl, rfl, trivial⟩ ⟨rfl, rfl, rfl, rfl, rfl, rfl, rfl, trivial⟩ rfl rfl rfl (by simp [keepLt, plSt, plH, lkH]), ⟨0, b, by omega, by omega, rfl, rfl⟩⟩, ?_⟩
    clear d1 d2 h1 h2
    rintro d z ⟨r, b', rfl, hr, hb', rfl⟩
    by_cases hlt : r < m
    case neg =>
      obtain rfl : r = m := by omega
      have c1 : decide ((r : Int) < (r : Int)) = false := by simp
      rw [← hb'] at hK
      (replace hb0 := true_and True); refine Go1.mk ?_; repeat' ((first | (with_reducible refine Go1.go ?_) | ((with_reducible first | refine brv_mk ?_ ?_ | refine gsplitD ?_ ?_ | refine gsplitG ?_ ?_) <;> intro h <;> (try simp only [Bool.not_eq_true', Bool.not_eq_false'] at h) <;> replace hb0 := h) | (refine And.intro ?_ ?_; (try simp only [sxO] at *); omega) | fail) <;> (try simp (maxSteps := 1000000) only [hb0, plSt, c1, plH, l8, b1, b2, Int.toNat_natCast, Int.toNat_zero, Nat.sub_zero, Nat.mul_one, Nat.zero_add, Nat.zero_mul, end8_ment, end8_kill, hasK_nil, hv.one, hv.len, hv.sl, ↓hold_pre, awayP, runOps, regK, step1, newK, genR, appR, obl, buildR, Value.cells, closeK, keepH, outV, retK, ret1, retC, RetV, Option.getD, runD, stepD, afterK, undef, simprocAttr, sxB, ↓sxD, sxE, sxTab]))
      exact hK
    have c1 : decide ((r : Int) < (m : Int)) = true := by rw [decide_eq_true_eq]; omega
    have c2 : (0 : Int) ≤ (r : Int) := by omega
    have c3 : (r : Int) < 8 := by omega
    have c4 : (r : Int) ≤ 8 := by omega
    have wr : IntKind.i64.wrap ((r : Int) + 1) = ((r + 1 : Nat) : Int) := succ_i (by omega)
    have wk : IntKind.i64.wrap ((k : Int) + 1) = ((k + 1 : Nat) : Int) := succ_i (by omega)
    have a1 := end8_at hE hlt
    have hnb : (List.range (r + 1)).foldl (plcS (cosN T) m least i (Z.drop (k + 1)) E) b = plcS (cosN T) m least i (Z.drop (k + 1)) E b' r := by rw [List.range_succ, List.foldl_append, ← hb']; rfl
    cases hcn : (E.take r).contains (E.getD r 0) with
    | true =>
      have hnb2 : plcS (cosN T) m least i (Z.drop (k + 1)) E b' r = b' := by unfold plcS; rw [hcn]; rfl
      rw [hnb2] at hnb
      (replace hb0 := true_and True); refine Go1.mk ?_; repeat' ((first | (with_reducible refine Go1.go ?_) | ((with_reducible first | refine brv_mk ?_ ?_ | refine gsplitD ?_ ?_ | refine gsplitG ?_ ?_) <;> intro h <;> (try simp only [Bool.not_eq_true', Bool.not_eq_false'] at h) <;> replace hb0 := h) | ((with_reducible refine isCall (f := 43) ?_); refine callA ?_) | ((with_reducible refine isCall0 (f := 43) ?_); refine callA0 ?_) | ((with_reducible refine isCallS (f := 43) ?_); refine (contO_ok hE (by omega) hm8 (Stop.mk ?_))) | ((with_reducible refine isDraw [some 31, some 32, some 33, some 34, some 35, some 36] (by decide) ?_); refine draw_rule [(0, []), (1, []), (2, [1]), (3, [1]), (4, [1]), (5, [])] [[], [0], [], [2], [2, 3], [0, 1, 2, 3, 4]] [31, 32, 33, 34, 35] [] (by kernel_rfl) (by kernel_rfl) (by kernel_rfl) (by kernel_rfl) (by exact trivial) ?_) | ((with_reducible refine isDraw [some 37, some 38, some 39, some 40, some 41, some 42, some 43, some 44, some 45, some 46, some 47, some 48, some 49, none] (by decide) ?_); refine draw_rule [(0, []), (1, []), (2, []), (3, [2]), (4, [2, 3]), (5, [2, 3, 4]), (6, [2, 3]), (7, [2, 3]), (8, [2]), (9, [2]), (10, [2]), (11, []), (12, []), (13, [])] [[], [0], [0, 1], [], [], [], [4, 5], [4, 5, 6], [3, 4, 5, 6, 7], [3, 4, 5, 6, 7, 8], [3, 4, 5, 6, 7, 8, 9], [0, 1, 2, 3, 4, 5, 6, 7, 8, 9, 10], [0, 1, 2, 3, 4, 5, 6, 7, 8, 9, 10, 11], [0, 1, 2, 3, 4, 5, 6, 7, 8, 9, 10, 11, 12]] [37, 38, 39, 40, 41, 42, 43, 44, 45, 46, 47] [] (by kernel_rfl) (by kernel_rfl) (by kernel_rfl) (by kernel_rfl) (by exact trivial) ?_) | ((with_reducible refine isDraw [some 54, some 55, some 56, some 57, some 58, some 59, some 60, some 61, some 62, some 63, some 64, some 65, some 66, none] (by decide) ?_); refine draw_rule [(0, []), (1, []), (2, []), (3, [2]), (4, [2, 3]), (5, [2, 3, 4]), (6, [2, 3]), (7, [2, 3]), (8, [2]), (9, [2]), (10, [2]), (11, []), (12, []), (13, [])] [[], [0], [0, 1], [], [], [], [4, 5], [4, 5, 6], [3, 4, 5, 6, 7], [3, 4, 5, 6, 7, 8], [3, 4, 5, 6, 7, 8, 9], [0, 1, 2, 3, 4, 5, 6, 7, 8, 9, 10], [0, 1, 2, 3, 4, 5, 6, 7, 8, 9, 10, 11], [0, 1, 2, 3, 4, 5, 6, 7, 8, 9, 10, 11, 12]] [54, 55, 56, 57, 58, 59, 60, 61, 62, 63, 64] [] (by kernel_rfl) (by kernel_rfl) (by kernel_rfl) (by kernel_rfl) (by exact trivial) ?_) | (refine And.intro ?_ ?_; (try simp only [sxO] at *); omega) | fail) <;> (try simp (maxSteps := 1000000) only [hb0, plSt, c1, c2, c3, c4, a1, plH, l8, b1, b2, Int.toNat_natCast, Int.toNat_zero, Nat.sub_zero, Nat.mul_one, Nat.zero_add, Nat.zero_mul, end8_ment, end8_kill, hasK_nil, hv.one, hv.len, hv.sl, ↓hold_pre, awayP, runOps, regK, step1, newK, genR, appR, obl, buildR, Value.cells, closeK, keepH, outV, retK, ret1, retC, RetV, Option.getD, runD, stepD, afterK, undef, simprocAttr, sxB, ↓sxD, sxE, sxTab]))
      rw [hcn]
      refine Stop.go ?_
      (replace hb0 := true_and True); refine Go1.mk ?_; repeat' ((first | (with_reducible refine Go1.go ?_) | ((with_reducible first | refine brv_mk ?_ ?_ | refine gsplitD ?_ ?_ | refine gsplitG ?_ ?_) <;> intro h <;> (try simp only [Bool.not_eq_true', Bool.not_eq_false'] at h) <;> replace hb0 := h) | ((with_reducible refine isDraw [some 31, some 32, some 33, some 34, some 35, some 36] (by decide) ?_); refine draw_rule [(0, []), (1, []), (2, [1]), (3, [1]), (4, [1]), (5, [])] [[], [0], [], [2], [2, 3], [0, 1, 2, 3, 4]] [31, 32, 33, 34, 35] [] (by kernel_rfl) (by kernel_rfl) (by kernel_rfl) (by kernel_rfl) (by exact trivial) ?_) | ((with_reducible refine isDraw [some 37, some 38, some 39, some 40, some 41, some 42, some 43, some 44, some 45, some 46, some 47, some 48, some 49, none] (by decide) ?_); refine draw_rule [(0, []), (1, []), (2, []), (3, [2]), (4, [2, 3]), (5, [2, 3, 4]), (6, [2, 3]), (7, [2, 3]), (8, [2]), (9, [2]), (10, [2]), (11, []), (12, []), (13, [])] [[], [0], [0, 1], [], [], [], [4, 5], [4, 5, 6], [3, 4, 5, 6, 7], [3, 4, 5, 6, 7, 8], [3, 4, 5, 6, 7, 8, 9], [0, 1, 2, 3, 4, 5, 6, 7, 8, 9, 10], [0, 1, 2, 3, 4, 5, 6, 7, 8, 9, 10, 11], [0, 1, 2, 3, 4, 5, 6, 7, 8, 9, 10, 11, 12]] [37, 38, 39, 40, 41, 42, 43, 44, 45, 46, 47] [] (by kernel_rfl) (by kernel_rfl) (by kernel_rfl) (by kernel_rfl) (by exact trivial) ?_) | ((with_reducible refine isDraw [some 54, some 55, some 56, some 57, some 58, some 59, some 60, some 61, some 62, some 63, some 64, some 65, some 66, none] (by decide) ?_); refine draw_rule [(0, []), (1, []), (2, []), (3, [2]), (4, [2, 3]), (5, [2, 3, 4]), (6, [2, 3]), (7, [2, 3]), (8, [2]), (9, [2]), (10, [2]), (11, []), (12, []), (13, [])] [[], [0], [0, 1], [], [], [], [4, 5], [4, 5, 6], [3, 4, 5, 6, 7], [3, 4, 5, 6, 7, 8], [3, 4, 5, 6, 7, 8, 9], [0, 1, 2, 3, 4, 5, 6, 7, 8, 9, 10], [0, 1, 2, 3, 4, 5, 6, 7, 8, 9, 10, 11], [0, 1, 2, 3, 4, 5, 6, 7, 8, 9, 10, 11, 12]] [54, 55, 56, 57, 58, 59, 60, 61, 62, 63, 64] [] (by kernel_rfl) (by kernel_rfl) (by kernel_rfl) (by kernel_rfl) (by exact trivial) ?_) | (refine And.intro ?_ ?_; (try simp only [sxO] at *); omega) | fail) <;> (try simp (maxSteps := 1000000) only [hb0, wr, plH, l8, b1, b2, Int.toNat_natCast, Int.toNat_zero, Nat.sub_zero, Nat.mul_one, Nat.zero_add, Nat.zero_mul, end8_ment, end8_kill, hasK_nil, hv.one, hv.len, hv.sl, ↓hold_pre, awayP, runOps, regK, step1, newK, genR, appR, obl, buildR, Value.cells, closeK, keepH, outV, retK, ret1, retC, RetV, Option.getD, runD, stepD, afterK, undef, simprocAttr, sxB, ↓sxD, sxE, sxTab]))
      exact ⟨m - (r + 1), plSt M u v m least k E b' (r + 1), by omega, le_sub ⟨rfl, rfl, rfl, rfl, rfl, rfl, rfl, rfl, rfl, rfl, trivial⟩ ⟨rfl, rfl, rfl, rfl, rfl, rfl, rfl, trivial⟩ rfl rfl rfl (by simp [keepLt, plSt, plH, lkH]), r + 1, b', rfl, by omega, hnb.symm, rfl⟩
    | false =>
      have hnb2 : plcS (cosN T) m least i (Z.drop (k + 1)) E b' r = plc (cosN T) m least (Z.drop (k + 1)) (E.set r (E.getD r 0 + cosN T i)) b' := by unfold plcS; rw [hcn]; rfl
      rw [hnb2] at hnb
      have hEr : E.getD r 0 ≤ k * 1048576 := by
        rw [List.getD_eq_getElem?_getD, List.getElem?_eq_getElem (by omega)]
        exact hEb _ (List.getElem_mem _)
      have hci := hTc i hi
      have hcb : cosN T i ≤ 1048576 := by unfold cosN; omega
      have w1 : IntKind.i64.wrap (((E.getD r 0 : Nat) : Int) + ((cosN T i : Nat) : Int)) = ((E.getD r 0 + cosN T i : Nat) : Int) := by rw [wrap_id (by omega) (by omega)]; omega
      have w2 : IntKind.i64.wrap (((E.getD r 0 + cosN T i : Nat) : Int) - ((cosN T i : Nat) : Int)) = ((E.getD r 0 : Nat) : Int) := by rw [wrap_id (by omega) (by omega)]; omega
      have st := end8_set hE hlt (E.getD r 0 + cosN T i)
      have hE2 : (E.set r (E.getD r 0 + cosN T i)).length = m := by rw [List.length_set, hE]
      have a2 := end8_at hE2 hlt
      rw [getD_set (by omega), if_pos rfl] at a2
      have sb := end8_set hE2 hlt (E.getD r 0)
      rw [set_back (by omega)] at sb
      have l2 := end8_len hE2 hm8
      have hEb2 := setE_le hEb (b := r) (y := E.getD r 0 + cosN T i) (Nat.le_trans (Nat.add_le_add hEr hcb) (by rw [Nat.succ_mul]; exact Nat.le_refl _))
      have unn := hu.nn hi
      have upt := hu.pt hi
      have uat := hu.atF (P := Try.prog) (T := 3) (fun _ => rfl) tk3 tz3 hi (o := 3) (v := .int .i64 T[i].cost) rfl
      rw [cosN_cost hi hci.1] at uat
      have i1 : (0 : Int) ≤ (i : Int) := by omega
      have i2 : (i : Int) < (T.length : Int) := by omega
      have k1 : (0 : Int) ≤ (k : Int) := by omega
      have k2 : (k : Int) < (Z.length : Int) := by omega
      have ih2 := fun K hK => ih (k + 1) (E.set r (E.getD r 0 + cosN T i)) b' K (by omega) hE2 hEb2 hK
      clear ih
      generalize plc (cosN T) m least (Z.drop (k + 1)) (E.set r (E.getD r 0 + cosN T i)) b' = nb at *
      (replace hb0 := true_and True); refine Go1.mk ?_; repeat' ((first | (with_reducible refine Go1.go ?_) | ((with_reducible first | refine brv_mk ?_ ?_ | refine gsplitD ?_ ?_ | refine gsplitG ?_ ?_) <;> intro h <;> (try simp only [Bool.not_eq_true', Bool.not_eq_false'] at h) <;> replace hb0 := h) | ((with_reducible refine isCall (f := 43) ?_); refine callA ?_) | ((with_reducible refine isCall0 (f := 43) ?_); refine callA0 ?_) | ((with_reducible refine isCallS (f := 43) ?_); refine (contO_ok hE (by omega) hm8 (Stop.mk ?_))) | ((with_reducible refine isDraw [some 31, some 32, some 33, some 34, some 35, some 36] (by decide) ?_); refine draw_rule [(0, []), (1, []), (2, [1]), (3, [1]), (4, [1]), (5, [])] [[], [0], [], [2], [2, 3], [0, 1, 2, 3, 4]] [31, 32, 33, 34, 35] [] (by kernel_rfl) (by kernel_rfl) (by kernel_rfl) (by kernel_rfl) (by exact trivial) ?_) | ((with_reducible refine isDraw [some 37, some 38, some 39, some 40, some 41, some 42, some 43, some 44, some 45, some 46, some 47, some 48, some 49, none] (by decide) ?_); refine draw_rule [(0, []), (1, []), (2, []), (3, [2]), (4, [2, 3]), (5, [2, 3, 4]), (6, [2, 3]), (7, [2, 3]), (8, [2]), (9, [2]), (10, [2]), (11, []), (12, []), (13, [])] [[], [0], [0, 1], [], [], [], [4, 5], [4, 5, 6], [3, 4, 5, 6, 7], [3, 4, 5, 6, 7, 8], [3, 4, 5, 6, 7, 8, 9], [0, 1, 2, 3, 4, 5, 6, 7, 8, 9, 10], [0, 1, 2, 3, 4, 5, 6, 7, 8, 9, 10, 11], [0, 1, 2, 3, 4, 5, 6, 7, 8, 9, 10, 11, 12]] [37, 38, 39, 40, 41, 42, 43, 44, 45, 46, 47] [] (by kernel_rfl) (by kernel_rfl) (by kernel_rfl) (by kernel_rfl) (by exact trivial) ?_) | ((with_reducible refine isDraw [some 54, some 55, some 56, some 57, some 58, some 59, some 60, some 61, some 62, some 63, some 64, some 65, some 66, none] (by decide) ?_); refine draw_rule [(0, []), (1, []), (2, []), (3, [2]), (4, [2, 3]), (5, [2, 3, 4]), (6, [2, 3]), (7, [2, 3]), (8, [2]), (9, [2]), (10, [2]), (11, []), (12, []), (13, [])] [[], [0], [0, 1], [], [], [], [4, 5], [4, 5, 6], [3, 4, 5, 6, 7], [3, 4, 5, 6, 7, 8], [3, 4, 5, 6, 7, 8, 9], [0, 1, 2, 3, 4, 5, 6, 7, 8, 9, 10], [0, 1, 2, 3, 4, 5, 6, 7, 8, 9, 10, 11], [0, 1, 2, 3, 4, 5, 6, 7, 8, 9, 10, 11, 12]] [54, 55, 56, 57, 58, 59, 60, 61, 62, 63, 64] [] (by kernel_rfl) (by kernel_rfl) (by kernel_rfl) (by kernel_rfl) (by exact trivial) ?_) | (refine And.intro ?_ ?_; (try simp only [sxO] at *); omega) | fail) <;> (try simp (maxSteps := 1000000) only [hb0, plSt, c1, c2, c3, c4, a1, plH, l8, b1, b2, Int.toNat_natCast, Int.toNat_zero, Nat.sub_zero, Nat.mul_one, Nat.zero_add, Nat.zero_mul, end8_ment, end8_kill, hasK_nil, hv.one, hv.len, hv.sl, ↓hold_pre, awayP, runOps, regK, step1, newK, genR, appR, obl, buildR, Value.cells, closeK, keepH, outV, retK, ret1, retC, RetV, Option.getD, runD, stepD, afterK, undef, simprocAttr, sxB, ↓sxD, sxE, sxTab]))
      rw [hcn]
      refine Stop.go ?_
      (replace hb0 := true_and True); refine Go1.mk ?_; repeat' ((first | (with_reducible refine Go1.go ?_) | ((with_reducible first | refine brv_mk ?_ ?_ | refine gsplitD ?_ ?_ | refine gsplitG ?_ ?_) <;> intro h <;> (try simp only [Bool.not_eq_true', Bool.not_eq_false'] at h) <;> replace hb0 := h) | ((with_reducible refine isCall (f := 41) ?_); refine callA ?_) | ((with_reducible refine isCallS (f := 41) ?_); refine (ih2 _ (Stop.mk ?_))) | ((with_reducible refine isDraw [some 31, some 32, some 33, some 34, some 35, some 36] (by decide) ?_); refine draw_rule [(0, []), (1, []), (2, [1]), (3, [1]), (4, [1]), (5, [])] [[], [0], [], [2], [2, 3], [0, 1, 2, 3, 4]] [31, 32, 33, 34, 35] [] (by kernel_rfl) (by kernel_rfl) (by kernel_rfl) (by kernel_rfl) (by exact trivial) ?_) | ((with_reducible refine isDraw [some 37, some 38, some 39, some 40, some 41, some 42, some 43, some 44, some 45, some 46, some 47, some 48, some 49, none] (by decide) ?_); refine draw_rule [(0, []), (1, []), (2, []), (3, [2]), (4, [2, 3]), (5, [2, 3, 4]), (6, [2, 3]), (7, [2, 3]), (8, [2]), (9, [2]), (10, [2]), (11, []), (12, []), (13, [])] [[], [0], [0, 1], [], [], [], [4, 5], [4, 5, 6], [3, 4, 5, 6, 7], [3, 4, 5, 6, 7, 8], [3, 4, 5, 6, 7, 8, 9], [0, 1, 2, 3, 4, 5, 6, 7, 8, 9, 10], [0, 1, 2, 3, 4, 5, 6, 7, 8, 9, 10, 11], [0, 1, 2, 3, 4, 5, 6, 7, 8, 9, 10, 11, 12]] [37, 38, 39, 40, 41, 42, 43, 44, 45, 46, 47] [] (by kernel_rfl) (by kernel_rfl) (by kernel_rfl) (by kernel_rfl) (by exact trivial) ?_) | ((with_reducible refine isDraw [some 54, some 55, some 56, some 57, some 58, some 59, some 60, some 61, some 62, some 63, some 64, some 65, some 66, none] (by decide) ?_); refine draw_rule [(0, []), (1, []), (2, []), (3, [2]), (4, [2, 3]), (5, [2, 3, 4]), (6, [2, 3]), (7, [2, 3]), (8, [2]), (9, [2]), (10, [2]), (11, []), (12, []), (13, [])] [[], [0], [0, 1], [], [], [], [4, 5], [4, 5, 6], [3, 4, 5, 6, 7], [3, 4, 5, 6, 7, 8], [3, 4, 5, 6, 7, 8, 9], [0, 1, 2, 3, 4, 5, 6, 7, 8, 9, 10], [0, 1, 2, 3, 4, 5, 6, 7, 8, 9, 10, 11], [0, 1, 2, 3, 4, 5, 6, 7, 8, 9, 10, 11, 12]] [54, 55, 56, 57, 58, 59, 60, 61, 62, 63, 64] [] (by kernel_rfl) (by kernel_rfl) (by kernel_rfl) (by kernel_rfl) (by exact trivial) ?_) | (refine And.intro ?_ ?_; (try simp only [sxO] at *); omega) | fail) <;> (try simp (maxSteps := 1000000) only [hb0, c2, c3, i1, i2, k1, k2, a1, st, w1, wk, hvk, vnn, unn, upt, uat, hu.one, hu.len, hu.sl, plH, l8, b1, b2, Int.toNat_natCast, Int.toNat_zero, Nat.sub_zero, Nat.mul_one, Nat.zero_add, Nat.zero_mul, end8_ment, end8_kill, hasK_nil, hv.one, hv.len, hv.sl, ↓hold_pre, awayP, runOps, regK, step1, newK, genR, appR, obl, buildR, Value.cells, closeK, keepH, outV, retK, ret1, retC, RetV, Option.getD, runD, stepD, afterK, undef, simprocAttr, sxB, ↓sxD, sxE, sxTab]))
      refine Stop.go ?_
      (replace hb0 := true_and True); refine Go1.mk ?_; repeat' ((first | (with_reducible refine Go1.go ?_) | ((with_reducible first | refine brv_mk ?_ ?_ | refine gsplitD ?_ ?_ | refine gsplitG ?_ ?_) <;> intro h <;> (try simp only [Bool.not_eq_true', Bool.not_eq_false'] at h) <;> replace hb0 := h) | ((with_reducible refine isDraw [some 31, some 32, some 33, some 34, some 35, some 36] (by decide) ?_); refine draw_rule [(0, []), (1, []), (2, [1]), (3, [1]), (4, [1]), (5, [])] [[], [0], [], [2], [2, 3], [0, 1, 2, 3, 4]] [31, 32, 33, 34, 35] [] (by kernel_rfl) (by kernel_rfl) (by kernel_rfl) (by kernel_rfl) (by exact trivial) ?_) | ((with_reducible refine isDraw [some 37, some 38, some 39, some 40, some 41, some 42, some 43, some 44, some 45, some 46, some 47, some 48, some 49, none] (by decide) ?_); refine draw_rule [(0, []), (1, []), (2, []), (3, [2]), (4, [2, 3]), (5, [2, 3, 4]), (6, [2, 3]), (7, [2, 3]), (8, [2]), (9, [2]), (10, [2]), (11, []), (12, []), (13, [])] [[], [0], [0, 1], [], [], [], [4, 5], [4, 5, 6], [3, 4, 5, 6, 7], [3, 4, 5, 6, 7, 8], [3, 4, 5, 6, 7, 8, 9], [0, 1, 2, 3, 4, 5, 6, 7, 8, 9, 10], [0, 1, 2, 3, 4, 5, 6, 7, 8, 9, 10, 11], [0, 1, 2, 3, 4, 5, 6, 7, 8, 9, 10, 11, 12]] [37, 38, 39, 40, 41, 42, 43, 44, 45, 46, 47] [] (by kernel_rfl) (by kernel_rfl) (by kernel_rfl) (by kernel_rfl) (by exact trivial) ?_) | ((with_reducible refine isDraw [some 54, some 55, some 56, some 57, some 58, some 59, some 60, some 61, some 62, some 63, some 64, some 65, some 66, none] (by decide) ?_); refine draw_rule [(0, []), (1, []), (2, []), (3, [2]), (4, [2, 3]), (5, [2, 3, 4]), (6, [2, 3]), (7, [2, 3]), (8, [2]), (9, [2]), (10, [2]), (11, []), (12, []), (13, [])] [[], [0], [0, 1], [], [], [], [4, 5], [4, 5, 6], [3, 4, 5, 6, 7], [3, 4, 5, 6, 7, 8], [3, 4, 5, 6, 7, 8, 9], [0, 1, 2, 3, 4, 5, 6, 7, 8, 9, 10], [0, 1, 2, 3, 4, 5, 6, 7, 8, 9, 10, 11], [0, 1, 2, 3, 4, 5, 6, 7, 8, 9, 10, 11, 12]] [54, 55, 56, 57, 58, 59, 60, 61, 62, 63, 64] [] (by kernel_rfl) (by kernel_rfl) (by kernel_rfl) (by kernel_rfl) (by exact trivial) ?_) | (refine And.intro ?_ ?_; (try simp only [sxO] at *); omega) | fail) <;> (try simp (maxSteps := 1000000) only [hb0, c2, c3, i1, i2, k1, k2, a2, sb, l2, w2, wr, hvk, vnn, unn, upt, uat, hu.one, hu.len, hu.sl, plH, l8, b1, b2, Int.toNat_natCast, Int.toNat_zero, Nat.sub_zero, Nat.mul_one, Nat.zero_add, Nat.zero_mul, end8_ment, end8_kill, hasK_nil, hv.one, hv.len, hv.sl, ↓hold_pre, awayP, runOps, regK, step1, newK, genR, appR, obl, buildR, Value.cells, closeK, keepH, outV, retK, ret1, retC, RetV, Option.getD, runD, stepD, afterK, undef, simprocAttr, sxB, ↓sxD, sxE, sxTab]))
      exact ⟨m - (r + 1), plSt M u v m least k E nb (r + 1), by omega, le_sub ⟨rfl, rfl, rfl, rfl, rfl, rfl, rfl, rfl, rfl, rfl, trivial⟩ ⟨rfl, rfl, rfl, rfl, rfl, rfl, rfl, trivial⟩ rfl rfl rfl (by simp [keepLt, plSt, plH, lkH]), r + 1, nb, rfl, by omega, hnb.symm, rfl⟩
end
end Go.Proofs.Ytgkfmlgfmcpebaa.Sx
namespace Go.Proofs.Ytgkfmlgfmcpebaa.Sx
open Go Go.RowKit
set_option linter.unusedVariables false
set_option linter.unusedSimpArgs false
set_option maxRecDepth 100000
set_option maxHeartbeats 8000000
attribute [local congr] fin_congr finG_congr stepG_congr step1_congr runOps_congr brv_congr obl_congr condK_congr LoopK_congr seqK_congr CutK_congr vc_congr DrawK_congr regK_congr CallK_congr AskK_congr newK_congr retC_congr ret1_congr retK_congr outV_congr closeK_congr genR_congr appR_congr finD_congr finGD_congr stepGD_congr stepD_congr CallK0_congr runD_congr okR_congr CallS_congr vcX_congr
attribute [local congr] Stop_congr
theorem CallS.eqv {P : Program} {f : FuncId} {args : List AV} {H H2 : Hp} {M : Mem} {mv : List Nat} {K : AV → Hp → Mem → Prop} (he : ∀ k, lkH H k = lkH H2 k) (h : CallS P f args H2 M mv K) : CallS P f args H M mv K := fun ρ w us hh ha => by
  refine (h ρ w us ⟨fun k T cs b hk hb => hh.hp k T cs b (by rw [he]; exact hk) hb, fun k T cs hk hb => hh.no k T cs (by rw [he]; exact hk) hb, fun k k' b b' hk hk' => hh.inj k k' b b' (by rw [he]; exact hk) (by rw [he]; exact hk'), hh.sub⟩ ha).mono fun e w' hall => ?_
  obtain ⟨x, v, H', M', ρ', e1, hK, hl⟩ := hall
  exact ⟨x, v, H', M', ρ', e1, hK, { is := hl.is, heap := hl.heap, keep := fun k hk => hl.keep k (by rw [← he]; exact hk), same := fun k hk hm => hl.same k (by rw [← he]; exact hk) hm, ment := hl.ment, fresh := fun k b hk hb => (by
    rcases hl.fresh k b hk hb with h1 | ⟨j, x, h1, h2, h3⟩
    · exact .inl h1
    · exact .inr ⟨j, x, by rw [he]; exact h1, h2, h3⟩), os := hl.os, tape := hl.tape, output := hl.output, size := hl.size, block := fun b hb hk => hl.block b hb fun k x h1 h2 => hk k x (by rw [he]; exact h1) h2, le := hl.le, mem := hl.mem }⟩
section
variable {M : Mem} {K : AV → Hp → Mem → Prop} {u v : Value} {T : List TK}
theorem plc_bestN (hc : chkTL T = true) (h10 : T.length ≤ 10) {m : Nat} (hm : 1 ≤ m) {Z : List Nat} (hZ : lonZ T Z) : plc (cosN T) m (bndT T m) Z (List.replicate m 0) 10485761 = bestN T m := by
  obtain ⟨_, hTc⟩ := chkTL_parts hc
  refine best_same (by omega) hZ.1 List.nodup_range (fun i hi => ?_) ?_
  · have := hTc i (List.mem_range.1 hi)
    unfold cosN; omega
  · have := sT_le hTc T.length (Nat.le_refl _)
    have e : ((List.range T.length).map (cosN T)).sum = sT T T.length := rfl
    omega
theorem Best_ok (hu : IsR M 4 TK.c u T) (hb : T.length < 1000000) (n : Int) (hK : ∀ M', Mem.le M M' → K (.ext (.tuple #[.int .i64 (bestQ T n).1, .int .i64 (bestQ T n).2])) [] M') : CallS Try.prog 21 [.ext u, .ext (.int .i64 n)] [] M [] K := by
  refine inlS (cs := []) Try.mixed Try.func21 rfl (by kernel_rfl) 0 rfl rfl ?_
  simp only [Try.f21]
  have hce : u.cells = #[u] := cells_sl hu.sl
  unfold Value.cells at hce
  by_cases he : errT T n = 0
  case neg =>
    have d1 : decide (errT T n = 0) = false := decide_eq_false he
    rw [bestQ_err he] at hK
    (replace hb0 := true_and True); refine Go1.mk ?_; repeat' ((first | (with_reducible refine Go1.go ?_) | ((with_reducible first | refine brv_mk ?_ ?_ | refine gsplitD ?_ ?_ | refine gsplitG ?_ ?_) <;> intro h <;> (try simp only [Bool.not_eq_true', Bool.not_eq_false'] at h) <;> replace hb0 := h) | (((with_reducible refine isCall (f := 34) ?_); refine callA_nil (by kernel_rfl) ?_; refine (tcheck_ok hu hb n ?_))) | (refine And.intro ?_ ?_; (try simp only [sxO] at *); omega) | fail) <;> (try simp (maxSteps := 1000000) only [hb0, hu.one, hce, d1, hasK_nil, ↓hold_pre, awayP, runOps, regK, step1, newK, genR, appR, obl, buildR, Value.cells, closeK, keepH, outV, retK, ret1, retC, RetV, Option.getD, runD, stepD, afterK, undef, simprocAttr, sxB, ↓sxD, sxE, sxTab]))
    exact hK _ (Mem.le.refl _)
  obtain ⟨hc, h1, h8⟩ := errT_0 he
  obtain ⟨m, rfl⟩ := Int.eq_ofNat_of_zero_le (show 0 ≤ n by omega)
  by_cases h10 : T.length ≤ 10
  case neg =>
    have d1 : decide ((10 : Int) < (T.length : Int)) = true := by rw [decide_eq_true_eq]; omega
    rw [bestQ_many he h10] at hK
    (replace hb0 := true_and True); refine Go1.mk ?_; repeat' ((first | (with_reducible refine Go1.go ?_) | ((with_reducible first | refine brv_mk ?_ ?_ | refine gsplitD ?_ ?_ | refine gsplitG ?_ ?_) <;> intro h <;> (try simp only [Bool.not_eq_true', Bool.not_eq_false'] at h) <;> replace hb0 := h) | (((with_reducible refine isCall (f := 34) ?_); refine callA_nil (by kernel_rfl) ?_; refine (tcheck_ok hu hb _ ?_))) | (refine And.intro ?_ ?_; (try simp only [sxO] at *); omega) | fail) <;> (try simp (maxSteps := 1000000) only [hb0, hu.one, hce, hu.len, hu.sl, he, d1, hasK_nil, ↓hold_pre, awayP, runOps, regK, step1, newK, genR, appR, obl, buildR, Value.cells, closeK, keepH, outV, retK, ret1, retC, RetV, Option.getD, runD, stepD, afterK, undef, simprocAttr, sxB, ↓sxD, sxE, sxTab]))
    exact hK _ (Mem.le.refl _)
  have d1 : decide ((10 : Int) < (T.length : Int)) = false := by rw [decide_eq_false_iff_not]; omega
  rw [bestQ_ok he h10] at hK
  have hm8 : m ≤ 8 := by omega
  have hm1 : 1 ≤ m := by omega
  (replace hb0 := true_and True); refine Go1.mk ?_; repeat' ((first | (with_reducible refine Go1.go ?_) | ((with_reducible first | refine brv_mk ?_ ?_ | refine gsplitD ?_ ?_ | refine gsplitG ?_ ?_) <;> intro h <;> (try simp only [Bool.not_eq_true', Bool.not_eq_false'] at h) <;> replace hb0 := h) | (((with_reducible refine isCall (f := 34) ?_); refine callA_nil (by kernel_rfl) ?_; refine (tcheck_ok hu hb _ ?_))) | ((first | ((with_reducible refine isCall (f := 39) ?_); refine callA_nil (by kernel_rfl) ?_) | ((with_reducible refine isCall0 (f := 39) ?_); refine callA0_nil (by kernel_rfl) ?_)); refine (lon_ok hu hb (fun v Z M1 m1 z1 z2 z3 => Stop.mk ?_))) | ((with_reducible refine isDraw [some 21, some 22, some 23, some 24, some 25, some 8, some 9, some 10, none, none, none] (by decide) ?_); refine draw_rule [(0, []), (2, [0]), (3, [0, 2]), (5, [0, 2, 3]), (6, [0, 2, 3]), (7, [0, 2, 3]), (1, [2, 3]), (4, []), (8, []), (9, []), (10, [])] [[], [0], [], [], [0, 1, 2, 3], [], [], [], [0, 1, 2, 3, 4, 5, 6, 7], [0, 1, 2, 3, 4, 5, 6, 7, 8], [0, 1, 2, 3, 4, 5, 6, 7, 8, 9]] [21, 22, 23, 24, 25, 8, 9, 10] [] (by kernel_rfl) (by kernel_rfl) (by kernel_rfl) (by kernel_rfl) (by exact trivial) ?_) | (refine And.intro ?_ ?_; (try simp only [sxO] at *); omega) | fail) <;> (try simp (maxSteps := 1000000) only [hb0, hu.one, hce, hu.len, hu.sl, he, d1, hasK_nil, mentL_ext, List.nil_append, ↓hold_pre, awayP, runOps, regK, step1, newK, genR, appR, obl, buildR, Value.cells, closeK, keepH, outV, retK, ret1, retC, RetV, Option.getD, runD, stepD, afterK, undef, simprocAttr, sxB, ↓sxD, sxE, sxTab]))
  have m1 : Mem.le M M1 := m1
  have z1 : lonZ T Z := z1
  have z2 : IsL M1 natV v Z := z2
  have hu1 := hu.le m1
  clear z3
  refine Stop.go ?_
  have hplc := plc_bestN hc h10 hm1 z1
  have hZl : Z.length = T.length := by rw [z1.1.length_eq, List.length_range]
  have e8 := (end8_zero hm8).symm
  (replace hb0 := true_and True); refine Go1.mk ?_; repeat' ((first | (with_reducible refine Go1.go ?_) | ((with_reducible first | refine brv_mk ?_ ?_ | refine gsplitD ?_ ?_ | refine gsplitG ?_ ?_) <;> intro h <;> (try simp only [Bool.not_eq_true', Bool.not_eq_false'] at h) <;> replace hb0 := h) | ((first | ((with_reducible refine isCall (f := 40) ?_); refine callA_nil (by kernel_rfl) ?_) | ((with_reducible refine isCall0 (f := 40) ?_); refine callA0_nil (by kernel_rfl) ?_)); refine (bound_ok hu1 hc hm1 hm8 ?_)) | ((with_reducible refine isCall (f := 41) ?_); refine callA ?_) | ((with_reducible refine isCallS (f := 41) ?_); refine (CallS.eqv (H2 := plH u v m (bndT T m) (List.replicate m 0) 10485761) (fun k => ?_) (place_ok hu1 hc hm1 hm8 z2 (lonZ_in z1) hZl Z.length 0 (List.replicate m 0) 10485761 _ (by omega) List.length_replicate (fun x hx => by rw [(List.mem_replicate.1 hx).2]; omega) (Stop.mk ?_)))) | ((with_reducible refine isDraw [some 21, some 22, some 23, some 24, some 25, some 8, some 9, some 10, none, none, none] (by decide) ?_); refine draw_rule [(0, []), (2, [0]), (3, [0, 2]), (5, [0, 2, 3]), (6, [0, 2, 3]), (7, [0, 2, 3]), (1, [2, 3]), (4, []), (8, []), (9, []), (10, [])] [[], [0], [], [], [0, 1, 2, 3], [], [], [], [0, 1, 2, 3, 4, 5, 6, 7], [0, 1, 2, 3, 4, 5, 6, 7, 8], [0, 1, 2, 3, 4, 5, 6, 7, 8, 9]] [21, 22, 23, 24, 25, 8, 9, 10] [] (by kernel_rfl) (by kernel_rfl) (by kernel_rfl) (by kernel_rfl) (by exact trivial) ?_) | (refine And.intro ?_ ?_; (try simp only [sxO] at *); omega) | fail) <;> (try simp (maxSteps := 1000000) only [hb0, hu1.one, z2.one, hce, hasK_nil, mentL_ext, List.nil_append, ↓hold_pre, awayP, runOps, regK, step1, newK, genR, appR, obl, buildR, Value.cells, closeK, keepH, outV, retK, ret1, retC, RetV, Option.getD, runD, stepD, afterK, undef, simprocAttr, sxB, ↓sxD, sxE, sxTab]))
  · unfold plH
    rw [end8_zero hm8]
    simp only [lkH]
    by_cases k7 : 7 = k
    · subst k7; simp
    · simp only [if_neg k7]; rfl
  · rw [hplc]
    refine Stop.go ?_
    (replace hb0 := true_and True); refine Go1.mk ?_; repeat' ((first | (with_reducible refine Go1.go ?_) | ((with_reducible first | refine brv_mk ?_ ?_ | refine gsplitD ?_ ?_ | refine gsplitG ?_ ?_) <;> intro h <;> (try simp only [Bool.not_eq_true', Bool.not_eq_false'] at h) <;> replace hb0 := h) | ((with_reducible refine isDraw [some 21, some 22, some 23, some 24, some 25, some 8, some 9, some 10, none, none, none] (by decide) ?_); refine draw_rule [(0, []), (2, [0]), (3, [0, 2]), (5, [0, 2, 3]), (6, [0, 2, 3]), (7, [0, 2, 3]), (1, [2, 3]), (4, []), (8, []), (9, []), (10, [])] [[], [0], [], [], [0, 1, 2, 3], [], [], [], [0, 1, 2, 3, 4, 5, 6, 7], [0, 1, 2, 3, 4, 5, 6, 7, 8], [0, 1, 2, 3, 4, 5, 6, 7, 8, 9]] [21, 22, 23, 24, 25, 8, 9, 10] [] (by kernel_rfl) (by kernel_rfl) (by kernel_rfl) (by kernel_rfl) (by exact trivial) ?_) | (refine And.intro ?_ ?_; (try simp only [sxO] at *); omega) | fail) <;> (try simp (maxSteps := 1000000) only [hb0, plH, hu1.one, z2.one, end8_ment, hasK_nil, mentL_ext, List.nil_append, ↓hold_pre, awayP, runOps, regK, step1, newK, genR, appR, obl, buildR, Value.cells, closeK, keepH, outV, retK, ret1, retC, RetV, Option.getD, runD, stepD, afterK, undef, simprocAttr, sxB, ↓sxD, sxE, sxTab]))
    exact hK M1 m1
end
end Go.Proofs.Ytgkfmlgfmcpebaa.Sx
namespace Go.Proofs.Ytgkfmlgfmcpebaa.Sx
open Go Go.RowKit
set_option linter.unusedVariables false
set_option linter.unusedSimpArgs false
set_option maxRecDepth 100000
set_option maxHeartbeats 8000000
attribute [local congr] fin_congr finG_congr stepG_congr step1_congr runOps_congr brv_congr obl_congr condK_congr LoopK_congr seqK_congr CutK_congr vc_congr DrawK_congr regK_congr CallK_congr AskK_congr newK_congr retC_congr ret1_congr retK_congr outV_congr closeK_congr genR_congr appR_congr finD_congr finGD_congr stepGD_congr stepD_congr CallK0_congr runD_congr okR_congr CallS_congr vcX_congr
attribute [local congr] Stop_congr
def tkC (L : List TK) : List AV := (L.flatMap TK.c).map .ext
theorem tkC_len (L : List TK) : (tkC L).length = L.length * 4 := by
  unfold tkC
  rw [List.length_map, flat_len (z := 4) (fun _ => rfl)]
theorem tkC_ment (L : List TK) : mentL (tkC L) = [] := mentL_ext _
theorem tkC_kill (k : Nat) (L : List TK) : killL k (tkC L) = tkC L := killL_exts _ _
theorem tkC_app (L : List TK) (x : TK) : tkC L ++ [.ext (.string (bs x.pk)), .ext (.string (bs x.ts)), .ext (.int .i64 x.env), .ext (.int .i64 x.cost)] = tkC (L ++ [x]) := by simp [tkC, TK.c]
def mkX (cs : List Int) (i : Nat) : TK := ⟨[112], [116], ((i % 3 : Nat) : Int), cs.getD i 0⟩
def mkP (cs : List Int) (i : Nat) : List TK := (List.range i).map (mkX cs)
def mkT (cs : List Int) : List TK := mkP cs cs.length
theorem mkP_len (cs : List Int) (i : Nat) : (mkP cs i).length = i := by simp [mkP]
theorem mkP_succ (cs : List Int) (i : Nat) : mkP cs (i + 1) = mkP cs i ++ [mkX cs i] := by simp [mkP, List.range_succ]
section
variable {M : Mem} {K : AV → Hp → Mem → Prop} {w : Value} {cs : List Int}
def tsSt (M : Mem) (w : Value) (cs : List Int) (i : Nat) : St := { env := [(4, .ext (.int .i64 (i : Int))), (3, .slo 221 0 i 4), (0, .ext w)], hp := [(221, 49, tkC (mkP cs i))], M := M, kb := 200, fx := [] }
theorem tasks_ok (hw : IsL M intV64 w cs) (hb : cs.length < 1000000) (hK : K (.slo 221 0 cs.length 4) [(221, 49, tkC (mkT cs))] M) : CallS Try.prog 23 [.ext w] [] M [] K := by
  refine inlS (cs := []) Try.mixed Try.func23 rfl (by kernel_rfl) 200 rfl rfl ?_
  simp only [Try.f23]
  (replace hb0 := true_and True); refine Go1.mk ?_; repeat' ((first | (with_reducible refine Go1.go ?_) | ((with_reducible first | refine brv_mk ?_ ?_ | refine gsplitD ?_ ?_ | refine gsplitG ?_ ?_) <;> intro h <;> (try simp only [Bool.not_eq_true', Bool.not_eq_false'] at h) <;> replace hb0 := h) | (refine And.intro ?_ ?_; (try simp only [sxO] at *); omega) | fail) <;> (try simp (maxSteps := 1000000) only [hb0, hw.one, ↓hold_pre, awayP, runOps, regK, step1, newK, genR, appR, obl, buildR, Value.cells, closeK, keepH, outV, retK, ret1, retC, RetV, Option.getD, runD, stepD, afterK, undef, simprocAttr, sxB, ↓sxD, sxE, sxTab]))
  refine ⟨fun d z => ∃ i, i ≤ cs.length ∧ d = cs.length - i ∧ z = tsSt M w cs i, ⟨cs.length, tsSt M w cs 0, (le_nil 3 221 49 4 rfl (.inl (by simp [awayB, mentE, mentH, mentL, AV.ment, hasK]))).trans (le_sub ⟨rfl, rfl, rfl, trivial⟩ ⟨by simp [lkH, tsSt, tkC, mkP], trivial⟩ rfl rfl rfl (by simp [keepLt, tsSt, lkH])), ⟨0, by omega, by omega, rfl⟩⟩, ?_⟩
  rintro d z ⟨i, hi, rfl, rfl⟩
  by_cases hlt : i < cs.length
  case neg =>
    obtain rfl : i = cs.length := by omega
    have f1 := hw.fin hlt
    (replace hb0 := true_and True); refine Go1.mk ?_; repeat' ((first | (with_reducible refine Go1.go ?_) | ((with_reducible first | refine brv_mk ?_ ?_ | refine gsplitD ?_ ?_ | refine gsplitG ?_ ?_) <;> intro h <;> (try simp only [Bool.not_eq_true', Bool.not_eq_false'] at h) <;> replace hb0 := h) | (refine And.intro ?_ ?_; (try simp only [sxO] at *); omega) | fail) <;> (try simp (maxSteps := 1000000) only [hb0, tsSt, f1, tkC_ment, tkC_kill, hasK_nil, ↓hold_pre, awayP, runOps, regK, step1, newK, genR, appR, obl, buildR, Value.cells, closeK, keepH, outV, retK, ret1, retC, RetV, Option.getD, runD, stepD, afterK, undef, simprocAttr, sxB, ↓sxD, sxE, sxTab]))
    exact hK
  have f1 := hw.idx (P := Try.prog) (T := 3) tk3 tz3 (by omega) hlt
  have hle := tkC_len (mkP cs i)
  rw [mkP_len] at hle
  have hap := tkC_app (mkP cs i) (mkX cs i)
  rw [← mkP_succ] at hap
  have hget : cs[i] = cs.getD i 0 := by rw [List.getD_eq_getElem?_getD, List.getElem?_eq_getElem hlt]; rfl
  rw [hget] at f1
  have hap : tkC (mkP cs i) ++ [.ext (.string (bs [112])), .ext (.string (bs [116])), .ext (.int .i64 ((i % 3 : Nat) : Int)), .ext (.int .i64 (cs.getD i 0))] = tkC (mkP cs (i + 1)) := hap
  have hmod : ((i : Int)).tmod 3 = ((i % 3 : Nat) : Int) := rfl
  (replace hb0 := true_and True); refine Go1.mk ?_; repeat' ((first | (with_reducible refine Go1.go ?_) | ((with_reducible first | refine brv_mk ?_ ?_ | refine gsplitD ?_ ?_ | refine gsplitG ?_ ?_) <;> intro h <;> (try simp only [Bool.not_eq_true', Bool.not_eq_false'] at h) <;> replace hb0 := h) | (refine And.intro ?_ ?_; (try simp only [sxO] at *); omega) | fail) <;> (try simp (maxSteps := 1000000) only [hb0, tsSt, f1, intV64, hmod, hle, hap, tkC_ment, tkC_kill, hasK_nil, bs_mk, bs_app, bs_ext, bs_size, bs_toList, bs_at, bs_cells, List.take_length, imp_ga, guard_pk, guard_pk2, ↓hold_pre, awayP, runOps, regK, step1, newK, genR, appR, obl, buildR, Value.cells, closeK, keepH, outV, retK, ret1, retC, RetV, Option.getD, runD, stepD, afterK, undef, simprocAttr, sxB, ↓sxD, sxE, sxTab]))
  exact ⟨cs.length - (i + 1), tsSt M w cs (i + 1), by omega, le_sub ⟨rfl, rfl, rfl, trivial⟩ ⟨by simp [lkH, tsSt], trivial⟩ rfl rfl rfl (by simp [keepLt, tsSt, lkH]), i + 1, by omega, rfl, rfl⟩
theorem tasksF_ok (hw : IsL M intV64 w cs) (hb : cs.length < 1000000) (hK : ∀ U M', Mem.le M M' → IsR M' 4 TK.c U (mkT cs) → FreshS M U → K (.ext U) [] M') : CallS Try.prog 23 [.ext w] [] M [] K := by
  refine CallS.frzF (tasks_ok hw hb ?_)
  have hl : (mkT cs).length = cs.length := mkP_len cs cs.length
  refine FrzF.one ((mkT cs).flatMap TK.c) rfl (by rw [flat_len (z := 4) (fun _ => rfl), hl]) fun U M' h1 h2 h3 => hK U M' h1 ?_ h3
  unfold IsR
  rw [hl]; exact h2
theorem tasksB_ok {k n : Nat} {Ty : TypeId} (hn : n = cs.length) (hb : cs.length < 1000000) (hK : ∀ U M', Mem.le M M' → IsR M' 4 TK.c U (mkT cs) → K (.ext U) [(k, Ty, cE intV64 cs)] M') : CallS Try.prog 23 [.slo k 0 n 1] [(k, Ty, cE intV64 cs)] M [] K := by
  refine CallS.bor ⟨⟨_, rfl⟩, trivial⟩ fun us M' hM hb' => ?_
  obtain ⟨x, _, rfl, h1, rfl⟩ := hb'
  refine tasksF_ok (h1.isL (L := cs) (T := Ty) (by simp [lkH]) hn) hb fun U M2 a1 a2 a3 => ?_
  exact ⟨fun j hj => rfl, fun M3 h5 h6 _ => hK U M3 h5 (SlM.move a2 a3 h6)⟩
def grI (l : List Int) : Int := l.foldl (fun n x => if n < x then x else n) 0
def grSt (M : Mem) (w : Value) (l : List Int) (i : Nat) : St := { env := [(4, .ext (.int .i64 (i : Int))), (3, .ext (.int .i64 (grI (l.take i)))), (0, .ext w)], hp := [], M := M, kb := 0, fx := [] }
theorem greatest_ok {l : List Int} (hw : IsL M intV64 w l) (hb : l.length < 1000000) (hK : K (.ext (.int .i64 (grI l))) [] M) : CallS Try.prog 25 [.ext w] [] M [] K := by
  refine inlS (cs := []) Try.mixed Try.func25 rfl (by kernel_rfl) 0 rfl rfl ?_
  simp only [Try.f25]
  (replace hb0 := true_and True); refine Go1.mk ?_; repeat' ((first | (with_reducible refine Go1.go ?_) | ((with_reducible first | refine brv_mk ?_ ?_ | refine gsplitD ?_ ?_ | refine gsplitG ?_ ?_) <;> intro h <;> (try simp only [Bool.not_eq_true', Bool.not_eq_false'] at h) <;> replace hb0 := h) | (refine And.intro ?_ ?_; (try simp only [sxO] at *); omega) | fail) <;> (try simp (maxSteps := 1000000) only [hb0, hw.one, ↓hold_pre, awayP, runOps, regK, step1, newK, genR, appR, obl, buildR, Value.cells, closeK, keepH, outV, retK, ret1, retC, RetV, Option.getD, runD, stepD, afterK, undef, simprocAttr, sxB, ↓sxD, sxE, sxTab]))
  refine ⟨fun d z => ∃ i, i ≤ l.length ∧ d = l.length - i ∧ z = grSt M w l i, ⟨l.length, grSt M w l 0, le_sub ⟨rfl, rfl, rfl, trivial⟩ trivial rfl rfl rfl (keepLt0 _), ⟨0, by omega, by omega, rfl⟩⟩, ?_⟩
  rintro d z ⟨i, hi, rfl, rfl⟩
  by_cases hlt : i < l.length
  case neg =>
    obtain rfl : i = l.length := by omega
    have f1 := hw.fin hlt
    have ht : l.take l.length = l := List.take_length
    (replace hb0 := true_and True); refine Go1.mk ?_; repeat' ((first | (with_reducible refine Go1.go ?_) | ((with_reducible first | refine brv_mk ?_ ?_ | refine gsplitD ?_ ?_ | refine gsplitG ?_ ?_) <;> intro h <;> (try simp only [Bool.not_eq_true', Bool.not_eq_false'] at h) <;> replace hb0 := h) | (refine And.intro ?_ ?_; (try simp only [sxO] at *); omega) | fail) <;> (try simp (maxSteps := 1000000) only [hb0, grSt, f1, ht, ↓hold_pre, awayP, runOps, regK, step1, newK, genR, appR, obl, buildR, Value.cells, closeK, keepH, outV, retK, ret1, retC, RetV, Option.getD, runD, stepD, afterK, undef, simprocAttr, sxB, ↓sxD, sxE, sxTab]))
    exact hK
  have f1 := hw.idx (P := Try.prog) (T := 3) tk3 tz3 (by omega) hlt
  have hx : (if grI (l.take i) < l[i] then l[i] else grI (l.take i)) = grI (l.take (i + 1)) := by
    unfold grI
    rw [List.take_add_one, List.getElem?_eq_getElem hlt]
    simp only [Option.toList_some, List.foldl_append, List.foldl_cons, List.foldl_nil]
  (replace hb0 := true_and True); refine Go1.mk ?_; repeat' ((first | (with_reducible refine Go1.go ?_) | ((with_reducible first | refine brv_mk ?_ ?_ | refine gsplitD ?_ ?_ | refine gsplitG ?_ ?_) <;> intro h <;> (try simp only [Bool.not_eq_true', Bool.not_eq_false'] at h) <;> replace hb0 := h) | (refine And.intro ?_ ?_; (try simp only [sxO] at *); omega) | fail) <;> (try simp (maxSteps := 1000000) only [hb0, grSt, f1, intV64, hx, ↓hold_pre, awayP, runOps, regK, step1, newK, genR, appR, obl, buildR, Value.cells, closeK, keepH, outV, retK, ret1, retC, RetV, Option.getD, runD, stepD, afterK, undef, simprocAttr, sxB, ↓sxD, sxE, sxTab]))
  exact ⟨l.length - (i + 1), grSt M w l (i + 1), by omega, le_sub ⟨rfl, rfl, rfl, trivial⟩ trivial rfl rfl rfl (keepLt0 _), i + 1, by omega, rfl, rfl⟩
end
end Go.Proofs.Ytgkfmlgfmcpebaa.Sx
namespace Go.Proofs.Ytgkfmlgfmcpebaa.Sx
open Go Go.RowKit
set_option linter.unusedVariables false
set_option linter.unusedSimpArgs false
set_option maxRecDepth 100000
set_option maxHeartbeats 8000000
attribute [local congr] fin_congr finG_congr stepG_congr step1_congr runOps_congr brv_congr obl_congr condK_congr LoopK_congr seqK_congr CutK_congr vc_congr DrawK_congr regK_congr CallK_congr AskK_congr newK_congr retC_congr ret1_congr retK_congr outV_congr closeK_congr genR_congr appR_congr finD_congr finGD_congr stepGD_congr stepD_congr CallK0_congr runD_congr okR_congr CallS_congr vcX_congr
attribute [local congr] Stop_congr
def natI (P : List (List Nat)) : List (List Int) := P.map fun l => l.map fun (x : Nat) => (x : Int)
theorem LsP_natI (P : List (List Nat)) : LsP P = LsI (natI P) := by
  unfold LsP LsI natI
  rw [List.map_map]
  refine List.map_congr_left fun l _ => ?_
  simp only [Function.comp, List.map_map]
  rfl
def t5 : List TK := mkT [5, 4, 3, 3, 3]
theorem t5_div : divR t5 2 allY [[0, 3], [1, 2, 4]] 0 := by
  refine .inr ⟨by decide, 2, rfl, some [[0, 3], [1, 2, 4]], ⟨[0, 1, 2, 3, 4], ⟨List.Perm.refl _, ?_⟩, by decide⟩, rfl, rfl⟩
  have h : ([0, 1, 2, 3, 4] : List Nat).Pairwise (fun x y => cosC t5 x y < 0 ∨ (cosC t5 x y = 0 ∧ x < y)) := by decide
  exact h
theorem t5_err : errT t5 2 = 0 := by decide
theorem t5_end : endQ t5 (natI [[0, 3], [1, 2, 4]]) = ([8, 10], 0) := by decide
theorem t5_bnd : bndQ t5 2 = 9 := by decide
theorem t5_best : bestQ t5 2 = (9, 0) := by decide
theorem t5_gr : grI [8, 10] = 10 := by decide
section
variable {M : Mem} {K : AV → Hp → Mem → Prop}
theorem known_ok (hK : ∀ M', Mem.le M M' → K (.ext (.bool true)) [] M') : CallS Try.prog 16 [] [] M [] K := by
  refine inlS (cs := []) Try.mixed Try.func16 rfl (by kernel_rfl) 0 rfl rfl ?_
  simp only [Try.f16]
  have hc5 : [AV.ext (.int .i64 5), .ext (.int .i64 4), .ext (.int .i64 3), .ext (.int .i64 3), .ext (.int .i64 3)] = cE intV64 [5, 4, 3, 3, 3] := rfl
  (replace hb0 := true_and True); refine Go1.mk ?_; repeat' ((first | (with_reducible refine Go1.go ?_) | ((with_reducible first | refine brv_mk ?_ ?_ | refine gsplitD ?_ ?_ | refine gsplitG ?_ ?_) <;> intro h <;> (try simp only [Bool.not_eq_true', Bool.not_eq_false'] at h) <;> replace hb0 := h) | ((with_reducible refine isCall (f := 23) ?_); refine callA ?_) | ((with_reducible refine isCallS (f := 23) ?_); refine (tasksB_ok (cs := [5, 4, 3, 3, 3]) rfl (by decide) (fun u M1 m1 hu => Stop.mk ?_))) | (refine And.intro ?_ ?_; (try simp only [sxO] at *); omega) | fail) <;> (try simp (maxSteps := 1000000) only [hb0, hc5, cE_ment, hasK_nil, ↓hold_pre, awayP, runOps, regK, step1, newK, genR, appR, obl, buildR, Value.cells, closeK, keepH, outV, retK, ret1, retC, RetV, Option.getD, runD, stepD, afterK, undef, simprocAttr, sxB, ↓sxD, sxE, sxTab]))
  have m1 : Mem.le M M1 := m1
  have hu : IsR M1 4 TK.c u t5 := hu
  clear hc5
  refine Stop.go ?_
  have hb : t5.length < 1000000 := by decide
  (replace hb0 := true_and True); refine Go1.mk ?_; repeat' ((first | (with_reducible refine Go1.go ?_) | ((with_reducible first | refine brv_mk ?_ ?_ | refine gsplitD ?_ ?_ | refine gsplitG ?_ ?_) <;> intro h <;> (try simp only [Bool.not_eq_true', Bool.not_eq_false'] at h) <;> replace hb0 := h) | (((with_reducible refine isCall (f := 13) ?_); refine callA_nil (by kernel_rfl) ?_; refine (Divide_ok hu hb 2 (fun M2 U P e m2 d1 hU => Stop.mk ?_)))) | (refine And.intro ?_ ?_; (try simp only [sxO] at *); omega) | fail) <;> (try simp (maxSteps := 1000000) only [hb0, hu.one, cE_ment, hasK_nil, ↓hold_pre, awayP, runOps, regK, step1, newK, genR, appR, obl, buildR, Value.cells, closeK, keepH, outV, retK, ret1, retC, RetV, Option.getD, runD, stepD, afterK, undef, simprocAttr, sxB, ↓sxD, sxE, sxTab]))
  have m2 : Mem.le M1 M2 := m2
  have d1 : divR t5 2 allY P e := d1
  have hU : LLF M1 M2 U (LsP P) := hU
  obtain ⟨rfl, rfl⟩ := divR_one d1 t5_div
  have hL := hU.ll
  rw [LsP_natI] at hL
  have hu2 := hu.le m2
  have ho := hL.sl.2.2
  refine Stop.go ?_
  (replace hb0 := true_and True); refine Go1.mk ?_; repeat' ((first | (with_reducible refine Go1.go ?_) | ((with_reducible first | refine brv_mk ?_ ?_ | refine gsplitD ?_ ?_ | refine gsplitG ?_ ?_) <;> intro h <;> (try simp only [Bool.not_eq_true', Bool.not_eq_false'] at h) <;> replace hb0 := h) | (((with_reducible refine isCall (f := 18) ?_); refine callA_nil (by kernel_rfl) ?_; refine (Ends_ok hu2 hb hL (by decide) (by decide) (fun V M3 m3 hV _ => Stop.mk ?_)))) | (refine And.intro ?_ ?_; (try simp only [sxO] at *); omega) | fail) <;> (try simp (maxSteps := 1000000) only [hb0, hu2.one, ho, cE_ment, hasK_nil, ↓hold_pre, awayP, runOps, regK, step1, newK, genR, appR, obl, buildR, Value.cells, closeK, keepH, outV, retK, ret1, retC, RetV, Option.getD, runD, stepD, afterK, undef, simprocAttr, sxB, ↓sxD, sxE, sxTab]))
  have m3 : Mem.le M2 M3 := m3
  rw [t5_end] at hV
  have hV : IsL M3 intV64 V [8, 10] := hV
  rw [t5_end]
  have hu3 := hu2.le m3
  have hb9 := t5_bnd
  have he2 := t5_err
  refine Stop.go ?_
  (replace hb0 := true_and True); refine Go1.mk ?_; repeat' ((first | (with_reducible refine Go1.go ?_) | ((with_reducible first | refine brv_mk ?_ ?_ | refine gsplitD ?_ ?_ | refine gsplitG ?_ ?_) <;> intro h <;> (try simp only [Bool.not_eq_true', Bool.not_eq_false'] at h) <;> replace hb0 := h) | (((with_reducible refine isCall (f := 24) ?_); refine callA_nil (by kernel_rfl) ?_; refine (Bound_ok hu3 hb 2 ?_))) | (((with_reducible refine isCall (f := 21) ?_); refine callA_nil (by kernel_rfl) ?_; refine (Best_ok hu3 hb 2 (fun M4 m4 => Stop.mk ?_)))) | (refine And.intro ?_ ?_; (try simp only [sxO] at *); omega) | fail) <;> (try simp (maxSteps := 1000000) only [hb0, hu3.one, hV.one, hb9, he2, cE_ment, hasK_nil, ↓hold_pre, awayP, runOps, regK, step1, newK, genR, appR, obl, buildR, Value.cells, closeK, keepH, outV, retK, ret1, retC, RetV, Option.getD, runD, stepD, afterK, undef, simprocAttr, sxB, ↓sxD, sxE, sxTab]))
  have m4 : Mem.le M3 M4 := m4
  have hV4 := hV.le m4
  rw [t5_best]
  have hk := hK M4 (m1.trans (m2.trans (m3.trans m4)))
  have hgr := t5_gr
  refine Stop.go ?_
  (replace hb0 := true_and True); refine Go1.mk ?_; repeat' ((first | (with_reducible refine Go1.go ?_) | ((with_reducible first | refine brv_mk ?_ ?_ | refine gsplitD ?_ ?_ | refine gsplitG ?_ ?_) <;> intro h <;> (try simp only [Bool.not_eq_true', Bool.not_eq_false'] at h) <;> replace hb0 := h) | (((with_reducible refine isCall (f := 25) ?_); refine callA_nil (by kernel_rfl) ?_; refine (greatest_ok hV4 (by decide) (Stop.mk ?_)))) | (refine And.intro ?_ ?_; (try simp only [sxO] at *); omega) | fail) <;> (try simp (maxSteps := 1000000) only [hb0, hV4.one, hgr, cE_ment, hasK_nil, ↓hold_pre, awayP, runOps, regK, step1, newK, genR, appR, obl, buildR, Value.cells, closeK, keepH, outV, retK, ret1, retC, RetV, Option.getD, runD, stepD, afterK, undef, simprocAttr, sxB, ↓sxD, sxE, sxTab]))
  exact Stop.go hk
end
end Go.Proofs.Ytgkfmlgfmcpebaa.Sx
namespace Go.Proofs.Ytgkfmlgfmcpebaa.Sx
open Go Go.RowKit
set_option linter.unusedVariables false
set_option linter.unusedSimpArgs false
set_option maxRecDepth 100000
set_option maxHeartbeats 8000000
attribute [local congr] fin_congr finG_congr stepG_congr step1_congr runOps_congr brv_congr obl_congr condK_congr LoopK_congr seqK_congr CutK_congr vc_congr DrawK_congr regK_congr CallK_congr AskK_congr newK_congr retC_congr ret1_congr retK_congr outV_congr closeK_congr genR_congr appR_congr finD_congr finGD_congr stepGD_congr stepD_congr CallK0_congr runD_congr okR_congr CallS_congr vcX_congr
attribute [local congr] Stop_congr
theorem tkC_set : ∀ {L : List TK} {i : Nat} (h : i < L.length) (e : Int), (tkC L).set (i * 4 + 2) (.ext (.int .i64 e)) = tkC (L.set i { L[i] with env := e })
  | x :: L, 0, _, e => by simp [tkC, TK.c]
  | x :: L, i + 1, h, e => by
    have ih := tkC_set (L := L) (i := i) (by simpa using h) e
    have e1 : tkC (x :: L) = [.ext (.string (bs x.pk)), .ext (.string (bs x.ts)), .ext (.int .i64 x.env), .ext (.int .i64 x.cost)] ++ tkC L := by simp [tkC, TK.c]
    have e2 : ∀ y, tkC (x :: L.set i y) = [.ext (.string (bs x.pk)), .ext (.string (bs x.ts)), .ext (.int .i64 x.env), .ext (.int .i64 x.cost)] ++ tkC (L.set i y) := fun y => by simp [tkC, TK.c]
    rw [e1, List.set_append_right _ _ (by simp; omega), List.set_cons_succ, e2]
    congr 1
    refine Eq.trans ?_ ih
    congr 1
    simp only [List.length_cons, List.length_nil]; omega
theorem FrzF.keepZ {K : AV → Hp → Mem → Prop} {H H2 : Hp} {M' : Mem} {k n z : Nat} {T : TypeId} (cs : List Value) (h1 : lkH H k = none) (h2 : cs.length = n * z) (h3 : hasK k (mentH H2) = false) (h4 : lkH H2 k = none) (h : ∀ u M'', Mem.le M' M'' → SlM M'' z u n cs → FreshS M' u → K (.ext u) H2 M'') : FrzF K H (.slo k 0 n z) ((k, T, cs.map .ext) :: H2) M' :=
  .inr ⟨none, [], [], k, n, z, T, cs, H2, rfl, rfl, h4, h1, h2, by simpa [mentL] using h3, h⟩
structure okT (x : TK) : Prop where
  pk : x.pk = [112]
  ts : x.ts = [116]
  e0 : 0 ≤ x.env
  e2 : x.env ≤ 2
  c1 : 1 ≤ x.cost
  c2 : x.cost ≤ 100
theorem mkT_ok {cs : List Int} (h : ∀ c ∈ cs, 1 ≤ c ∧ c ≤ 100) : ∀ x ∈ mkT cs, okT x := fun x hx => by
  unfold mkT mkP at hx
  obtain ⟨i, hi, rfl⟩ := List.mem_map.1 hx
  have hi := List.mem_range.1 hi
  have := h (cs.getD i 0) (by rw [List.getD_eq_getElem?_getD, List.getElem?_eq_getElem hi]; exact List.getElem_mem _)
  exact ⟨rfl, rfl, by simp only [mkX]; omega, by simp only [mkX]; omega, this.1, this.2⟩
section
variable {M : Mem} {K : AV → Hp → Mem → Prop}
theorem tasksO_ok {k n : Nat} {cs : List Int} {Ty : TypeId} (hk : k ≠ 221) (hn : n = cs.length) (hb : cs.length < 1000000) (hK : K (.slo 221 0 n 4) [(221, 49, tkC (mkT cs)), (k, Ty, cE intV64 cs)] M) : CallS Try.prog 23 [.slo k 0 n 1] [(k, Ty, cE intV64 cs)] M [] K := by
  subst hn
  refine CallS.bor ⟨⟨_, rfl⟩, trivial⟩ fun us M' hM hb' => ?_
  obtain ⟨x, _, rfl, h1, rfl⟩ := hb'
  refine tasks_ok (h1.isL (L := cs) (T := Ty) (by simp [lkH]) rfl) hb ⟨fun j hj => ?_, fun M3 _ _ h => by rw [h rfl]; exact hK⟩
  simp only [lkH] at hj ⊢
  split at hj
  · rename_i e
    rw [if_neg (by omega)]
  · cases hj
theorem pick3_ok (u : Value) (l : List Int) (p : Nat) (L : List Int) (hL : L.length = 3) (hu : IsL M intV64 u l) (hp : p < 1000000) (hK : ∀ x ∈ L, K (.ext (.int .i64 x)) [(31, 27, [.ext u, .ext (.int .i64 ((p + 1 : Nat) : Int))]), (311, 3, cE intV64 L)] M) :
    CallS Try.prog 26 [.own 31 0, .slo 311 0 3 1] [(311, 3, cE intV64 L), (31, 27, [.ext u, .ext (.int .i64 (p : Int))])] M [] K := by
  refine inlS (cs := []) Try.mixed Try.func26 rfl (by kernel_rfl) 400 rfl rfl ?_
  simp only [Try.f26]
  (replace hb0 := true_and True); refine Go1.mk ?_; repeat' ((first | (with_reducible refine Go1.go ?_) | ((with_reducible first | refine brv_mk ?_ ?_ | refine gsplitD ?_ ?_ | refine gsplitG ?_ ?_) <;> intro h <;> (try simp only [Bool.not_eq_true', Bool.not_eq_false'] at h) <;> replace hb0 := h) | ((with_reducible refine isCall (f := 17) ?_); refine callA ?_) | ((with_reducible refine isCallS (f := 17) ?_); refine (nextI_ok 31 u l p 3 hu (by omega) (by omega) (by omega) (fun x hx0 hx1 => Stop.mk ?_))) | (refine And.intro ?_ ?_; (try simp only [sxO] at *); omega) | fail) <;> (try simp (maxSteps := 1000000) only [hb0, cE_ment, cE_len, cE_kill, hasK_nil, Nat.mul_one, hu.one, ↓hold_pre, awayP, runOps, regK, step1, newK, genR, appR, obl, buildR, Value.cells, closeK, keepH, outV, retK, ret1, retC, RetV, Option.getD, runD, stepD, afterK, undef, simprocAttr, sxB, ↓sxD, sxE, sxTab]))
  obtain ⟨j, rfl⟩ := Int.eq_ofNat_of_zero_le hx0
  have hj : j < L.length := by omega
  have hat := cE_at intV64 hj
  have hm : L[j] ∈ L := List.getElem_mem hj
  have a1 : (0 : Int) ≤ (j : Int) := by omega
  have a2 : (j : Int) < 3 := by omega
  have a3 : (j : Int) < ((3 : Nat) : Int) := by omega
  generalize L[j] = y at *
  refine Stop.go ?_
  (replace hb0 := true_and True); refine Go1.mk ?_; repeat' ((first | (with_reducible refine Go1.go ?_) | ((with_reducible first | refine brv_mk ?_ ?_ | refine gsplitD ?_ ?_ | refine gsplitG ?_ ?_) <;> intro h <;> (try simp only [Bool.not_eq_true', Bool.not_eq_false'] at h) <;> replace hb0 := h) | (refine And.intro ?_ ?_; (try simp only [sxO] at *); omega) | fail) <;> (try simp (maxSteps := 1000000) only [hb0, cE_ment, cE_len, cE_kill, hasK_nil, Nat.mul_one, hu.one, hat, a1, a2, a3, intV64, ↓hold_pre, awayP, runOps, regK, step1, newK, genR, appR, obl, buildR, Value.cells, closeK, keepH, outV, retK, ret1, retC, RetV, Option.getD, runD, stepD, afterK, undef, simprocAttr, sxB, ↓sxD, sxE, sxTab]))
  exact hK _ hm
def drA (M : Mem) (u : Value) (p q : Nat) (top : Int) (cs : List Int) : St := { env := [(7, .ext (.int .i64 (q : Int))), (6, .ext (.int .i64 top)), (5, .slo 327 0 cs.length 1), (0, .own 31 0)], hp := [(327, 3, cE intV64 cs), (31, 27, [.ext u, .ext (.int .i64 (p : Int))])], M := M, kb := 300, fx := [31] }
def drB (M : Mem) (u : Value) (p n : Nat) (L : List TK) (i : Nat) : St := { env := [(9, .ext (.int .i64 (i : Int))), (8, .slo 221 0 n 4), (0, .own 31 0)], hp := [(221, 49, tkC L), (31, 27, [.ext u, .ext (.int .i64 (p : Int))])], M := M, kb := 300, fx := [31] }
theorem drawn_ok (u : Value) (l : List Int) (p : Nat) (most : Nat) (hu : IsL M intV64 u l) (hp : p < 10000) (hmo : most < 1000) (hK : ∀ U L p' M', Mem.le M M' → IsR M' 4 TK.c U L → L.length ≤ most → (∀ x ∈ L, okT x) → p' ≤ p + 3000 → K (.ext U) [(31, 27, [.ext u, .ext (.int .i64 ((p' : Nat) : Int))])] M') :
    CallS Try.prog 11 [.own 31 0, .ext (.int .i64 (most : Int))] [(31, 27, [.ext u, .ext (.int .i64 (p : Int))])] M [] K := by
  refine CallS.frzF ?_
  refine inlS (cs := []) Try.mixed Try.func11 rfl (by kernel_rfl) 300 rfl rfl ?_
  simp only [Try.f11]
  have hc3 : [AV.ext (.int .i64 4), .ext (.int .i64 10), .ext (.int .i64 100)] = cE intV64 [4, 10, 100] := rfl
  have w0 : IntKind.i64.wrap ((most : Int) + 1) = ((most + 1 : Nat) : Int) := succ_i (by omega)
  (replace hb0 := true_and True); refine Go1.mk ?_; repeat' ((first | (with_reducible refine Go1.go ?_) | ((with_reducible first | refine brv_mk ?_ ?_ | refine gsplitD ?_ ?_ | refine gsplitG ?_ ?_) <;> intro h <;> (try simp only [Bool.not_eq_true', Bool.not_eq_false'] at h) <;> replace hb0 := h) | ((with_reducible refine isCall (f := 26) ?_); refine callA ?_) | ((with_reducible refine isCallS (f := 26) ?_); refine (pick3_ok u l p [4, 10, 100] rfl hu (by omega) (fun top htop => Stop.mk ?_))) | (refine And.intro ?_ ?_; (try simp only [sxO] at *); omega) | fail) <;> (try simp (maxSteps := 1000000) only [hb0, hc3, w0, hu.one, cE_ment, cE_kill, hasK_nil, ↓hold_pre, awayP, runOps, regK, step1, newK, genR, appR, obl, buildR, Value.cells, closeK, keepH, outV, retK, ret1, retC, RetV, Option.getD, runD, stepD, afterK, undef, simprocAttr, sxB, ↓sxD, sxE, sxTab]))
  have ht : 4 ≤ top ∧ top ≤ 100 := by
    have htop : top ∈ ([4, 10, 100] : List Int) := htop
    simp only [List.mem_cons, List.not_mem_nil, or_false] at htop
    omega
  refine Stop.go ?_
  (replace hb0 := true_and True); refine Go1.mk ?_; repeat' ((first | (with_reducible refine Go1.go ?_) | ((with_reducible first | refine brv_mk ?_ ?_ | refine gsplitD ?_ ?_ | refine gsplitG ?_ ?_) <;> intro h <;> (try simp only [Bool.not_eq_true', Bool.not_eq_false'] at h) <;> replace hb0 := h) | ((with_reducible refine isCall (f := 17) ?_); refine callA ?_) | ((with_reducible refine isCallS (f := 17) ?_); refine (nextI_ok 31 u l (p + 1) ((most + 1 : Nat) : Int) hu (by omega) (by omega) (by omega) (fun x hx0 hx1 => Stop.mk ?_))) | (refine And.intro ?_ ?_; (try simp only [sxO] at *); omega) | fail) <;> (try simp (maxSteps := 1000000) only [hb0, w0, hu.one, cE_ment, cE_kill, hasK_nil, ↓hold_pre, awayP, runOps, regK, step1, newK, genR, appR, obl, buildR, Value.cells, closeK, keepH, outV, retK, ret1, retC, RetV, Option.getD, runD, stepD, afterK, undef, simprocAttr, sxB, ↓sxD, sxE, sxTab]))
  obtain ⟨q0, rfl⟩ := Int.eq_ofNat_of_zero_le hx0
  refine Stop.go ?_
  clear hc3
  (replace hb0 := true_and True); refine Go1.mk ?_; repeat' ((first | (with_reducible refine Go1.go ?_) | ((with_reducible first | refine brv_mk ?_ ?_ | refine gsplitD ?_ ?_ | refine gsplitG ?_ ?_) <;> intro h <;> (try simp only [Bool.not_eq_true', Bool.not_eq_false'] at h) <;> replace hb0 := h) | (refine And.intro ?_ ?_; (try simp only [sxO] at *); omega) | fail) <;> (try simp (maxSteps := 1000000) only [hb0, hu.one, cE_ment, cE_kill, hasK_nil, ↓hold_pre, awayP, runOps, regK, step1, newK, genR, appR, obl, buildR, Value.cells, closeK, keepH, outV, retK, ret1, retC, RetV, Option.getD, runD, stepD, afterK, undef, simprocAttr, sxB, ↓sxD, sxE, sxTab]))
  refine ⟨fun d z => ∃ q cs p', d = q ∧ cs.length + q ≤ most ∧ p' ≤ p + 2 + cs.length ∧ (∀ c ∈ cs, 1 ≤ c ∧ c ≤ 100) ∧ z = drA M u p' q top cs, ⟨q0, drA M u (p + 1 + 1) q0 top [], (le_nil 5 327 3 1 rfl (.inl (by simp [awayB, mentE, mentH, mentL, AV.ment, hasK, cE_ment]))).trans (le_sub ⟨rfl, rfl, rfl, rfl, trivial⟩ ⟨by simp [lkH, drA, cE], by simp [lkH, drA], trivial⟩ rfl rfl rfl (by simp [keepLt, drA, lkH])), ⟨q0, [], p + 1 + 1, rfl, by simp only [List.length_nil]; omega, by simp only [List.length_nil]; omega, fun c hc => (by cases hc), rfl⟩⟩, ?_⟩
  rintro d z ⟨q, cs, p', rfl, hcl, hp', hcs, rfl⟩
  cases d with
  | zero =>
    have d1 : decide ((0 : Int) < ((0 : Nat) : Int)) = false := by simp
    (replace hb0 := true_and True); refine Go1.mk ?_; repeat' ((first | (with_reducible refine Go1.go ?_) | ((with_reducible first | refine brv_mk ?_ ?_ | refine gsplitD ?_ ?_ | refine gsplitG ?_ ?_) <;> intro h <;> (try simp only [Bool.not_eq_true', Bool.not_eq_false'] at h) <;> replace hb0 := h) | ((with_reducible refine isCall (f := 23) ?_); refine callA ?_) | ((with_reducible refine isCallS (f := 23) ?_); refine (tasksO_ok (by decide) rfl (by omega) (Stop.mk ?_))) | (refine And.intro ?_ ?_; (try simp only [sxO] at *); omega) | fail) <;> (try simp (maxSteps := 1000000) only [hb0, drA, d1, hu.one, cE_ment, cE_kill, hasK_nil, ↓hold_pre, awayP, runOps, regK, step1, newK, genR, appR, obl, buildR, Value.cells, closeK, keepH, outV, retK, ret1, retC, RetV, Option.getD, runD, stepD, afterK, undef, simprocAttr, sxB, ↓sxD, sxE, sxTab]))
    have hlt0 : (mkT cs).length = cs.length := mkP_len cs cs.length
    refine Stop.go ?_
    (replace hb0 := true_and True); refine Go1.mk ?_; repeat' ((first | (with_reducible refine Go1.go ?_) | ((with_reducible first | refine brv_mk ?_ ?_ | refine gsplitD ?_ ?_ | refine gsplitG ?_ ?_) <;> intro h <;> (try simp only [Bool.not_eq_true', Bool.not_eq_false'] at h) <;> replace hb0 := h) | (refine And.intro ?_ ?_; (try simp only [sxO] at *); omega) | fail) <;> (try simp (maxSteps := 1000000) only [hb0, hu.one, cE_ment, cE_kill, tkC_ment, tkC_kill, hasK_nil, ↓hold_pre, awayP, runOps, regK, step1, newK, genR, appR, obl, buildR, Value.cells, closeK, keepH, outV, retK, ret1, retC, RetV, Option.getD, runD, stepD, afterK, undef, simprocAttr, sxB, ↓sxD, sxE, sxTab]))
    refine ⟨fun d z => ∃ i L p2, d = cs.length - i ∧ i ≤ cs.length ∧ L.length = cs.length ∧ p2 ≤ p + 2 + cs.length + i ∧ (∀ x ∈ L, okT x) ∧ z = drB M u p2 cs.length L i, ⟨cs.length, drB M u p' cs.length (mkT cs) 0, le_sub ⟨rfl, rfl, rfl, trivial⟩ ⟨by simp [lkH, drB], by simp [lkH, drB], trivial⟩ rfl rfl rfl (by simp [keepLt, drB, lkH]), ⟨0, mkT cs, p', by omega, by omega, hlt0, by omega, mkT_ok hcs, rfl⟩⟩, ?_⟩
    rintro d z ⟨i, L, p2, rfl, hi, hL, hp2, hok, rfl⟩
    by_cases hlt : i < cs.length
    case neg =>
      obtain rfl : i = cs.length := by omega
      have d2 : decide ((cs.length : Int) < (cs.length : Int)) = false := by simp
      (replace hb0 := true_and True); refine Go1.mk ?_; repeat' ((first | (with_reducible refine Go1.go ?_) | ((with_reducible first | refine brv_mk ?_ ?_ | refine gsplitD ?_ ?_ | refine gsplitG ?_ ?_) <;> intro h <;> (try simp only [Bool.not_eq_true', Bool.not_eq_false'] at h) <;> replace hb0 := h) | (refine And.intro ?_ ?_; (try simp only [sxO] at *); omega) | fail) <;> (try simp (maxSteps := 1000000) only [hb0, drB, d2, hu.one, tkC_ment, tkC_kill, hasK_nil, ↓hold_pre, awayP, runOps, regK, step1, newK, genR, appR, obl, buildR, Value.cells, closeK, keepH, outV, retK, ret1, retC, RetV, Option.getD, runD, stepD, afterK, undef, simprocAttr, sxB, ↓sxD, sxE, sxTab]))
      refine FrzF.keepZ (L.flatMap TK.c) rfl (by rw [flat_len (z := 4) (fun _ => rfl), hL]) (by simp [mentH, mentL, AV.ment, hasK]) rfl fun w M3 h1 h2 h3 => hK w L p2 M3 h1 ?_ (by omega) hok (by omega)
      unfold IsR
      rw [hL]; exact h2
    have d2 : decide ((i : Int) < (cs.length : Int)) = true := by rw [decide_eq_true_eq]; omega
    have b1 : (0 : Int) ≤ (i : Int) := by omega
    have b2 : (i : Int) < (cs.length : Int) := by omega
    have wi : IntKind.i64.wrap ((i : Int) + 1) = ((i + 1 : Nat) : Int) := succ_i (by omega)
    have hle := tkC_len L
    rw [hL] at hle
    (replace hb0 := true_and True); refine Go1.mk ?_; repeat' ((first | (with_reducible refine Go1.go ?_) | ((with_reducible first | refine brv_mk ?_ ?_ | refine gsplitD ?_ ?_ | refine gsplitG ?_ ?_) <;> intro h <;> (try simp only [Bool.not_eq_true', Bool.not_eq_false'] at h) <;> replace hb0 := h) | ((with_reducible refine isCall (f := 17) ?_); refine callA ?_) | ((with_reducible refine isCallS (f := 17) ?_); refine (nextI_ok 31 u l p2 3 hu (by omega) (by omega) (by omega) (fun e he0 he1 => Stop.mk ?_))) | (refine And.intro ?_ ?_; (try simp only [sxO] at *); omega) | fail) <;> (try simp (maxSteps := 1000000) only [hb0, drB, d2, b1, b2, hu.one, tkC_ment, tkC_kill, hasK_nil, ↓hold_pre, awayP, runOps, regK, step1, newK, genR, appR, obl, buildR, Value.cells, closeK, keepH, outV, retK, ret1, retC, RetV, Option.getD, runD, stepD, afterK, undef, simprocAttr, sxB, ↓sxD, sxE, sxTab]))
    have hse := tkC_set (L := L) (i := i) (by omega) e
    have hok2 : ∀ x ∈ L.set i { L[i] with env := e }, okT x := fun x hx => by
      rcases List.mem_or_eq_of_mem_set hx with h | rfl
      · exact hok x h
      · have := hok _ (List.getElem_mem (show i < L.length by omega))
        exact ⟨this.pk, this.ts, he0, by simp only; omega, this.c1, this.c2⟩
    have hin : i * 4 + 2 < cs.length * 4 := by omega
    refine Stop.go ?_
    (replace hb0 := true_and True); refine Go1.mk ?_; repeat' ((first | (with_reducible refine Go1.go ?_) | ((with_reducible first | refine brv_mk ?_ ?_ | refine gsplitD ?_ ?_ | refine gsplitG ?_ ?_) <;> intro h <;> (try simp only [Bool.not_eq_true', Bool.not_eq_false'] at h) <;> replace hb0 := h) | (refine And.intro ?_ ?_; (try simp only [sxO] at *); omega) | fail) <;> (try simp (maxSteps := 1000000) only [hb0, b1, b2, wi, hle, hse, hin, hu.one, tkC_ment, tkC_kill, hasK_nil, Nat.zero_add, ↓hold_pre, awayP, runOps, regK, step1, newK, genR, appR, obl, buildR, Value.cells, closeK, keepH, outV, retK, ret1, retC, RetV, Option.getD, runD, stepD, afterK, undef, simprocAttr, sxB, ↓sxD, sxE, sxTab]))
    exact ⟨cs.length - (i + 1), drB M u (p2 + 1) cs.length _ (i + 1), by omega, le_sub ⟨rfl, rfl, rfl, trivial⟩ ⟨by simp [lkH, drB], by simp [lkH, drB], trivial⟩ rfl rfl rfl (by simp [keepLt, drB, lkH]), i + 1, _, p2 + 1, rfl, by omega, by rw [List.length_set, hL], by omega, hok2, rfl⟩
  | succ q =>
    have d1 : decide ((0 : Int) < ((q + 1 : Nat) : Int)) = true := by rw [decide_eq_true_eq]; omega
    have w1 : IntKind.i64.wrap (((q + 1 : Nat) : Int) - 1) = ((q : Nat) : Int) := by rw [wrap_id (by omega) (by omega)]; omega
    (replace hb0 := true_and True); refine Go1.mk ?_; repeat' ((first | (with_reducible refine Go1.go ?_) | ((with_reducible first | refine brv_mk ?_ ?_ | refine gsplitD ?_ ?_ | refine gsplitG ?_ ?_) <;> intro h <;> (try simp only [Bool.not_eq_true', Bool.not_eq_false'] at h) <;> replace hb0 := h) | ((with_reducible refine isCall (f := 17) ?_); refine callA ?_) | ((with_reducible refine isCallS (f := 17) ?_); refine (nextI_ok 31 u l p' top hu (by omega) (by omega) (by omega) (fun x hx0 hx1 => Stop.mk ?_))) | (refine And.intro ?_ ?_; (try simp only [sxO] at *); omega) | fail) <;> (try simp (maxSteps := 1000000) only [hb0, drA, d1, hu.one, cE_ment, cE_kill, hasK_nil, ↓hold_pre, awayP, runOps, regK, step1, newK, genR, appR, obl, buildR, Value.cells, closeK, keepH, outV, retK, ret1, retC, RetV, Option.getD, runD, stepD, afterK, undef, simprocAttr, sxB, ↓sxD, sxE, sxTab]))
    have w2 : IntKind.i64.wrap (1 + x) = 1 + x := wrap_id (by omega) (by omega)
    have hsn : cE intV64 cs ++ [.ext (.int .i64 (1 + x))] = cE intV64 (cs ++ [1 + x]) := cE_snoc intV64 cs (1 + x)
    have hln : cs.length + 1 = (cs ++ [1 + x]).length := by simp
    refine Stop.go ?_
    (replace hb0 := true_and True); refine Go1.mk ?_; repeat' ((first | (with_reducible refine Go1.go ?_) | ((with_reducible first | refine brv_mk ?_ ?_ | refine gsplitD ?_ ?_ | refine gsplitG ?_ ?_) <;> intro h <;> (try simp only [Bool.not_eq_true', Bool.not_eq_false'] at h) <;> replace hb0 := h) | (refine And.intro ?_ ?_; (try simp only [sxO] at *); omega) | fail) <;> (try simp (maxSteps := 1000000) only [hb0, w1, w2, hsn, hu.one, cE_len, cE_ment, cE_kill, hasK_nil, ↓hold_pre, awayP, runOps, regK, step1, newK, genR, appR, obl, buildR, Value.cells, closeK, keepH, outV, retK, ret1, retC, RetV, Option.getD, runD, stepD, afterK, undef, simprocAttr, sxB, ↓sxD, sxE, sxTab]))
    exact ⟨q, drA M u (p' + 1) q top (cs ++ [1 + x]), by omega, le_sub ⟨rfl, rfl, by rw [← hln]; rfl, rfl, trivial⟩ ⟨by simp [lkH, drA], by simp [lkH, drA], trivial⟩ rfl rfl rfl (by simp [keepLt, drA, lkH]), q, _, p' + 1, rfl, by rw [← hln]; omega, by rw [← hln]; omega, fun c hc => by
      rcases List.mem_append.1 hc with h | h
      · exact hcs c h
      · rw [List.mem_singleton.1 h]; omega, rfl⟩
end
end Go.Proofs.Ytgkfmlgfmcpebaa.Sx
namespace Go.Proofs.Ytgkfmlgfmcpebaa.Sx
open Go Go.RowKit
set_option linter.unusedVariables false
set_option linter.unusedSimpArgs false
set_option maxRecDepth 100000
set_option maxHeartbeats 8000000
attribute [local congr] fin_congr finG_congr stepG_congr step1_congr runOps_congr brv_congr obl_congr condK_congr LoopK_congr seqK_congr CutK_congr vc_congr DrawK_congr regK_congr CallK_congr AskK_congr newK_congr retC_congr ret1_congr retK_congr outV_congr closeK_congr genR_congr appR_congr finD_congr finGD_congr stepGD_congr stepD_congr CallK0_congr runD_congr okR_congr CallS_congr vcX_congr
attribute [local congr] Stop_congr
section
variable {M : Mem} {K : AV → Hp → Mem → Prop}
end
end Go.Proofs.Ytgkfmlgfmcpebaa.Sx
namespace Go.Proofs.Ytgkfmlgfmcpebaa.Sx
open Go
set_option linter.unusedVariables false
structure DivD (L : List TK) (m : Nat) (P : List (List Nat)) (Z E : List Nat) : Prop where
  lon : lonZ L Z
  giv : giveS allY (cosN L) m Z (List.replicate m 0) (List.replicate m []) = some (E, P)
  ok : GivOK (cosN L) m (Z.reverse ++ []) E P
end Go.Proofs.Ytgkfmlgfmcpebaa.Sx
namespace Go.Proofs.Ytgkfmlgfmcpebaa.Sx
open Go
set_option linter.unusedVariables false
end Go.Proofs.Ytgkfmlgfmcpebaa.Sx
namespace Go.Proofs.Ytgkfmlgfmcpebaa.Sx
open Go Go.RowKit
set_option linter.unusedVariables false
set_option linter.unusedSimpArgs false
def frzE (us : Nat → Value) : List Nat → Env → Env
  | [], E => E
  | t :: r, E => (t, .ext (us t)) :: frzE us r E
theorem lk_frzE (us : Nat → Value) (E : Env) : ∀ (ts : List Nat) (t : Nat), lk (frzE us ts E) t = .ext (us t) ∨ lk (frzE us ts E) t = lk E t
  | [], t => .inr rfl
  | q :: r, t => by
    simp only [frzE, lk]
    split
    · rename_i e; subst e; exact .inl rfl
    · exact lk_frzE us E r t
open Classical in
theorem Fz.frz {z : St} {B : St → Prop} (F : Hp) (ts : List Nat) (E : Env) (R : Hp) (hc : closedH F) (hF : ∀ k x, lkH F k = some x → lkH z.hp k = some x ∧ z.kb ≤ k)
    (hE : subE E z.env) (hE2 : ∀ k, (lkH F k).isSome = true → k ∉ mentE E) (hR : subHp R z.hp) (hR2 : ∀ k, (lkH F k).isSome = true → k ∉ mentH R) (hkeep : keepLt z.kb R z.hp) (hfx : ∀ k, k < z.kb → (lkH z.hp k).isSome = true → k ∈ z.fx)
    (h : ∀ M' ρ w us, Mem.le z.M M' → HoldH ρ z.M M' F w → (∀ t, (lk z.env t).is ρ (us t)) → B { env := frzE us ts E, hp := R, M := M', kb := z.kb, fx := z.fx, fr := z.fr }) : Fz z B := fun c n a w hcx ⟨ρ, g⟩ => by
  let D : Nat → Prop := fun b => ∃ k x, (lkH F k).isSome = true ∧ ρ k = some x ∧ x.b = b
  let M' : Mem := fun b => if D b then w.heap[b]? else z.M b
  have hFz : ∀ k, (lkH F k).isSome = true → (lkH z.hp k).isSome = true ∧ z.kb ≤ k := fun k hk => by
    obtain ⟨x, hx⟩ := Option.isSome_iff_exists.1 hk
    obtain ⟨h1, h2⟩ := hF k x hx
    exact ⟨by rw [h1]; rfl, h2⟩
  have hRz : ∀ k x, lkH R k = some x → lkH z.hp k = some x := subHp_lk hR
  have hRF : ∀ k x, lkH R k = some x → lkH F k = none := fun k x hx => by
    cases e : lkH F k with
    | none => rfl
    | some y => exact absurd (mentH_lk (T := x.1) (cs := x.2) hx (.inl rfl)) (hR2 k (by rw [e]; rfl))
  have hMD : ∀ b, D b → z.M b = none := fun b ⟨k, x, hk, hx, e⟩ => by
    obtain ⟨y, hy⟩ := Option.isSome_iff_exists.1 hk
    rw [← e]; exact (g.hp k y.1 y.2 x (hF k y hy).1 hx).2.2
  have hle : Mem.le z.M M' := fun b o hb => by
    by_cases hD : D b
    · rw [hMD b hD] at hb; cases hb
    · simp only [M', if_neg hD]; exact hb
  have hhold : HoldH ρ z.M M' F w := fun k T cs b hk hb => by
    obtain ⟨⟨arr, h1⟩, _, h2⟩ := g.hp k T cs b (hF k _ hk).1 hb
    have hD : D b.b := ⟨k, b, by rw [hk]; rfl, hb, rfl⟩
    exact ⟨⟨arr, by simp only [M', if_pos hD]; exact h1.there, h1⟩, h2⟩
  refine ⟨_, ⟨ρ, ?_⟩, h M' ρ w (fun t => a.tmps.getD t undef) hle hhold g.env⟩
  refine { df := g.df, sz := g.sz, env := fun t => ?_, hp := fun j T' cs b hj hb => ?_, no := fun j T' cs hj hb => g.no j T' cs (hRz j _ hj) hb, inj := fun j j' b b' hj hj' hb hb' e => ?_, os := g.os, tape := g.tape, output := g.output, size := g.size, block := g.block, sub := fun b o hb => ?_, le := g.le.trans hle, mf := fun b hb => ?_, fix := fun j hj => keepLt_ok hkeep j (g.kl j hj) (g.fix j hj), fx := g.fx, kl := g.kl, fr := g.fr }
  · show (lk (frzE _ ts E) t).is ρ _
    rcases lk_frzE (fun t => a.tmps.getD t undef) E ts t with e | e
    · rw [e]; rfl
    · rw [e]
      rcases subE_lk hE t with e2 | e2
      · rw [e2]; trivial
      · rw [e2]; exact g.env t
  · obtain ⟨f1, f2, f3⟩ := g.hp j T' cs b (hRz j _ hj) hb
    refine ⟨f1, f2, ?_⟩
    have hnD : ¬ D b.b := fun ⟨k, x, hk, hx, e⟩ => by
      have := g.inj k j x b (hFz k hk).1 (by rw [hRz j _ hj]; rfl) hx hb e
      subst this
      rw [hRF k _ hj] at hk; cases hk
    show M' b.b = none
    simp only [M', if_neg hnD]; exact f3
  · obtain ⟨x, hx⟩ := Option.isSome_iff_exists.1 hj
    obtain ⟨x', hx'⟩ := Option.isSome_iff_exists.1 hj'
    exact g.inj j j' b b' (by rw [hRz j x hx]; rfl) (by rw [hRz j' x' hx']; rfl) hb hb' e
  · have hb : M' b = some o := hb
    by_cases hD : D b
    · simp only [M', if_pos hD] at hb; exact hb
    · simp only [M', if_neg hD] at hb; exact g.sub b o hb
  · have hb : M' b ≠ none := hb
    by_cases hD : D b
    · obtain ⟨k, x, hk, hx, e⟩ := hD
      obtain ⟨y, hy⟩ := Option.isSome_iff_exists.1 hk
      rcases (g.hp k y.1 y.2 x (hF k y hy).1 hx).2.1 with h5 | h5
      · rw [← e]; exact .inr h5
      · exfalso
        obtain ⟨k', y', h6, h7, h8⟩ := hcx.x _ h5
        have h9 := g.fix k' h6
        have h10 := g.kl k' h6
        have h11 := g.fx k' (hfx k' h10 h9)
        rw [h7] at h11
        have := g.inj k' k y' x h9 (hFz k hk).1 h11 hx h8
        have := (hFz k hk).2
        omega
    · simp only [M', if_neg hD] at hb; exact g.mf b hb
end Go.Proofs.Ytgkfmlgfmcpebaa.Sx
namespace Go.Proofs.Ytgkfmlgfmcpebaa.Sx
open Go Go.RowKit
set_option linter.unusedVariables false
set_option linter.unusedSimpArgs false
section
variable {b : Nat} {T T0 : TypeId} {Ls : List (List Value)} {k i n O : Nat}
theorem lk_famI {x : TypeId × List AV} (hO : O < b) (hi : i < Ls.length) : lkH ((O, x) :: famH b T Ls []) (i + b) = some (T, Ls[i].map .ext) := by
  simp only [lkH]
  rw [if_neg (by omega)]
  exact lkH_famI hi
theorem lk_famC {x : TypeId × List AV} (hOb : O < b) : ∀ k y, lkH ((O, x) :: famH b T Ls []) k = some y → (k = O ∧ y = x) ∨ ∃ i, ∃ hi : i < Ls.length, k = i + b ∧ y = (T, Ls[i].map .ext) := fun k y h => by
  simp only [lkH] at h
  split at h
  · rename_i e; cases h; exact .inl ⟨e.symm, rfl⟩
  · right
    unfold famH at h
    rw [List.append_nil, lkH_famB] at h
    split at h
    · rename_i hb
      cases hq : Ls[k - b]? with
      | none => rw [hq] at h; cases h
      | some l =>
        rw [hq] at h
        obtain ⟨h1, h2⟩ := List.getElem?_eq_some_iff.1 hq
        simp only [Option.map_some, Option.some.injEq] at h
        exact ⟨k - b, h1, by omega, h2 ▸ h.symm⟩
    · cases h
theorem Fz.fam {z : St} {B : St → Prop} (t m : Nat) (E : Env) (R : Hp) (hm : m = Ls.length) (ht : lk z.env t = .slo O 0 m 1) (hO : lkH z.hp O = some (T0, famC b Ls)) (hF : ∀ i (hi : i < Ls.length), lkH z.hp (i + b) = some (T, Ls[i].map .ext)) (hOb : O < b) (hkO : z.kb ≤ O)
    (hE : subE E z.env) (hE1 : hasK O (mentE E) = false) (hE2 : ltB b (mentE E) = true) (hR : subHp R z.hp) (hR1 : hasK O (mentH R) = false) (hR2 : ltB b (mentH R) = true) (hkeep : keepLt z.kb R z.hp) (hfx : ∀ k, k < z.kb → (lkH z.hp k).isSome = true → k ∈ z.fx)
    (h : ∀ M' U, Mem.le z.M M' → LLF z.M M' U Ls → B { env := (t, .ext U) :: E, hp := R, M := M', kb := z.kb, fx := z.fx, fr := z.fr }) : Fz z B := by
  have hk : ∀ k, (lkH ((O, T0, famC b Ls) :: famH b T Ls []) k).isSome = true → k = O ∨ b ≤ k := fun k hk => by
    obtain ⟨y, hy⟩ := Option.isSome_iff_exists.1 hk
    rcases lk_famC hOb k y hy with ⟨rfl, _⟩ | ⟨i, hi, rfl, _⟩
    · exact .inl rfl
    · exact .inr (by omega)
  refine Fz.frz ((O, T0, famC b Ls) :: famH b T Ls []) [t] E R (closed_fam hOb) (fun k x hx => ?_) hE (fun k h1 h2 => ?_) hR (fun k h1 h2 => ?_) hkeep hfx (fun M' ρ w us hM hh hu => ?_)
  · rcases lk_famC hOb k x hx with ⟨rfl, rfl⟩ | ⟨i, hi, rfl, rfl⟩
    · exact ⟨hO, hkO⟩
    · exact ⟨hF i hi, by omega⟩
  · rcases hk k h1 with rfl | h3
    · exact hasK_no.1 hE1 h2
    · exact ltB_no hE2 h3 h2
  · rcases hk k h1 with rfl | h3
    · exact hasK_no.1 hR1 h2
    · exact ltB_no hR2 h3 h2
  · have h1 := hu t
    rw [ht] at h1
    have h2 := borO_is hh (closed_fam hOb) _ _ (fun j hj => by
      have : j = O := by simpa [AV.ment] using hj
      subst this
      simp [lkH]) h1
    exact h M' (us t) hM (h2.fam (b := b) (T0 := T0) (T := T) (by simp [lkH]) hm fun i hi => lk_famI hOb hi)
end
end Go.Proofs.Ytgkfmlgfmcpebaa.Sx
namespace Go.Proofs.Ytgkfmlgfmcpebaa.Sx
open Go Go.RowKit
set_option linter.unusedVariables false
set_option linter.unusedSimpArgs false
set_option maxRecDepth 100000
set_option maxHeartbeats 8000000
attribute [local congr] fin_congr finG_congr stepG_congr step1_congr runOps_congr brv_congr obl_congr condK_congr LoopK_congr seqK_congr CutK_congr vc_congr DrawK_congr regK_congr CallK_congr AskK_congr newK_congr retC_congr ret1_congr retK_congr outV_congr closeK_congr genR_congr appR_congr finD_congr finGD_congr stepGD_congr stepD_congr CallK0_congr runD_congr okR_congr CallS_congr vcX_congr
attribute [local congr] Stop_congr
theorem BorO.gen {M0 M : Mem} {H : Hp} {k off n : Nat} {T0 : TypeId} {u : Value} {C : List AV} {Ls : List (List Value)} (h : BorO M0 M H (.slo k off n 1) u) (hk : lkH H k = some (T0, C)) (hl : off + n ≤ C.length) (hn : n = Ls.length)
    (hc : ∀ i (hi : i < Ls.length) v x, C[off + i]? = some v → BorI M0 M H v x → SlM M 1 x Ls[i].length Ls[i]) : LL M u Ls := by
  subst hn
  obtain ⟨_, h1⟩ := h
  obtain ⟨vs, h2, h3⟩ := h1 T0 C hk (by omega)
  rw [Nat.mul_one] at h3
  obtain ⟨h4, h5⟩ := h3.get
  have hlen : ((C.drop off).take Ls.length).length = Ls.length := by rw [List.length_take, List.length_drop]; omega
  refine ⟨vs, h2, by omega, fun i hi => ?_⟩
  have hi2 : off + i < C.length := by omega
  refine hc i hi C[off + i] _ (List.getElem?_eq_getElem hi2) (h5 i (by omega) _ ?_)
  rw [List.getElem?_take_of_lt hi, List.getElem?_drop, List.getElem?_eq_getElem hi2]
theorem allOne_sl : ∀ {us : List Value}, (∀ u ∈ us, isSl u = true) → allOne (us.map .ext) = True
  | [], _ => rfl
  | u :: us, h => by
    have h1 := allOne_sl (us := us) fun x hx => h x (List.mem_cons_of_mem _ hx)
    have h2 := one_sl (h u List.mem_cons_self)
    simp only [List.map_cons, allOne, oneC, h1, h2]
    simp
theorem allOne_int : ∀ l : List Int, allOne ((l.map intV64).map .ext) = True
  | [] => rfl
  | x :: l => by
    have h1 := allOne_int l
    simp only [List.map_cons, allOne, oneC, h1, intV64, one_int]
    simp
theorem closed_ext {k : Nat} {T : TypeId} (l : List Value) : closedH [(k, T, l.map .ext)] := fun j T' cs q hj hq => by
  simp only [lkH] at hj
  split at hj
  · cases hj; rw [mentL_ext] at hq; cases hq
  · cases hj
section
variable {M : Mem} {K : AV → Hp → Mem → Prop}
def enY (M : Mem) (u U raw : Value) (m p : Nat) (P : List (List Nat)) : St := { env := [(7, .slo 37 0 m 1), (6, .ext U), (5, .own 31 0), (1, .ext raw)], hp := (37, 22, famC 1000 (LsP P)) :: famH 1000 3 (LsP P) [(31, 27, [.ext u, .ext (.int .i64 (p : Int))])], M := M, kb := 8, fx := [] }
def enL (M : Mem) (u U raw : Value) (m i p : Nat) (P : List (List Nat)) : St := { env := [(8, .ext (.int .i64 (i : Int))), (7, .slo 37 0 m 1), (6, .ext U), (5, .own 31 0), (1, .ext raw)], hp := (37, 22, famC 1000 (LsP P)) :: (31, 27, [.ext u, .ext (.int .i64 (p : Int))]) :: famH 1000 3 (LsP P) [], M := M, kb := 8, fx := [] }
def enZ (M : Mem) (U V raw : Value) (o mz : Nat) (H : Hp) : St := { env := [(10, .slo 59 o mz 1), (7, .ext V), (6, .ext U), (1, .ext raw)], hp := H, M := M, kb := 8, fx := [] }
def enI (M : Mem) (U a b c : Value) (i : Nat) : St := { env := [(75, .ext (.int .i64 (i : Int))), (74, .ext (.int .i64 3)), (73, .slo 81 0 3 1), (6, .ext U)], hp := [(81, 29, [.ext a, .ext b, .ext c])], M := M, kb := 8, fx := [] }
theorem ends30_ok (u raw : Value) (l : List Int) (Rw : List (List Int)) (hu : IsL M intV64 u l) (hR : LL M raw (LsI Rw)) (hRl : ∀ w ∈ Rw, w.length ≤ 9223372036854775807) (hK : ∀ M', Mem.le M M' → K (.ext (.bool true)) [] M') : CallS Try.prog 4 [.ext u, .ext raw] [] M [] K := by
  refine inlS (cs := [11, 17]) Try.mixed Try.func4 rfl (by kernel_rfl) 8 rfl rfl ?_
  simp only [Try.f4]
  obtain ⟨r1, r2, r3⟩ := hR.sl
  rw [LsI_len] at r2
  by_cases h40 : Rw.length ≤ 40
  case neg =>
    have d1 : decide ((40 : Int) < (Rw.length : Int)) = true := by rw [decide_eq_true_eq]; omega
    (try with_reducible refine Fz.of ?_); (replace hb0 := true_and True); refine Go1.mk ?_; repeat' ((first | (with_reducible refine Go1.go ?_) | ((with_reducible first | refine brv_mk ?_ ?_ | refine gsplitD ?_ ?_ | refine gsplitG ?_ ?_) <;> intro h <;> (try simp only [Bool.not_eq_true', Bool.not_eq_false'] at h) <;> replace hb0 := h) | (((with_reducible refine isCall (f := 16) ?_); refine callA_nil (by kernel_rfl) ?_; refine (known_ok (fun M1 m1 => Stop.mk ?_)))) | (refine And.intro ?_ ?_; (try simp only [sxO] at *); omega) | fail) <;> (try simp (maxSteps := 1000000) only [hb0, hu.one, r1, r2, r3, d1, hasK_nil, ↓hold_pre, awayP, runOps, regK, step1, newK, genR, appR, obl, buildR, Value.cells, closeK, keepH, outV, retK, ret1, retC, RetV, Option.getD, runD, stepD, afterK, undef, simprocAttr, sxB, ↓sxD, sxE, sxTab]))
    have hk := hK M1 m1
    refine Stop.go ?_
    (try with_reducible refine Fz.of ?_); (replace hb0 := true_and True); refine Go1.mk ?_; repeat' ((first | (with_reducible refine Go1.go ?_) | ((with_reducible first | refine brv_mk ?_ ?_ | refine gsplitD ?_ ?_ | refine gsplitG ?_ ?_) <;> intro h <;> (try simp only [Bool.not_eq_true', Bool.not_eq_false'] at h) <;> replace hb0 := h) | (refine And.intro ?_ ?_; (try simp only [sxO] at *); omega) | fail) <;> (try simp (maxSteps := 1000000) only [hb0, hasK_nil, ↓hold_pre, awayP, runOps, regK, step1, newK, genR, appR, obl, buildR, Value.cells, closeK, keepH, outV, retK, ret1, retC, RetV, Option.getD, runD, stepD, afterK, undef, simprocAttr, sxB, ↓sxD, sxE, sxTab]))
    exact hk
  have d1 : decide ((40 : Int) < (Rw.length : Int)) = false := by rw [decide_eq_false_iff_not]; omega
  (try with_reducible refine Fz.of ?_); (replace hb0 := true_and True); refine Go1.mk ?_; repeat' ((first | (with_reducible refine Go1.go ?_) | ((with_reducible first | refine brv_mk ?_ ?_ | refine gsplitD ?_ ?_ | refine gsplitG ?_ ?_) <;> intro h <;> (try simp only [Bool.not_eq_true', Bool.not_eq_false'] at h) <;> replace hb0 := h) | ((with_reducible refine isCall (f := 11) ?_); refine callA ?_) | ((with_reducible refine isCallS (f := 11) ?_); refine (drawn_ok u l 0 9 hu (by omega) (by omega) (fun U L p' M1 m1 hU hl hok hp => Stop.mk ?_))) | (refine And.intro ?_ ?_; (try simp only [sxO] at *); omega) | fail) <;> (try simp (maxSteps := 1000000) only [hb0, hu.one, r1, r2, r3, d1, hasK_nil, ↓hold_pre, awayP, runOps, regK, step1, newK, genR, appR, obl, buildR, Value.cells, closeK, keepH, outV, retK, ret1, retC, RetV, Option.getD, runD, stepD, afterK, undef, simprocAttr, sxB, ↓sxD, sxE, sxTab]))
  have m1 : Mem.le M M1 := m1
  have hU : IsR M1 4 TK.c U L := hU
  have hu1 := hu.le m1
  have hR1 := hR.le m1
  have hLb : L.length < 1000000 := by omega
  clear d1
  refine Stop.go ?_
  (try with_reducible refine Fz.of ?_); (replace hb0 := true_and True); refine Go1.mk ?_; repeat' ((first | (with_reducible refine Go1.go ?_) | ((with_reducible first | refine brv_mk ?_ ?_ | refine gsplitD ?_ ?_ | refine gsplitG ?_ ?_) <;> intro h <;> (try simp only [Bool.not_eq_true', Bool.not_eq_false'] at h) <;> replace hb0 := h) | ((with_reducible refine isCall (f := 17) ?_); refine callA ?_) | ((with_reducible refine isCallS (f := 17) ?_); refine (nextI_ok 31 u l p' 4 hu1 (by omega) (by omega) (by omega) (fun x hx0 hx1 => Stop.mk ?_))) | (refine And.intro ?_ ?_; (try simp only [sxO] at *); omega) | fail) <;> (try simp (maxSteps := 1000000) only [hb0, hU.one, hu1.one, hasK_nil, ↓hold_pre, awayP, runOps, regK, step1, newK, genR, appR, obl, buildR, Value.cells, closeK, keepH, outV, retK, ret1, retC, RetV, Option.getD, runD, stepD, afterK, undef, simprocAttr, sxB, ↓sxD, sxE, sxTab]))
  obtain ⟨m, hm, hm1, hm4⟩ : ∃ m : Nat, IntKind.i64.wrap (1 + x) = (m : Int) ∧ 1 ≤ m ∧ m ≤ 4 := ⟨(1 + x).toNat, by rw [wrap_id (by omega) (by omega)]; omega, by omega, by omega⟩
  rw [hm]
  have t1 := Int.toNat_natCast m
  have t2 := repN_nil m
  refine Stop.go ?_
  (try with_reducible refine Fz.of ?_); (replace hb0 := true_and True); refine Go1.mk ?_; repeat' ((first | (with_reducible refine Go1.go ?_) | ((with_reducible first | refine brv_mk ?_ ?_ | refine gsplitD ?_ ?_ | refine gsplitG ?_ ?_) <;> intro h <;> (try simp only [Bool.not_eq_true', Bool.not_eq_false'] at h) <;> replace hb0 := h) | (refine And.intro ?_ ?_; (try simp only [sxO] at *); omega) | fail) <;> (try simp (maxSteps := 1000000) only [hb0, hU.one, t1, t2, mentL_rep, hasK_nil, ↓hold_pre, awayP, runOps, regK, step1, newK, genR, appR, obl, buildR, Value.cells, closeK, keepH, outV, retK, ret1, retC, RetV, Option.getD, runD, stepD, afterK, undef, simprocAttr, sxB, ↓sxD, sxE, sxTab]))
  clear t1 t2
  refine ⟨fun z => ∃ p P, p ≤ p' + 20 ∧ P.length = m ∧ (∀ q ∈ P, q.length ≤ 9) ∧ z = enY M1 u U raw m p P, ?_, ?_⟩
  case refine_1 =>
    (try with_reducible refine Fz.of ?_); (replace hb0 := true_and True); refine Go1.mk ?_; repeat' ((first | (with_reducible refine Go1.go ?_) | ((with_reducible first | refine brv_mk ?_ ?_ | refine gsplitD ?_ ?_ | refine gsplitG ?_ ?_) <;> intro h <;> (try simp only [Bool.not_eq_true', Bool.not_eq_false'] at h) <;> replace hb0 := h) | (refine And.intro ?_ ?_; (try simp only [sxO] at *); omega) | fail) <;> (try simp (maxSteps := 1000000) only [hb0, hU.one, mentL_rep, hasK_nil, ↓hold_pre, awayP, runOps, regK, step1, newK, genR, appR, obl, buildR, Value.cells, closeK, keepH, outV, retK, ret1, retC, RetV, Option.getD, runD, stepD, afterK, undef, simprocAttr, sxB, ↓sxD, sxE, sxTab]))
    refine ⟨fun d z => ∃ i P p, d = L.length - i ∧ i ≤ L.length ∧ p ≤ p' + 1 + i ∧ P.length = m ∧ (∀ q ∈ P, q.length ≤ i) ∧ z = enL M1 u U raw m i p P, ⟨L.length, enL M1 u U raw m 0 (p' + 1) (List.replicate m []), (le_fam (O := 37) (b := 1000) (n := m) 3 (T0 := 22) (by simp [lkH]) (by simp [ltB, mentE, AV.ment]) (by simp [ltB, mentH, mentL, AV.ment, mentL_rep]) (by simp [ltB]) (by simp)).trans (le_sub ⟨rfl, rfl, rfl, rfl, rfl, trivial⟩ ⟨by rw [lkH_fam (by omega), LsP_rep]; simp [lkH, upH], by rw [lkH_fam (by omega)]; simp [lkH, upH], by rw [LsP_rep]; exact subHp_fam (fun i hi => lkH_famI hi) trivial⟩ rfl rfl rfl (keepLt_fam (show 8 ≤ 1000 by omega) (by simp [keepLt, upH]))), ⟨0, _, p' + 1, by omega, by omega, by omega, List.length_replicate, fun q hq => by rw [(List.mem_replicate.1 hq).2]; simp, rfl⟩⟩, ?_⟩
    rintro d z ⟨i, P, p, rfl, hi, hp2, hPm, hPl, rfl⟩
    have hLP : (LsP P).length = m := by unfold LsP; rw [List.length_map]; exact hPm
    have fl := famC_len (b := 1000) (Ls := LsP P)
    rw [hLP] at fl
    by_cases hlt : i < L.length
    case neg =>
      obtain rfl : i = L.length := by omega
      have d1 : decide ((L.length : Int) < (L.length : Int)) = false := by simp
      (try with_reducible refine Fz.of ?_); (replace hb0 := true_and True); refine Go1.mk ?_; repeat' ((first | (with_reducible refine Go1.go ?_) | ((with_reducible first | refine brv_mk ?_ ?_ | refine gsplitD ?_ ?_ | refine gsplitG ?_ ?_) <;> intro h <;> (try simp only [Bool.not_eq_true', Bool.not_eq_false'] at h) <;> replace hb0 := h) | (refine And.intro ?_ ?_; (try simp only [sxO] at *); omega) | fail) <;> (try simp (maxSteps := 1000000) only [hb0, enL, d1, hU.len, hU.sl, hasK_nil, ↓hold_pre, awayP, runOps, regK, step1, newK, genR, appR, obl, buildR, Value.cells, closeK, keepH, outV, retK, ret1, retC, RetV, Option.getD, runD, stepD, afterK, undef, simprocAttr, sxB, ↓sxD, sxE, sxTab]))
      exact ⟨enY M1 u U raw m p P, le_sub ⟨rfl, rfl, rfl, rfl, trivial⟩ ⟨by simp [lkH], subHp_fam (fun j hj => by simp only [lkH]; rw [if_neg (by omega), if_neg (by omega)]; exact lkH_famI hj) ⟨by simp [lkH], trivial⟩⟩ rfl rfl rfl ⟨.inl (show 8 ≤ 37 by omega), .inl (show 8 ≤ 31 by omega), keepLt_fam (show 8 ≤ 1000 by omega) trivial⟩, p, P, by omega, hPm, fun q hq => by have := hPl q hq; omega, rfl⟩
    have d1 : decide ((i : Int) < (L.length : Int)) = true := by rw [decide_eq_true_eq]; omega
    have wi : IntKind.i64.wrap ((i : Int) + 1) = ((i + 1 : Nat) : Int) := succ_i (by omega)
    have s1 : subH (famH 1000 3 (LsP P) []) [31] = [] := subH_fam (by simp [ltB])
    have s2 : ∀ cs, dropH [(31, 27, cs)] (famH 1000 3 (LsP P) []) = famH 1000 3 (LsP P) [] := fun cs => dropH_fam (by simp [ltB, keysH])
    (try with_reducible refine Fz.of ?_); (replace hb0 := true_and True); refine Go1.mk ?_; repeat' ((first | (with_reducible refine Go1.go ?_) | ((with_reducible first | refine brv_mk ?_ ?_ | refine gsplitD ?_ ?_ | refine gsplitG ?_ ?_) <;> intro h <;> (try simp only [Bool.not_eq_true', Bool.not_eq_false'] at h) <;> replace hb0 := h) | ((with_reducible refine isCall (f := 17) ?_); refine callA ?_) | ((with_reducible refine isCallS (f := 17) ?_); refine (nextI_ok 31 u l p m hu1 (by omega) (by omega) (by omega) (fun x hx0 hx1 => Stop.mk ?_))) | (refine And.intro ?_ ?_; (try simp only [sxO] at *); omega) | fail) <;> (try simp (maxSteps := 1000000) only [hb0, enL, d1, s1, s2, hU.len, hU.sl, hu1.one, hasK_nil, ↓hold_pre, awayP, runOps, regK, step1, newK, genR, appR, obl, buildR, Value.cells, closeK, keepH, outV, retK, ret1, retC, RetV, Option.getD, runD, stepD, afterK, undef, simprocAttr, sxB, ↓sxD, sxE, sxTab]))
    obtain ⟨k, rfl⟩ := Int.eq_ofNat_of_zero_le hx0
    have hk : k < m := by omega
    have c6 : (0 : Int) ≤ (k : Int) := by omega
    have c7 : (k : Int) < (m : Int) := by omega
    have hkL : k < (LsP P).length := by omega
    have hPm2 : P.getD k [] ∈ P := by rw [List.getD_eq_getElem?_getD, List.getElem?_eq_getElem (by omega)]; exact List.getElem_mem _
    have hPk := hPl _ hPm2
    have hLk := LsP_at hkL
    have fa := famC_at (b := 1000) hkL
    rw [hLk, List.length_map] at fa
    have fk : lkH (famH 1000 3 (LsP P) []) (k + 1000) = some (3, cE natV (P.getD k [])) := by rw [lkH_famI hkL, hLk]; unfold cE; rw [List.map_map]
    have f1 : hasK 55 (mentL (famC 1000 (LsP P))) = false := famC_ment (LsP P) 1000 (by omega)
    have f2 : hasK 55 (mentH (famH 1000 3 (LsP P) [])) = false := by rw [hasK_fam (by omega)]; rfl
    have f3 : killL (k + 1000) (famC 1000 (LsP P)) = (famC 1000 (LsP P)).set k .unk := famC_killI
    have f4 : killH (k + 1000) (famH 1000 3 (LsP P) []) = famX 1000 3 (LsP P) k [] := killH_famI
    have f5 : (famC 1000 (LsP P)).set k (.slo (k + 1000) 0 ((P.getD k []).length + 1) 1) = famC 1000 (LsP (P.set k (P.getD k [] ++ [i]))) := by
      rw [LsP_set, ← famC_set (n := (P.getD k []).length + 1) (by simp)]
    have f6 := fun j (hj : j < (LsP P).length) (hne : j ≠ k) => lkH_famXJ (b := 1000) (T := 3) (r := []) hj hne
    have hfx : ∀ H : Hp, (∀ j, 1000 ≤ j → lkH H j = if j = k + 1000 then some (3, cE natV (P.getD k []) ++ [.ext (.int .i64 (i : Int))]) else lkH (famX 1000 3 (LsP P) k []) j) → subHp (famH 1000 3 (LsP (P.set k (P.getD k [] ++ [i]))) []) H := fun H hH => subHp_fam (fun j hj => by
      have hj2 : j < (LsP P).length := by simpa [LsP] using hj
      have hkP : k < P.length := by omega
      rw [hH _ (by omega), LsP_at hj]
      by_cases e : j = k
      · subst e
        rw [if_pos rfl, getD_set hkP, if_pos rfl, List.map_append, List.map_append]
        unfold cE; rw [List.map_map]; rfl
      · rw [if_neg (by omega), f6 j hj2 e, LsP_at hj2, getD_set hkP, if_neg (fun h => e h.symm)]) trivial
    clear f6 hLk
    have hPset := setP_le hPl hPk (b := k) (i := i)
    generalize hPe : P.getD k [] = pl at *
    refine Stop.go ?_
    (try with_reducible refine Fz.of ?_); (replace hb0 := true_and True); refine Go1.mk ?_; repeat' ((first | (with_reducible refine Go1.go ?_) | ((with_reducible first | refine brv_mk ?_ ?_ | refine gsplitD ?_ ?_ | refine gsplitG ?_ ?_) <;> intro h <;> (try simp only [Bool.not_eq_true', Bool.not_eq_false'] at h) <;> replace hb0 := h) | (refine And.intro ?_ ?_; (try simp only [sxO] at *); omega) | fail) <;> (try simp (maxSteps := 1000000) only [hb0, wi, c6, c7, fl, fa, fk, f1, f2, f3, f4, f5, killL_exts, hasK_app, List.set_set, List.length_set, cE_len, cE_ment, cE_kill, hasK_nil, mentL_ext, List.nil_append, Nat.mul_one, Nat.zero_add, ↓hold_pre, awayP, runOps, regK, step1, newK, genR, appR, obl, buildR, Value.cells, closeK, keepH, outV, retK, ret1, retC, RetV, Option.getD, runD, stepD, afterK, undef, simprocAttr, sxB, ↓sxD, sxE, sxTab]))
    exact ⟨L.length - (i + 1), enL M1 u U raw m (i + 1) (p + 1) (P.set k (pl ++ [i])), by omega, le_sub ⟨rfl, rfl, rfl, rfl, rfl, trivial⟩ ⟨by simp [lkH], by simp [lkH], hfx _ (fun j hj => fam_lk hj (by omega) (by omega) (by omega))⟩ rfl rfl rfl ⟨.inl (show 8 ≤ k + 1000 by omega), .inl (show 8 ≤ 55 by omega), .inl (show 8 ≤ 31 by omega), .inl (show 8 ≤ 37 by omega), keepLt_famX (show 8 ≤ 1000 by omega) trivial⟩, i + 1, _, p + 1, rfl, by omega, by omega, by rw [List.length_set]; exact hPm, hPset, rfl⟩
  rintro z ⟨p, P, hp2, hPm, hPl, rfl⟩
  refine Fz.fam 7 m [(6, .ext U), (5, .own 31 0), (1, .ext raw)] [(31, 27, [.ext u, .ext (.int .i64 (p : Int))])] (Ls := LsP P) (b := 1000) (O := 37) (T0 := 22) (T := 3) (by unfold LsP; rw [List.length_map]; exact hPm.symm) rfl (by simp [enY, lkH]) (fun i hi => by simp only [enY, lkH]; rw [if_neg (by omega)]; exact lkH_famI hi) (by omega) (show 8 ≤ 37 by omega) ⟨rfl, rfl, rfl, trivial⟩ (by simp [mentE, AV.ment, hasK]) (by simp [mentE, AV.ment, ltB]) ⟨by simp only [enY, lkH]; rw [if_neg (by omega), lkH_fam (by omega)]; simp [lkH], trivial⟩ (by simp [mentH, mentL, AV.ment, hasK]) (by simp [mentH, mentL, AV.ment, ltB]) ⟨.inl (show 8 ≤ 37 by omega), keepLt_fam (show 8 ≤ 1000 by omega) ⟨.inl (show 8 ≤ 31 by omega), trivial⟩⟩ (fun k hk h => ?_) (fun M2 V m2 hV => ?_)
  · have hk : k < 8 := hk
    simp only [enY, lkH] at h
    rw [if_neg (by omega), lkH_fam (by omega)] at h
    simp only [lkH] at h
    rw [if_neg (by omega)] at h
    cases h
  have m2 : Mem.le M1 M2 := m2
  have hV : LLF M1 M2 V (LsP P) := hV
  rw [LsP_natI] at hV
  have hQm : (natI P).length = m := by unfold natI; rw [List.length_map]; exact hPm
  have hQl : ∀ w ∈ natI P, w.length ≤ 9 := fun w hw => by
    obtain ⟨x, hx, rfl⟩ := List.mem_map.1 hw
    rw [List.length_map]; exact hPl x hx
  generalize natI P = Q at *
  have hU2 := hU.le m2
  have hu2 := hu1.le m2
  obtain ⟨us, hus, _, _⟩ := hV.all
  have hun : us.length = m := by rw [hus.len, LsI_len, hQm]
  have hat : ∀ i (hi : i < Q.length), ∃ x, us[i]? = some x ∧ SlM M2 1 x Q[i].length (Q[i].map intV64) := fun i hi => by
    have h1 := hus.at_ i (by rw [LsI_len]; exact hi)
    have h2 : (LsI Q)[i]'(by rw [LsI_len]; exact hi) = Q[i].map intV64 := by simp [LsI]
    rw [h2, List.length_map] at h1
    exact ⟨_, List.getElem?_eq_getElem (by omega), h1⟩
  have v1 : isSl V = true := hus.out.sl
  have v2 : slen V = m := by rw [hus.out.len, LsI_len, hQm]
  have v3 : V.oneCell' = true := one_sl v1
  have vr : rowS M2 1 V = some us := hus.out.row
  have va : allOne (us.map .ext) = True := allOne_sl fun u hu => by
    obtain ⟨i, hi, e⟩ := List.getElem_of_mem hu
    obtain ⟨x, h1, h2⟩ := hat i (by omega)
    rw [List.getElem?_eq_getElem hi, e] at h1
    cases h1; exact h2.sl
  (try with_reducible refine Fz.of ?_); (replace hb0 := true_and True); refine Go1.mk ?_; repeat' ((first | (with_reducible refine Go1.go ?_) | ((with_reducible first | refine brv_mk ?_ ?_ | refine gsplitD ?_ ?_ | refine gsplitG ?_ ?_) <;> intro h <;> (try simp only [Bool.not_eq_true', Bool.not_eq_false'] at h) <;> replace hb0 := h) | (refine And.intro ?_ ?_; (try simp only [sxO] at *); omega) | fail) <;> (try simp (maxSteps := 1000000) only [hb0, enY, v1, v2, v3, vr, va, mentL_ext, hasK_nil, List.nil_append, ↓hold_pre, awayP, runOps, regK, step1, newK, genR, appR, obl, buildR, Value.cells, closeK, keepH, outV, retK, ret1, retC, RetV, Option.getD, runD, stepD, afterK, undef, simprocAttr, sxB, ↓sxD, sxE, sxTab]))
  refine ⟨fun z => ∃ (o mz : Nat) (C : List AV) (H : Hp) (Zs : List (List Int)), z = enZ M2 U V raw o mz H ∧ lkH H 59 = some (22, C) ∧ closedH H ∧ (∀ k x, lkH H k = some x → 8 ≤ k) ∧ keepLt 8 [] H ∧ mz = Zs.length ∧ mz ≤ 4 ∧ o + mz ≤ C.length ∧ (∀ w ∈ Zs, w.length ≤ 100) ∧ ∀ i (hi : i < Zs.length), (∃ x, C[o + i]? = some (.ext x) ∧ SlM M2 1 x Zs[i].length (Zs[i].map intV64)) ∨ (∃ k T', C[o + i]? = some (.slo k 0 Zs[i].length 1) ∧ lkH H k = some (T', (Zs[i].map intV64).map .ext)), ?_, ?_⟩
  case refine_1 =>
    (try with_reducible refine Fz.of ?_); (replace hb0 := true_and True); refine Go1.mk ?_; repeat' ((first | (with_reducible refine Go1.go ?_) | ((with_reducible first | refine brv_mk ?_ ?_ | refine gsplitD ?_ ?_ | refine gsplitG ?_ ?_) <;> intro h <;> (try simp only [Bool.not_eq_true', Bool.not_eq_false'] at h) <;> replace hb0 := h) | ((with_reducible refine isCall (f := 17) ?_); refine callA ?_) | ((with_reducible refine isCallS (f := 17) ?_); refine (nextI_ok 31 u l p 3 hu2 (by omega) (by omega) (by omega) (fun x hx0 hx1 => Stop.mk ?_))) | (refine And.intro ?_ ?_; (try simp only [sxO] at *); omega) | fail) <;> (try simp (maxSteps := 1000000) only [hb0, hu2.one, mentL_ext, hasK_nil, ↓hold_pre, awayP, runOps, regK, step1, newK, genR, appR, obl, buildR, Value.cells, closeK, keepH, outV, retK, ret1, retC, RetV, Option.getD, runD, stepD, afterK, undef, simprocAttr, sxB, ↓sxD, sxE, sxTab]))
    have h8 : ∀ k x, lkH [(59, 22, us.map AV.ext)] k = some x → 8 ≤ k := fun k x h => by
      simp only [lkH] at h
      split at h
      · omega
      · cases h
    rcases (show x = 0 ∨ x = 1 ∨ x = 2 by omega) with rfl | rfl | rfl
    · obtain ⟨u0, g1, g2⟩ := hat 0 (by omega)
      have q0m : Q[0]'(by omega) ∈ Q := List.getElem_mem _
      have q0l := hQl _ q0m
      have c0 : (us.map AV.ext)[0]? = some (.ext u0) := by rw [List.getElem?_map, g1]; rfl
      generalize hq0 : Q[0]'(by omega) = q0 at *
      have s1 := g2.sl
      have s2 := g2.len
      have s3 := g2.row
      have s4 := allOne_int q0
      have s5 := one_sl s1
      refine Stop.go ?_
      (try with_reducible refine Fz.of ?_); (replace hb0 := true_and True); refine Go1.mk ?_; repeat' ((first | (with_reducible refine Go1.go ?_) | ((with_reducible first | refine brv_mk ?_ ?_ | refine gsplitD ?_ ?_ | refine gsplitG ?_ ?_) <;> intro h <;> (try simp only [Bool.not_eq_true', Bool.not_eq_false'] at h) <;> replace hb0 := h) | ((with_reducible refine isCall (f := 17) ?_); refine callA ?_) | ((with_reducible refine isCallS (f := 17) ?_); refine (nextI_ok 31 u l (p + 1) 10 hu2 (by omega) (by omega) (by omega) (fun y hy0 hy1 => Stop.mk ?_))) | (refine And.intro ?_ ?_; (try simp only [sxO] at *); omega) | fail) <;> (try simp (maxSteps := 1000000) only [hb0, hu2.one, c0, s1, s2, s3, s4, s5, hun, List.length_map, killL_exts, mentL_ext, hasK_nil, List.nil_append, ↓hold_pre, awayP, runOps, regK, step1, newK, genR, appR, obl, buildR, Value.cells, closeK, keepH, outV, retK, ret1, retC, RetV, Option.getD, runD, stepD, afterK, undef, simprocAttr, sxB, ↓sxD, sxE, sxTab]))
      refine Stop.go ?_
      (try with_reducible refine Fz.of ?_); (replace hb0 := true_and True); refine Go1.mk ?_; repeat' ((first | (with_reducible refine Go1.go ?_) | ((with_reducible first | refine brv_mk ?_ ?_ | refine gsplitD ?_ ?_ | refine gsplitG ?_ ?_) <;> intro h <;> (try simp only [Bool.not_eq_true', Bool.not_eq_false'] at h) <;> replace hb0 := h) | (refine And.intro ?_ ?_; (try simp only [sxO] at *); omega) | fail) <;> (try simp (maxSteps := 1000000) only [hb0, hu2.one, c0, s1, s2, s3, s4, s5, hun, List.length_map, killL_exts, mentL_ext, hasK_nil, List.nil_append, Nat.mul_one, ↓hold_pre, awayP, runOps, regK, step1, newK, genR, appR, obl, buildR, Value.cells, closeK, keepH, outV, retK, ret1, retC, RetV, Option.getD, runD, stepD, afterK, undef, simprocAttr, sxB, ↓sxD, sxE, sxTab]))
      have e1 : (q0.map intV64).map AV.ext ++ [.ext (.int .i64 y)] = ((q0 ++ [y]).map intV64).map .ext := by simp [intV64]
      rw [e1]
      clear e1
      have hc0 : ∀ i, 0 < i → ((us.map AV.ext).set 0 (.slo 68 0 (q0.length + 1) 1))[i]? = (us.map AV.ext)[i]? := fun i hi => by rw [List.getElem?_set, if_neg (by omega)]
      have hc1 : ((us.map AV.ext).set 0 (.slo 68 0 (q0.length + 1) 1))[0]? = some (.slo 68 0 (q0.length + 1) 1) := by rw [List.getElem?_set, if_pos rfl, if_pos (by rw [List.length_map]; omega)]
      have hcm : ∀ j, j ∈ mentL ((us.map AV.ext).set 0 (.slo 68 0 (q0.length + 1) 1)) → j = 68 := fun j hj => by
        obtain ⟨v, hv, hm⟩ := mentL_mem hj
        rcases List.mem_or_eq_of_mem_set hv with h | rfl
        · obtain ⟨w, _, rfl⟩ := List.mem_map.1 h
          simp [AV.ment] at hm
        · simpa [AV.ment] using hm
      have hcn : ((us.map AV.ext).set 0 (.slo 68 0 (q0.length + 1) 1)).length = m := by rw [List.length_set, List.length_map, hun]
      generalize (us.map AV.ext).set 0 (.slo 68 0 (q0.length + 1) 1) = C0 at *
      have hcl : closedH [(59, 22, C0), (68, 3, ((q0 ++ [y]).map intV64).map .ext)] := fun k T' cs j hk hj => by
        simp only [lkH] at hk
        split at hk
        · cases hk
          rw [hcm j hj]; simp [lkH]
        · split at hk
          · cases hk; rw [mentL_ext] at hj; cases hj
          · cases hk
      refine ⟨enZ M2 U V raw 0 m [(59, 22, C0), (68, 3, ((q0 ++ [y]).map intV64).map .ext)], le_sub ⟨rfl, rfl, rfl, rfl, trivial⟩ ⟨by simp [lkH], by simp [lkH], trivial⟩ rfl rfl rfl ⟨.inl (show 8 ≤ 68 by omega), .inl (show 8 ≤ 71 by omega), .inl (show 8 ≤ 31 by omega), .inl (show 8 ≤ 59 by omega), trivial⟩, 0, m, C0, _, Q.set 0 (q0 ++ [y]), rfl, by simp [lkH], hcl, fun k x h => ?_, ⟨.inl (by omega), .inl (by omega), trivial⟩, by rw [List.length_set, hQm], by omega, by omega, fun w hw => ?_, fun i hi => ?_⟩
      · simp only [lkH] at h
        split at h
        · omega
        · split at h
          · omega
          · cases h
      · rcases List.mem_or_eq_of_mem_set hw with h | rfl
        · have := hQl w h; omega
        · rw [List.length_append]; simp only [List.length_cons, List.length_nil]; omega
      · rw [List.length_set] at hi
        by_cases e : i = 0
        · subst e
          have e2 : (Q.set 0 (q0 ++ [y]))[0]'(by rw [List.length_set]; exact hi) = q0 ++ [y] := List.getElem_set_self _
          rw [e2]
          exact .inr ⟨68, 3, by rw [Nat.zero_add, hc1, List.length_append]; rfl, by simp [lkH]⟩
        · have e2 : (Q.set 0 (q0 ++ [y]))[i]'(by rw [List.length_set]; exact hi) = Q[i] := List.getElem_set_ne (fun h => e h.symm) _
          rw [e2]
          obtain ⟨x, h1, h2⟩ := hat i hi
          exact .inl ⟨x, by rw [Nat.zero_add, hc0 i (by omega), List.getElem?_map, h1]; rfl, h2⟩
    · refine Stop.go ?_
      (try with_reducible refine Fz.of ?_); (replace hb0 := true_and True); refine Go1.mk ?_; repeat' ((first | (with_reducible refine Go1.go ?_) | ((with_reducible first | refine brv_mk ?_ ?_ | refine gsplitD ?_ ?_ | refine gsplitG ?_ ?_) <;> intro h <;> (try simp only [Bool.not_eq_true', Bool.not_eq_false'] at h) <;> replace hb0 := h) | (refine And.intro ?_ ?_; (try simp only [sxO] at *); omega) | fail) <;> (try simp (maxSteps := 1000000) only [hb0, hun, List.length_map, mentL_ext, hasK_nil, ↓hold_pre, awayP, runOps, regK, step1, newK, genR, appR, obl, buildR, Value.cells, closeK, keepH, outV, retK, ret1, retC, RetV, Option.getD, runD, stepD, afterK, undef, simprocAttr, sxB, ↓sxD, sxE, sxTab]))
      exact ⟨enZ M2 U V raw 1 (m - 1) [(59, 22, us.map .ext)], le_sub ⟨rfl, rfl, rfl, rfl, trivial⟩ ⟨by simp [lkH], trivial⟩ rfl rfl rfl ⟨.inl (show 8 ≤ 31 by omega), .inl (show 8 ≤ 59 by omega), trivial⟩, 1, m - 1, us.map .ext, _, Q.drop 1, rfl, by simp [lkH], closed_ext us, h8, ⟨.inl (by omega), trivial⟩, by rw [List.length_drop, hQm], by omega, by rw [List.length_map]; omega, fun w hw => by have := hQl w (List.mem_of_mem_drop hw); omega, fun i hi => .inl (by
        rw [List.length_drop] at hi
        obtain ⟨x, h1, h2⟩ := hat (1 + i) (by omega)
        have e2 : (Q.drop 1)[i]'(by rw [List.length_drop]; exact hi) = Q[1 + i] := List.getElem_drop
        rw [e2]
        exact ⟨x, by rw [List.getElem?_map, h1]; rfl, h2⟩)⟩
    · refine Stop.go ?_
      (try with_reducible refine Fz.of ?_); (replace hb0 := true_and True); refine Go1.mk ?_; repeat' ((first | (with_reducible refine Go1.go ?_) | ((with_reducible first | refine brv_mk ?_ ?_ | refine gsplitD ?_ ?_ | refine gsplitG ?_ ?_) <;> intro h <;> (try simp only [Bool.not_eq_true', Bool.not_eq_false'] at h) <;> replace hb0 := h) | (refine And.intro ?_ ?_; (try simp only [sxO] at *); omega) | fail) <;> (try simp (maxSteps := 1000000) only [hb0, hun, List.length_map, mentL_ext, hasK_nil, ↓hold_pre, awayP, runOps, regK, step1, newK, genR, appR, obl, buildR, Value.cells, closeK, keepH, outV, retK, ret1, retC, RetV, Option.getD, runD, stepD, afterK, undef, simprocAttr, sxB, ↓sxD, sxE, sxTab]))
      exact ⟨enZ M2 U V raw 0 m [(59, 22, us.map .ext)], le_sub ⟨rfl, rfl, rfl, rfl, trivial⟩ ⟨by simp [lkH], trivial⟩ rfl rfl rfl ⟨.inl (show 8 ≤ 31 by omega), .inl (show 8 ≤ 59 by omega), trivial⟩, 0, m, us.map .ext, _, Q, rfl, by simp [lkH], closed_ext us, h8, ⟨.inl (by omega), trivial⟩, hQm.symm, by omega, by rw [List.length_map]; omega, fun w hw => by have := hQl w hw; omega, fun i hi => .inl (by
        obtain ⟨x, h1, h2⟩ := hat i hi
        exact ⟨x, by rw [Nat.zero_add, List.getElem?_map, h1]; rfl, h2⟩)⟩
  rintro z ⟨o, mz, C, H, Zs, rfl, hC, hcl, h8, hkp, hmz, hm4', hol, hZl, hZi⟩
  refine Fz.frz H [10] [(7, .ext V), (6, .ext U), (1, .ext raw)] [] hcl (fun k x hx => ⟨hx, h8 k x hx⟩) ⟨rfl, rfl, rfl, trivial⟩ (fun k _ h => by simp [mentE, AV.ment] at h) trivial (fun k _ h => by simp [mentH] at h) hkp (fun k hk h => ?_) (fun M3 ρ w vs m3 hh hv => ?_)
  · obtain ⟨x, hx⟩ := Option.isSome_iff_exists.1 h
    have := h8 k x hx
    have hk : k < 8 := hk
    omega
  have m3 : Mem.le M2 M3 := m3
  have h10 := hv 10
  have h10 : (AV.slo 59 o mz 1).is ρ (vs 10) := h10
  have hB := borO_is hh hcl _ _ (fun j hj => by
    have : j = 59 := by simpa [AV.ment] using hj
    subst this
    rw [hC]; rfl) h10
  have hZ : LL M3 (vs 10) (LsI Zs) := hB.gen hC hol (by rw [LsI_len]; exact hmz) fun i hi v x hvi hx => by
    rw [LsI_len] at hi
    have e2 : (LsI Zs)[i]'(by rw [LsI_len]; exact hi) = Zs[i].map intV64 := by simp [LsI]
    rw [e2, List.length_map]
    rcases hZi i hi with ⟨x0, h1, h2⟩ | ⟨k, T', h1, h2⟩
    · rw [h1] at hvi
      cases hvi
      have hx : x = x0 := hx
      rw [hx]
      exact h2.le m3
    · rw [h1] at hvi
      cases hvi
      obtain ⟨_, h3⟩ := hx
      have := h3 T' _ h2 (by rw [List.length_map]; omega)
      rw [List.drop_zero, List.take_of_length_le (by rw [List.length_map]; omega)] at this
      exact this
  simp only [frzE]
  clear hv h10 hB
  generalize vs 10 = Z at *
  have hU3 := hU2.le m3
  have hV3 := hV.ll.le m3
  have hR3 := (hR1.le m2).le m3
  clear hh hC hcl h8 hkp hol hZi
  obtain ⟨z1, z2, z3⟩ := hZ.sl
  (try with_reducible refine Fz.of ?_); (replace hb0 := true_and True); refine Go1.mk ?_; repeat' ((first | (with_reducible refine Go1.go ?_) | ((with_reducible first | refine brv_mk ?_ ?_ | refine gsplitD ?_ ?_ | refine gsplitG ?_ ?_) <;> intro h <;> (try simp only [Bool.not_eq_true', Bool.not_eq_false'] at h) <;> replace hb0 := h) | (refine And.intro ?_ ?_; (try simp only [sxO] at *); omega) | fail) <;> (try simp (maxSteps := 1000000) only [hb0, enZ, v3, r3, z3, mentL_ext, hasK_nil, ↓hold_pre, awayP, runOps, regK, step1, newK, genR, appR, obl, buildR, Value.cells, closeK, keepH, outV, retK, ret1, retC, RetV, Option.getD, runD, stepD, afterK, undef, simprocAttr, sxB, ↓sxD, sxE, sxTab]))
  refine ⟨fun d z => ∃ i M4, d = 3 - i ∧ i ≤ 3 ∧ Mem.le M3 M4 ∧ z = enI M4 U raw V Z i, ⟨3, enI M3 U raw V Z 0, le_sub ⟨rfl, rfl, rfl, rfl, trivial⟩ ⟨rfl, trivial⟩ rfl rfl rfl ⟨.inl (show 8 ≤ 81 by omega), trivial⟩, ⟨0, M3, by omega, by omega, Mem.le.refl _, rfl⟩⟩, ?_⟩
  rintro d z ⟨i, M4, rfl, hi, m4, rfl⟩
  by_cases hlt : i < 3
  case neg =>
    obtain rfl : i = 3 := by omega
    have d1 : decide (((3 : Nat) : Int) < 3) = false := by simp
    (try with_reducible refine Fz.of ?_); (replace hb0 := true_and True); refine Go1.mk ?_; repeat' ((first | (with_reducible refine Go1.go ?_) | ((with_reducible first | refine brv_mk ?_ ?_ | refine gsplitD ?_ ?_ | refine gsplitG ?_ ?_) <;> intro h <;> (try simp only [Bool.not_eq_true', Bool.not_eq_false'] at h) <;> replace hb0 := h) | (((with_reducible refine isCall (f := 16) ?_); refine callA_nil (by kernel_rfl) ?_; refine (known_ok (fun M5 m5 => Stop.mk ?_)))) | (refine And.intro ?_ ?_; (try simp only [sxO] at *); omega) | fail) <;> (try simp (maxSteps := 1000000) only [hb0, enI, d1, hasK_nil, ↓hold_pre, awayP, runOps, regK, step1, newK, genR, appR, obl, buildR, Value.cells, closeK, keepH, outV, retK, ret1, retC, RetV, Option.getD, runD, stepD, afterK, undef, simprocAttr, sxB, ↓sxD, sxE, sxTab]))
    have hk := hK M5 (m1.trans (m2.trans (m3.trans (m4.trans m5))))
    refine Stop.go ?_
    (try with_reducible refine Fz.of ?_); (replace hb0 := true_and True); refine Go1.mk ?_; repeat' ((first | (with_reducible refine Go1.go ?_) | ((with_reducible first | refine brv_mk ?_ ?_ | refine gsplitD ?_ ?_ | refine gsplitG ?_ ?_) <;> intro h <;> (try simp only [Bool.not_eq_true', Bool.not_eq_false'] at h) <;> replace hb0 := h) | (refine And.intro ?_ ?_; (try simp only [sxO] at *); omega) | fail) <;> (try simp (maxSteps := 1000000) only [hb0, hasK_nil, ↓hold_pre, awayP, runOps, regK, step1, newK, genR, appR, obl, buildR, Value.cells, closeK, keepH, outV, retK, ret1, retC, RetV, Option.getD, runD, stepD, afterK, undef, simprocAttr, sxB, ↓sxD, sxE, sxTab]))
    exact hk
  have d1 : decide ((i : Int) < 3) = true := by rw [decide_eq_true_eq]; omega
  have b1 : (0 : Int) ≤ (i : Int) := by omega
  have b2 : (i : Int) < 3 := by omega
  have wi : IntKind.i64.wrap ((i : Int) + 1) = ((i + 1 : Nat) : Int) := succ_i (by omega)
  obtain ⟨S, Sh, hSi, hS, hSl, hSn⟩ : ∃ S Sh, ([raw, V, Z].map AV.ext)[i]? = some (.ext S) ∧ LL M4 S (LsI Sh) ∧ (∀ w ∈ Sh, w.length ≤ 9223372036854775807) ∧ Sh.length < 1000000 := by
    rcases (show i = 0 ∨ i = 1 ∨ i = 2 by omega) with rfl | rfl | rfl
    · exact ⟨raw, Rw, rfl, hR3.le m4, hRl, by omega⟩
    · exact ⟨V, Q, rfl, hV3.le m4, fun w hw => by have := hQl w hw; omega, by omega⟩
    · exact ⟨Z, Zs, rfl, hZ.le m4, fun w hw => by have := hZl w hw; omega, by omega⟩
  have hSi : ([AV.ext raw, .ext V, .ext Z])[i]? = some (.ext S) := hSi
  have hU4 := hU3.le m4
  have s3 := hS.sl.2.2
  (try with_reducible refine Fz.of ?_); (replace hb0 := true_and True); refine Go1.mk ?_; repeat' ((first | (with_reducible refine Go1.go ?_) | ((with_reducible first | refine brv_mk ?_ ?_ | refine gsplitD ?_ ?_ | refine gsplitG ?_ ?_) <;> intro h <;> (try simp only [Bool.not_eq_true', Bool.not_eq_false'] at h) <;> replace hb0 := h) | (((with_reducible refine isCall (f := 18) ?_); refine callA_nil (by kernel_rfl) ?_; refine (Ends_ok hU4 hLb hS hSl hSn (fun A M5 m5 hA _ => Stop.mk ?_)))) | (refine And.intro ?_ ?_; (try simp only [sxO] at *); omega) | fail) <;> (try simp (maxSteps := 1000000) only [hb0, enI, d1, b1, b2, hSi, hU4.one, s3, v3, r3, z3, mentL_ext, hasK_nil, Nat.mul_one, Nat.zero_add, ↓hold_pre, awayP, runOps, regK, step1, newK, genR, appR, obl, buildR, Value.cells, closeK, keepH, outV, retK, ret1, retC, RetV, Option.getD, runD, stepD, afterK, undef, simprocAttr, sxB, ↓sxD, sxE, sxTab]))
  have m5 : Mem.le M4 M5 := m5
  have hA : IsL M5 intV64 A (endQ L Sh).1 := hA
  have hU5 := hU4.le m5
  have hS5 := hS.le m5
  refine Stop.go ?_
  (try with_reducible refine Fz.of ?_); (replace hb0 := true_and True); refine Go1.mk ?_; repeat' ((first | (with_reducible refine Go1.go ?_) | ((with_reducible first | refine brv_mk ?_ ?_ | refine gsplitD ?_ ?_ | refine gsplitG ?_ ?_) <;> intro h <;> (try simp only [Bool.not_eq_true', Bool.not_eq_false'] at h) <;> replace hb0 := h) | (((with_reducible refine isCall (f := 19) ?_); refine callA_nil (by kernel_rfl) ?_; refine (rEnds_ok hU5 hLb hS5 hSl hSn (fun B M6 m6 hB _ => Stop.mk ?_)))) | (refine And.intro ?_ ?_; (try simp only [sxO] at *); omega) | fail) <;> (try simp (maxSteps := 1000000) only [hb0, hU5.one, s3, hA.one, v3, r3, z3, mentL_ext, hasK_nil, ↓hold_pre, awayP, runOps, regK, step1, newK, genR, appR, obl, buildR, Value.cells, closeK, keepH, outV, retK, ret1, retC, RetV, Option.getD, runD, stepD, afterK, undef, simprocAttr, sxB, ↓sxD, sxE, sxTab]))
  have m6 : Mem.le M5 M6 := m6
  have hB : IsL M6 intV64 B (endQ L Sh).1 := hB
  have hA6 := hA.le m6
  have de : decide ((endQ L Sh).2 = (endQ L Sh).2) = true := by simp
  have de1 : decide ((endQ L Sh).1 = (endQ L Sh).1) = true := by simp
  have hel : (endQ L Sh).1.length < 1000000000 := by
    unfold endQ
    (repeat' split) <;> simp [endsV] <;> omega
  refine Stop.go ?_
  (try with_reducible refine Fz.of ?_); (replace hb0 := true_and True); refine Go1.mk ?_; repeat' ((first | (with_reducible refine Go1.go ?_) | ((with_reducible first | refine brv_mk ?_ ?_ | refine gsplitD ?_ ?_ | refine gsplitG ?_ ?_) <;> intro h <;> (try simp only [Bool.not_eq_true', Bool.not_eq_false'] at h) <;> replace hb0 := h) | (((with_reducible refine isCall (f := 20) ?_); refine callA_nil (by kernel_rfl) ?_; refine (sameInts_ok A B _ _ hA6 hB hel hel ?_))) | (refine And.intro ?_ ?_; (try simp only [sxO] at *); omega) | fail) <;> (try simp (maxSteps := 1000000) only [hb0, hA6.one, hB.one, de, de1, wi, v3, r3, z3, mentL_ext, hasK_nil, ↓hold_pre, awayP, runOps, regK, step1, newK, genR, appR, obl, buildR, Value.cells, closeK, keepH, outV, retK, ret1, retC, RetV, Option.getD, runD, stepD, afterK, undef, simprocAttr, sxB, ↓sxD, sxE, sxTab]))
  exact ⟨3 - (i + 1), enI M6 U raw V Z (i + 1), by omega, le_sub ⟨rfl, rfl, rfl, rfl, trivial⟩ ⟨rfl, trivial⟩ rfl rfl rfl ⟨.inl (show 8 ≤ 81 by omega), trivial⟩, i + 1, M6, rfl, by omega, m4.trans (m5.trans m6), rfl⟩
end
end Go.Proofs.Ytgkfmlgfmcpebaa.Sx
namespace Go.Proofs.Ytgkfmlgfmcpebaa.Sx
set_option linter.unusedVariables false
open Go Go.RowKit Go.ChangeShapes Go.WideShapes Go.ChangeAt
section
variable {H : Type} {enc : TypeId × Value → H} {P : Program} {W : World} {base : Nat} {spare : Nat → Bool} {held : Bool}
theorem cell_row {t e : TypeId} {z fuel : Nat} {v : Value} {x0 : DataW H × List MemPlace} (ht : P.underlying t = some (.slice e)) (hz : P.cellsOf e = z) (hz0 : 0 < z) (hf : DataW.trod enc P W base spare held fuel t [v] = some x0) :
    ∃ n cs, SlM (heapM W) z v n cs ∧ n ≤ maxLen ∧ ∀ i, i < n → ∃ fu x, DataW.trod enc P W base spare held fu e ((cs.drop (i * z)).take z) = some x := by
  rcases Go.Deep.open_slice ht hf with ⟨h0, _⟩ | ⟨a, len, cap, m, n, D, Pl, hcs, hb, hl, hm, hmm, hx, hi⟩
  · obtain rfl : v = .slice none 0 0 := by simpa using h0
    exact ⟨0, [], slM_nil _ _ _, Nat.zero_le _, fun i hi => by omega⟩
  · obtain rfl : v = .slice (some a) len cap := by simpa using hcs
    have hlm : len ≤ m := by rw [hmm]; split <;> omega
    subst hz
    by_cases h0 : len = 0
    · subst h0
      exact ⟨0, [], slM_empty _ _ _ _, Nat.zero_le _, fun i hi => by omega⟩
    have hsp : a.spot = none := by
      · obtain ⟨cs', h1, _⟩ := hi 0 (by omega)
        obtain ⟨_, h3, h4⟩ := World.cells?_some h1
        have h5 := h4 0 (by omega)
        rw [List.getElem?_eq_getElem (by omega)] at h5
        have h6 := (cell_heapM h5).1
        rw [Nat.zero_mul] at h6
        simpa [Addr.add] using h6
    have key : ∀ i, i < len → ∃ cs', cs'.length = P.cellsOf e ∧ (∀ j, j < P.cellsOf e → cellM (heapM W) a.block (a.off + i * P.cellsOf e + j) = cs'[j]?) ∧ ∃ fu x, DataW.trod enc P W base spare held fu e cs' = some x := by
      intro i hil
      obtain ⟨cs', h1, h2⟩ := hi i (by omega)
      obtain ⟨_, h3, h4⟩ := World.cells?_some h1
      refine ⟨cs', h3, fun j hj => ?_, _, _, h2⟩
      have h5 := h4 j hj
      rw [List.getElem?_eq_getElem (by omega)] at h5 ⊢
      have h6 := (cell_heapM h5).2
      have hb1 : ∀ (x : Addr) n, (x.add n).block = x.block := fun x n => by unfold Addr.add; split <;> rfl
      have hb2 : ∀ (x : Addr) n, (x.add n).off = x.off + n := fun x n => by unfold Addr.add; split <;> simp_all
      rw [hb1, hb1, hb2, hb2] at h6
      exact h6
    let F : Nat → List Value := fun i => if h : i < len then (key i h).choose else []
    have hF : ∀ i (h : i < len), (F i).length = P.cellsOf e ∧ (∀ j, j < P.cellsOf e → cellM (heapM W) a.block (a.off + i * P.cellsOf e + j) = (F i)[j]?) ∧ ∃ fu x, DataW.trod enc P W base spare held fu e (F i) = some x := by
      intro i h
      have := (key i h).choose_spec
      show (dite _ _ _ : List Value).length = _ ∧ _
      simp only [F, h, dite_true]
      exact this
    have hlen : ∀ k, k ≤ len → ((List.range k).flatMap F).length = k * P.cellsOf e ∧ (∀ j, j < k * P.cellsOf e → cellM (heapM W) a.block (a.off + j) = ((List.range k).flatMap F)[j]?) ∧ ∀ i, i < k → (((List.range k).flatMap F).drop (i * P.cellsOf e)).take (P.cellsOf e) = F i := by
      intro k
      induction k with
      | zero => intro _; simp
      | succ k ih =>
        intro hk
        obtain ⟨a1, a2, a3⟩ := ih (by omega)
        obtain ⟨b1, b2, _⟩ := hF k (by omega)
        rw [List.range_succ, List.flatMap_append]
        simp only [List.flatMap_cons, List.flatMap_nil, List.append_nil]
        refine ⟨by rw [List.length_append, a1, b1, Nat.succ_mul], fun j hj => ?_, fun i hi => ?_⟩
        · by_cases hjk : j < k * P.cellsOf e
          · rw [List.getElem?_append_left (by omega)]
            exact a2 j hjk
          · rw [List.getElem?_append_right (by omega), a1]
            have := b2 (j - k * P.cellsOf e) (by rw [Nat.succ_mul] at hj; omega)
            rw [← this]
            congr 1
            omega
        · by_cases hik : i < k
          · rw [← a3 i hik]
            have h1 : i * P.cellsOf e + P.cellsOf e ≤ k * P.cellsOf e := by
              have := Nat.mul_le_mul_right (P.cellsOf e) (show i + 1 ≤ k by omega)
              rw [Nat.succ_mul] at this
              exact this
            rw [List.drop_append_of_le_length (by omega), List.take_append_of_le_length (by rw [List.length_drop]; omega)]
          · obtain rfl : i = k := by omega
            rw [List.drop_append_of_le_length (by omega), List.drop_eq_nil_of_le (by omega)]
            simp only [List.nil_append]
            exact List.take_of_length_le (by omega)
    obtain ⟨c1, c2, c3⟩ := hlen len (Nat.le_refl _)
    refine ⟨len, (List.range len).flatMap F, ⟨rfl, rfl, hl, c1, ?_⟩, by omega, fun i hi => ?_⟩
    · obtain ⟨b, off, sp⟩ := a
      obtain rfl : sp = none := hsp
      refine rowM_of c1 fun i v hv => ?_
      have hlt : i < ((List.range len).flatMap F).length := (List.getElem?_eq_some_iff.1 hv).1
      rw [← hv]
      exact c2 i (by omega)
    · rw [c3 i hi]
      exact (hF i hi).2.2
theorem cell_ints {t e : TypeId} {fuel : Nat} {v : Value} {x0 : DataW H × List MemPlace} (ht : P.underlying t = some (.slice e)) (he : P.underlying e = some (.int .i64)) (hz : P.cellsOf e = 1) (hf : DataW.trod enc P W base spare held fuel t [v] = some x0) :
    ∃ l : List Int, IsL (heapM W) intV64 v l ∧ l.length ≤ maxLen := by
  obtain ⟨n, cs, h1, h2, h3⟩ := cell_row ht hz (by omega) hf
  have hl : cs.length = n := by have := h1.size; omega
  have key : ∀ i, i < cs.length → ∃ y : Int, cs[i]? = some (intV64 y) := by
    intro i hi
    obtain ⟨fu, x, hx⟩ := h3 i (by omega)
    rw [Nat.mul_one, List.drop_eq_getElem_cons hi] at hx
    have hx : DataW.trod enc P W base spare held fu e [cs[i]] = some x := hx
    obtain ⟨y, h4, _, _⟩ := DataW.trod_int he hx
    exact ⟨y, by rw [List.getElem?_eq_getElem hi]; simpa [intV64] using h4⟩
  have all : ∀ cs : List Value, (∀ i, i < cs.length → ∃ y : Int, cs[i]? = some (intV64 y)) → ∃ l : List Int, cs = l.map intV64 := by
    intro cs
    induction cs with
    | nil => intro _; exact ⟨[], rfl⟩
    | cons c cs ih =>
      intro hh
      obtain ⟨y, hy⟩ := hh 0 (by simp)
      obtain ⟨l, rfl⟩ := ih fun i hi => by have := hh (i + 1) (by simp; omega); simpa using this
      obtain rfl : c = intV64 y := by simpa using hy
      exact ⟨y :: l, rfl⟩
  obtain ⟨l, rfl⟩ := all cs key
  have hln : l.length = n := by simpa using hl
  subst hln
  exact ⟨l, h1, h2⟩
theorem open_ll {t e i0 : TypeId} {v : Value} {d : DataW H} {ps : List MemPlace} {r : Reach} {b0 : Nat} (ht : P.underlying t = some (.slice e)) (he : P.underlying e = some (.slice i0)) (hi0 : P.underlying i0 = some (.int .i64)) (hz : P.cellsOf e = 1) (hz0 : P.cellsOf i0 = 1) (hv : Value.okWide P W r b0 t v) (h : DataW.Trod enc P W base spare held t v d ps) :
    ∃ Rw : List (List Int), LL (heapM W) v (LsI Rw) ∧ Rw.length ≤ maxLen ∧ ∀ w ∈ Rw, w.length ≤ maxLen := by
  obtain ⟨n, cs, h1, h2, h3⟩ := open_row ht hz hv h
  have hl : cs.length = n := by have := h1.size; omega
  have key : ∀ i, i < cs.length → ∃ c l, cs[i]? = some c ∧ IsL (heapM W) intV64 c l ∧ l.length ≤ maxLen := by
    intro i hi
    obtain ⟨fu, x, hx⟩ := h3 i (by omega)
    rw [Nat.mul_one, List.drop_eq_getElem_cons hi] at hx
    have hx : DataW.trod enc P W base spare held fu e [cs[i]] = some x := hx
    obtain ⟨l, h4, h5⟩ := cell_ints he hi0 hz0 hx
    exact ⟨_, l, List.getElem?_eq_getElem hi, h4, h5⟩
  have all : ∀ cs : List Value, (∀ i, i < cs.length → ∃ c l, cs[i]? = some c ∧ IsL (heapM W) intV64 c l ∧ l.length ≤ maxLen) → ∃ Rw : List (List Int), Rw.length = cs.length ∧ ∀ i (h : i < cs.length) (h2 : i < Rw.length), IsL (heapM W) intV64 cs[i] Rw[i] ∧ Rw[i].length ≤ maxLen := by
    intro cs
    induction cs with
    | nil => intro _; exact ⟨[], rfl, fun i h => by simp at h⟩
    | cons c cs ih =>
      intro hh
      obtain ⟨c0, l, h4, h5, h6⟩ := hh 0 (by simp)
      obtain ⟨Rw, h7, h8⟩ := ih fun i hi => by have := hh (i + 1) (by simp; omega); simpa using this
      obtain rfl : c = c0 := by simpa using h4
      refine ⟨l :: Rw, by simp [h7], fun i hi hi2 => ?_⟩
      cases i with
      | zero => exact ⟨h5, h6⟩
      | succ i => exact h8 i (by simpa using hi) (by simpa using hi2)
  obtain ⟨Rw, h4, h5⟩ := all cs key
  refine ⟨Rw, ⟨cs, ?_, by rw [LsI_len]; omega, fun i hi => ?_⟩, by omega, fun w hw => ?_⟩
  · rw [LsI_len, h4, hl]; exact h1
  · have hi2 : i < Rw.length := by rw [LsI_len] at hi; exact hi
    have e2 : (LsI Rw)[i] = Rw[i].map intV64 := by simp [LsI]
    rw [e2, List.length_map]
    exact (h5 i (by omega) hi2).1
  · obtain ⟨i, hi, rfl⟩ := List.getElem_of_mem hw
    exact (h5 i (by omega) hi).2
end
end Go.Proofs.Ytgkfmlgfmcpebaa.Sx
