import Derived.Test.YtncbbbappadcfaaDoorMsgD
import Derived.Test.YtncbbbappadcfaaDoorIdx
/- Messages: numbers, what lies behind the last slash, quoted texts. -/
namespace Go.Proofs.YtncbbbappadcfaaDoor.Sx
open Go Go.RowKit
set_option linter.unusedVariables false
set_option linter.unusedSimpArgs false
set_option maxRecDepth 100000
set_option maxHeartbeats 8000000
attribute [local congr] fin_congr finG_congr stepG_congr step1_congr runOps_congr brv_congr obl_congr condK_congr LoopK_congr seqK_congr CutK_congr vc_congr DrawK_congr regK_congr CallK_congr AskK_congr newK_congr retC_congr ret1_congr retK_congr outV_congr closeK_congr genR_congr appR_congr finD_congr finGD_congr stepGD_congr stepD_congr CallK0_congr runD_congr okR_congr CallS_congr vcX_congr
theorem dig_ascii {b : UInt8} (h : hexB b = true) : b.toNat < 128 := by
  have := u8_all (P := fun b => !(hexB b) || decide (b.toNat < 128)) (by decide +kernel) b
  simpa [h] using this
def tenD : List UInt8 := [48, 49, 50, 51, 52, 53, 54, 55, 56, 57]
theorem ten_dig (b : UInt8) : tenD.contains b = digB b := by
  have := u8_all (P := fun b => tenD.contains b == digB b) (by decide +kernel) b
  simpa using this
theorem containsAny_any (ch : List UInt8) : ∀ l : List UInt8, Lib.containsAny l ch = l.any fun b => ch.contains b
  | [] => rfl
  | b :: l => by
    have ih := containsAny_any ch l
    have hge := Lib.indexAny_ge ch l
    unfold Lib.containsAny at ih ⊢
    rw [Lib.indexAny, List.any_cons, ← ih]
    cases ch.contains b with
    | true => simp
    | false =>
      simp only [Bool.false_or, Bool.false_eq_true, if_false]
      split
      · rename_i h; simp at h; rw [h]
      · rename_i h; simp at h; rw [decide_eq_decide]; omega
theorem containsD (l : List UInt8) : Lib.containsAny l tenD = l.any digB := by
  rw [containsAny_any]
  congr 1
  funext b
  exact ten_dig b
section
variable {M : Mem} {K : AV → Hp → Mem → Prop}
theorem containsAny_ok (l : List UInt8) (hl : l.length < 1000000000) (h : l.all hexB = true) (hK : K (.ext (.bool (l.any digB))) [] M) : CallS Tryd.prog 60 [.ext (.string (bs l)), .ext (.string (bs tenD))] [] M [] K := by
  rw [← containsD] at hK
  refine callS_of (us := [.string (bs l), .string (bs tenD)]) (fun w => ?_) hK
  exact Tryd.strings_ContainsAny_laid (bs l) (bs tenD) w (by rw [bs_size]; omega) (by decide) (fun j b hb => dig_ascii (List.all_eq_true.1 h b (List.mem_of_getElem? hb))) (fun j b hb => by
    have : b ∈ tenD := List.mem_of_getElem? hb
    have h2 : tenD.contains b = true := by simpa using this
    rw [ten_dig] at h2
    exact dig_ascii (by simp [hexB, h2]))
theorem number_ok (l : List UInt8) (hl : l.length < 1000000000) (hK : K (.ext (.bool (numB l))) [] M) : CallS Tryd.prog 44 [.ext (.string (bs l))] [] M [] K := by
  refine inlS (cs := []) Tryd.mixed Tryd.func44 rfl (by kernel_rfl) 0 rfl rfl ?_
  simp only [Tryd.f44]
  generalize hr : numB l = r at hK
  have t1 : ([48, 49, 50, 51, 52, 53, 54, 55, 56, 57] : List UInt8) = tenD := rfl
  (first | replace hb0 := true_and True | have hb0 := true_and True); refine Go1.mk ?_; repeat' ((first | (with_reducible refine Go1.go ?_) | ((with_reducible refine brv_mk (fun h => ?_) (fun h => ?_)) <;> replace hb0 := h) | ((with_reducible first | refine gsplitD (fun h => ?_) (fun h => ?_) | refine gsplitG (fun h => ?_) (fun h => ?_)) <;> (try simp only [Bool.not_eq_true', Bool.not_eq_false'] at h) <;> replace hb0 := h) | ((with_reducible refine isCall (f := 58) ?_); refine callA_nil (f := 58) (by kernel_rfl) (digits_ok ?_)) | ((with_reducible refine isCall0 (f := 58) ?_); refine callA0_nil (f := 58) (by kernel_rfl) (digits_ok ?_)) | ((with_reducible refine isCall (f := 59) ?_); refine callA_nil (f := 59) (by kernel_rfl) (allB_ok _ _ (by first | omega | (simp; omega)) ?_)) | ((with_reducible refine isCall0 (f := 59) ?_); refine callA0_nil (f := 59) (by kernel_rfl) (allB_ok _ _ (by first | omega | (simp; omega)) ?_)) | ((with_reducible refine isCall (f := 60) ?_); refine callA_nil (f := 60) (by kernel_rfl) (containsAny_ok l hl (by first | assumption | simp_all) ?_)) | ((with_reducible refine isCall0 (f := 60) ?_); refine callA0_nil (f := 60) (by kernel_rfl) (containsAny_ok l hl (by first | assumption | simp_all) ?_)) | ((with_reducible refine isDraw [some 27, some 28, some 29, some 30, some 2] (by decide) ?_); refine draw_rule [(0, []), (1, []), (2, []), (3, []), (4, [])] [[], [0], [], [0, 1, 2], [0, 1, 2, 3]] [27, 28, 29] [] (by kernel_rfl) (by kernel_rfl) (by kernel_rfl) (by kernel_rfl) (by exact trivial) ?_) | (refine And.intro ?ob ?_; case ob => ((try simp only [decide_eq_true_eq, decide_eq_false_iff_not, Bool.or_eq_true, Bool.or_eq_false_iff, Bool.and_eq_true, Bool.and_eq_false_iff, Bool.not_eq_true, Bool.not_eq_true', Bool.not_eq_false', ne_eq, Int.toNat_natCast, maxLen] at *); omega)) | fail) <;> (try simp (config := { maxSteps := 1000000 }) only [hb0, cls_len, cls_take, cls_drop, cls_agg, cls_cellsG, cls_cellsA, cls_one, cls_ment, cls_kill, z256_def, z256_len, z256_drop, z256_ment, par_len, par_ment, Nat.mul_one, imp_ga, guard_pk, guard_pk2, bs_mk, bs_app, bs_ext, bs_size, bs_toList, bs_at, bs_cells, List.take_length, imp_ga, guard_pk, guard_pk2, List.take_length, t1, ↓selV_true, ↓selV_false, ↓opAt_arr, ↓opAt_0, ↓opAt_S, dstO, ↓hold_pre, awayP, normL, normA, normG, normP, nilR, fieldR, addOb, loadH, storeH, zeroR, fldV, storeX, loadV, AV.ptr?, hold_eq, runOps, regK, step1, newK, tOp, put1, put2, putA.eq_1, putA.eq_2, pickV, binV, binW, intV, strV, boolV, nilV, unV1, unV, selV, extR, ev, evC, callR, bltR, genR, appR, srcA, lenR, lenV, minV, maxV, lk, lkH, upH, St.put, AV.val, unG, guardB, gslot, obl, loadR, storeR, oneC, allOne, vals, tupA, cellsA, mkF, boxR, buildR, plT, buildSR, buildL, partC, plN, repN, makeR, fieldX, fieldO, idxR, idxA, indV, slcR, bndO, conV, AV.ment, mentL, mentE, mentH, hasK, AV.kill, killL, killE, killH, killEs, killHs, popTo, hasBlk, argEnv, Value.cells, subH, joinH, dropH, reachK, cellsK, mentO, newKeys, keysH, inB, closeK, keepH, outV, retK, ret1, retC, RetV, tupR, NewD.av, eqV, eqL, eqC, ↓reduceIte, Nat.reduceEqDiff, Nat.reduceBeqDiff, Nat.reduceAdd, Nat.reduceBEq, Nat.reduceLeDiff, Option.getD, reduceCtorEq, forall_const, implies_true, forall_eq_or_imp, forall_eq, eq_self, Int.reduceEq, Int.reduceNe, Int.reduceLT, Int.reduceLE, Int.reduceGT, Int.reduceGE, Int.reduceAdd, Int.reduceSub, Int.reduceMul, Int.reduceNeg, Int.reduceToNat, Nat.reduceSub, Nat.reduceMul, Nat.reduceLT, runD, keysOf, looksL, looksK, addrL, ptrK, disj, stepD, Op.operands, Call.operands, subE, subHp, keepLt, afterK, awayB, forgetD, beq_self_eq_true, vc.eq_14, cutO, marksOf, headId, undef, lookM_tup, sxB, sxTab]))
  all_goals
    have e2 : decide (2 < l.length) = decide ((2 : Int) < (l.length : Int)) := by rw [decide_eq_decide]; omega
    have e8 : decide (8 ≤ l.length) = decide ((8 : Int) ≤ (l.length : Int)) := by rw [decide_eq_decide]; omega
    unfold numB at hr
    rw [e2, e8] at hr
    simp only [*, Bool.true_or, Bool.false_or, if_true, if_false, Bool.true_and, Bool.false_and, Bool.false_eq_true] at hr
    subst hr
    exact hK
theorem base_split (l : List UInt8) : (∃ i : Nat, i < l.length ∧ Lib.lastIndexByte (bs l) 47 = (i : Int) ∧ l.drop (i + 1) = baseB l) ∨ (Lib.lastIndexByte (bs l) 47 = -1 ∧ l = baseB l) := by
  have hsz : (bs l).size = l.length := rfl
  have hat : ∀ j (h : j < l.length), ((bs l).data[j]!) = l[j] := fun j h => by simp [bs, h]
  rcases Lib.lastIdx_spec (bs l) 47 (bs l).size with ⟨h1, h2⟩ | ⟨i, hi, h1, h2, h3⟩
  · refine .inr ⟨h1, (base_id fun b hb => ?_).symm⟩
    obtain ⟨j, hj, rfl⟩ := List.mem_iff_getElem.1 hb
    intro e
    have := h2 j hj
    rw [hat j hj, e] at this
    exact this rfl
  · rw [hsz] at hi
    refine .inl ⟨i, hi, h1, ?_⟩
    have hb : l[i] = 47 := by
      rw [hat i hi] at h2
      apply UInt8.toNat_inj.1
      exact_mod_cast h2
    have e : l = l.take i ++ 47 :: l.drop (i + 1) := by
      conv => lhs; rw [← List.take_append_drop i l, List.drop_eq_getElem_cons hi, hb]
    conv => rhs; rw [e]
    refine (base_slash fun b hm => ?_).symm
    obtain ⟨j, hj, rfl⟩ := List.mem_iff_getElem.1 hm
    rw [List.length_drop] at hj
    intro e2
    have := h3 (i + 1 + j) (by omega) (by rw [hsz]; omega)
    rw [hat (i + 1 + j) (by omega)] at this
    rw [List.getElem_drop] at e2
    rw [e2] at this
    exact this rfl
theorem base_ok (l : List UInt8) (hl : l.length < 1000000000000000) (hK : K (.ext (.string (bs (baseB l)))) [] M) : CallS Tryd.prog 43 [.ext (.string (bs l))] [] M [] K := by
  refine inlS (cs := []) Tryd.mixed Tryd.func43 rfl (by kernel_rfl) 0 rfl rfl ?_
  simp only [Tryd.f43]
  have hc : ∀ {K : AV → Hp → Mem → Prop}, K (.ext (.int .i64 (Lib.lastIndexByte (bs l) 47))) [] M → CallS Tryd.prog 57 [.ext (.string (bs l)), .ext (.int .u8 47)] [] M [] K := fun hK => callS_of (us := [.string (bs l), .int .u8 47]) (fun w => (Tryd.strings_LastIndexByte (bs l) 47 (by rw [bs_size]; omega) w).mono fun e w' h => ⟨h.1, h.2 ▸ Below.refl _ _⟩) hK
  rcases base_split l with ⟨i, hi, h1, h2⟩ | ⟨h1, h2⟩
  · have w1 : IntKind.i64.wrap ((i : Int) + 1) = ((i + 1 : Nat) : Int) := by rw [wrap_id (by omega) (by omega)]; omega
    (first | replace hb0 := true_and True | have hb0 := true_and True); refine Go1.mk ?_; repeat' ((first | (with_reducible refine Go1.go ?_) | ((with_reducible refine brv_mk (fun h => ?_) (fun h => ?_)) <;> replace hb0 := h) | ((with_reducible first | refine gsplitD (fun h => ?_) (fun h => ?_) | refine gsplitG (fun h => ?_) (fun h => ?_)) <;> (try simp only [Bool.not_eq_true', Bool.not_eq_false'] at h) <;> replace hb0 := h) | ((with_reducible refine isCall (f := 57) ?_); refine callA_nil (f := 57) (by kernel_rfl) (hc ?_)) | ((with_reducible refine isCall0 (f := 57) ?_); refine callA0_nil (f := 57) (by kernel_rfl) (hc ?_)) | (refine And.intro ?ob ?_; case ob => ((try simp only [decide_eq_true_eq, decide_eq_false_iff_not, Bool.or_eq_true, Bool.or_eq_false_iff, Bool.and_eq_true, Bool.and_eq_false_iff, Bool.not_eq_true, Bool.not_eq_true', Bool.not_eq_false', ne_eq, Int.toNat_natCast, maxLen] at *); omega)) | fail) <;> (try simp (config := { maxSteps := 1000000 }) only [hb0, h1, h2, w1, bs_mk, bs_app, bs_ext, bs_size, bs_toList, bs_at, bs_cells, List.take_length, imp_ga, guard_pk, guard_pk2, ↓selV_true, ↓selV_false, ↓opAt_arr, ↓opAt_0, ↓opAt_S, dstO, ↓hold_pre, awayP, normL, normA, normG, normP, nilR, fieldR, addOb, loadH, storeH, zeroR, fldV, storeX, loadV, AV.ptr?, hold_eq, runOps, regK, step1, newK, tOp, put1, put2, putA.eq_1, putA.eq_2, pickV, binV, binW, intV, strV, boolV, nilV, unV1, unV, selV, extR, ev, evC, callR, bltR, genR, appR, srcA, lenR, lenV, minV, maxV, lk, lkH, upH, St.put, AV.val, unG, guardB, gslot, obl, loadR, storeR, oneC, allOne, vals, tupA, cellsA, mkF, boxR, buildR, plT, buildSR, buildL, partC, plN, repN, makeR, fieldX, fieldO, idxR, idxA, indV, slcR, bndO, conV, AV.ment, mentL, mentE, mentH, hasK, AV.kill, killL, killE, killH, killEs, killHs, popTo, hasBlk, argEnv, Value.cells, subH, joinH, dropH, reachK, cellsK, mentO, newKeys, keysH, inB, closeK, keepH, outV, retK, ret1, retC, RetV, tupR, NewD.av, eqV, eqL, eqC, ↓reduceIte, Nat.reduceEqDiff, Nat.reduceBeqDiff, Nat.reduceAdd, Nat.reduceBEq, Nat.reduceLeDiff, Option.getD, reduceCtorEq, forall_const, implies_true, forall_eq_or_imp, forall_eq, eq_self, Int.reduceEq, Int.reduceNe, Int.reduceLT, Int.reduceLE, Int.reduceGT, Int.reduceGE, Int.reduceAdd, Int.reduceSub, Int.reduceMul, Int.reduceNeg, Int.reduceToNat, Nat.reduceSub, Nat.reduceMul, Nat.reduceLT, runD, keysOf, looksL, looksK, addrL, ptrK, disj, stepD, Op.operands, Call.operands, subE, subHp, keepLt, afterK, awayB, forgetD, beq_self_eq_true, vc.eq_14, cutO, marksOf, headId, undef, lookM_tup, sxB, sxTab]))
    exact hK
  · have w1 : IntKind.i64.wrap 0 = 0 := by decide
    rw [← h2] at hK
    clear h2
    (first | replace hb0 := true_and True | have hb0 := true_and True); refine Go1.mk ?_; repeat' ((first | (with_reducible refine Go1.go ?_) | ((with_reducible refine brv_mk (fun h => ?_) (fun h => ?_)) <;> replace hb0 := h) | ((with_reducible first | refine gsplitD (fun h => ?_) (fun h => ?_) | refine gsplitG (fun h => ?_) (fun h => ?_)) <;> (try simp only [Bool.not_eq_true', Bool.not_eq_false'] at h) <;> replace hb0 := h) | ((with_reducible refine isCall (f := 57) ?_); refine callA_nil (f := 57) (by kernel_rfl) (hc ?_)) | ((with_reducible refine isCall0 (f := 57) ?_); refine callA0_nil (f := 57) (by kernel_rfl) (hc ?_)) | (refine And.intro ?ob ?_; case ob => ((try simp only [decide_eq_true_eq, decide_eq_false_iff_not, Bool.or_eq_true, Bool.or_eq_false_iff, Bool.and_eq_true, Bool.and_eq_false_iff, Bool.not_eq_true, Bool.not_eq_true', Bool.not_eq_false', ne_eq, Int.toNat_natCast, maxLen] at *); omega)) | fail) <;> (try simp (config := { maxSteps := 1000000 }) only [hb0, h1, w1, Int.toNat_zero, bs_mk, bs_app, bs_ext, bs_size, bs_toList, bs_at, bs_cells, List.take_length, imp_ga, guard_pk, guard_pk2, ↓selV_true, ↓selV_false, ↓opAt_arr, ↓opAt_0, ↓opAt_S, dstO, ↓hold_pre, awayP, normL, normA, normG, normP, nilR, fieldR, addOb, loadH, storeH, zeroR, fldV, storeX, loadV, AV.ptr?, hold_eq, runOps, regK, step1, newK, tOp, put1, put2, putA.eq_1, putA.eq_2, pickV, binV, binW, intV, strV, boolV, nilV, unV1, unV, selV, extR, ev, evC, callR, bltR, genR, appR, srcA, lenR, lenV, minV, maxV, lk, lkH, upH, St.put, AV.val, unG, guardB, gslot, obl, loadR, storeR, oneC, allOne, vals, tupA, cellsA, mkF, boxR, buildR, plT, buildSR, buildL, partC, plN, repN, makeR, fieldX, fieldO, idxR, idxA, indV, slcR, bndO, conV, AV.ment, mentL, mentE, mentH, hasK, AV.kill, killL, killE, killH, killEs, killHs, popTo, hasBlk, argEnv, Value.cells, subH, joinH, dropH, reachK, cellsK, mentO, newKeys, keysH, inB, closeK, keepH, outV, retK, ret1, retC, RetV, tupR, NewD.av, eqV, eqL, eqC, ↓reduceIte, Nat.reduceEqDiff, Nat.reduceBeqDiff, Nat.reduceAdd, Nat.reduceBEq, Nat.reduceLeDiff, Option.getD, reduceCtorEq, forall_const, implies_true, forall_eq_or_imp, forall_eq, eq_self, Int.reduceEq, Int.reduceNe, Int.reduceLT, Int.reduceLE, Int.reduceGT, Int.reduceGE, Int.reduceAdd, Int.reduceSub, Int.reduceMul, Int.reduceNeg, Int.reduceToNat, Nat.reduceSub, Nat.reduceMul, Nat.reduceLT, runD, keysOf, looksL, looksK, addrL, ptrK, disj, stepD, Op.operands, Call.operands, subE, subHp, keepLt, afterK, awayB, forgetD, beq_self_eq_true, vc.eq_14, cutO, marksOf, headId, undef, lookM_tup, sxB, sxTab]))
    exact hK
theorem idx_qnl : ∀ r : List UInt8, (Lib.indexAny r qnl = -1 ∧ r.dropWhile qst = []) ∨ (Lib.indexAny r qnl = ((r.takeWhile qst).length : Int) ∧ ∃ h : (r.takeWhile qst).length < r.length, r.dropWhile qst = r[(r.takeWhile qst).length] :: r.drop ((r.takeWhile qst).length + 1))
  | [] => .inl ⟨rfl, rfl⟩
  | b :: r => by
    have hq : qnl.contains b = !(qst b) := by
      have := u8_all (P := fun b => qnl.contains b == !(qst b)) (by decide +kernel) b
      simpa using this
    have ih := idx_qnl r
    rw [Lib.indexAny, hq]
    cases hb : qst b with
    | false =>
      right
      simp [hb]
    | true =>
      simp only [Bool.not_true, Bool.false_eq_true, if_false]
      rw [List.takeWhile_cons_of_pos hb, List.dropWhile_cons_of_pos hb]
      rcases ih with ⟨h1, h2⟩ | ⟨h1, h2, h3⟩
      · left; simp [h1, h2]
      · right
        have : ¬ ((r.takeWhile qst).length : Int) = -1 := by omega
        refine ⟨by rw [h1]; simp only [beq_iff_eq, this, if_false]; simp, by simp only [List.length_cons]; omega, ?_⟩
        rw [h3]; simp
theorem quoted_ok (c : UInt8) (r : List UInt8) (hl : r.length < 1000000) (hK : ∀ M', Mem.le M M' → K (.ext (.int .i64 (quoB (c :: r) : Int))) [] M') : CallS Tryd.prog 21 [.ext (.string (bs (c :: r)))] [] M [] K := by
  refine inlS (cs := []) Tryd.mixed Tryd.func21 rfl (by kernel_rfl) 0 rfl rfl ?_
  simp only [Tryd.f21]
  have g0 : ((c :: r).getD 0 0) = c := rfl
  have a0 : (0 : Int) < ((c :: r).length : Int) := by simp
  by_cases hc : c = 34
  · subst hc
    have d1 : decide (((34 : UInt8).toNat : Int) = 34) = true := by decide
    have t1 : List.drop 1 (List.take (34 :: r).length (34 :: r)) = r := by simp
    have t2 : (1 : Int) ≤ ((34 :: r).length : Int) := by simp; omega
    have hq : ([34, 10] : List UInt8) = qnl := rfl
    rcases idx_qnl r with ⟨h1, h2⟩ | ⟨h1, h2, h3⟩
    · have hz : quoB (34 :: r) = 0 := by simp [quoB, h2]
      rw [hz] at hK
      (first | replace hb0 := true_and True | have hb0 := true_and True); refine Go1.mk ?_; repeat' ((first | (with_reducible refine Go1.go ?_) | ((with_reducible refine brv_mk (fun h => ?_) (fun h => ?_)) <;> replace hb0 := h) | ((with_reducible first | refine gsplitD (fun h => ?_) (fun h => ?_) | refine gsplitG (fun h => ?_) (fun h => ?_)) <;> (try simp only [Bool.not_eq_true', Bool.not_eq_false'] at h) <;> replace hb0 := h) | ((with_reducible refine isCall (f := 41) ?_); refine callA_nil (f := 41) (by kernel_rfl) (indexAny_ok r (by omega) (fun M' hM' => ?_))) | ((with_reducible refine isCall0 (f := 41) ?_); refine callA0_nil (f := 41) (by kernel_rfl) (indexAny_ok r (by omega) (fun M' hM' => ?_))) | (refine And.intro ?ob ?_; case ob => ((try simp only [decide_eq_true_eq, decide_eq_false_iff_not, Bool.or_eq_true, Bool.or_eq_false_iff, Bool.and_eq_true, Bool.and_eq_false_iff, Bool.not_eq_true, Bool.not_eq_true', Bool.not_eq_false', ne_eq, Int.toNat_natCast, maxLen] at *); omega)) | fail) <;> (try simp (config := { maxSteps := 1000000 }) only [hb0, g0, a0, d1, t1, t2, hq, h1, Int.toNat_one, Int.toNat_zero, bs_mk, bs_app, bs_ext, bs_size, bs_toList, bs_at, bs_cells, List.take_length, imp_ga, guard_pk, guard_pk2, ↓selV_true, ↓selV_false, ↓opAt_arr, ↓opAt_0, ↓opAt_S, dstO, ↓hold_pre, awayP, normL, normA, normG, normP, nilR, fieldR, addOb, loadH, storeH, zeroR, fldV, storeX, loadV, AV.ptr?, hold_eq, runOps, regK, step1, newK, tOp, put1, put2, putA.eq_1, putA.eq_2, pickV, binV, binW, intV, strV, boolV, nilV, unV1, unV, selV, extR, ev, evC, callR, bltR, genR, appR, srcA, lenR, lenV, minV, maxV, lk, lkH, upH, St.put, AV.val, unG, guardB, gslot, obl, loadR, storeR, oneC, allOne, vals, tupA, cellsA, mkF, boxR, buildR, plT, buildSR, buildL, partC, plN, repN, makeR, fieldX, fieldO, idxR, idxA, indV, slcR, bndO, conV, AV.ment, mentL, mentE, mentH, hasK, AV.kill, killL, killE, killH, killEs, killHs, popTo, hasBlk, argEnv, Value.cells, subH, joinH, dropH, reachK, cellsK, mentO, newKeys, keysH, inB, closeK, keepH, outV, retK, ret1, retC, RetV, tupR, NewD.av, eqV, eqL, eqC, ↓reduceIte, Nat.reduceEqDiff, Nat.reduceBeqDiff, Nat.reduceAdd, Nat.reduceBEq, Nat.reduceLeDiff, Option.getD, reduceCtorEq, forall_const, implies_true, forall_eq_or_imp, forall_eq, eq_self, Int.reduceEq, Int.reduceNe, Int.reduceLT, Int.reduceLE, Int.reduceGT, Int.reduceGE, Int.reduceAdd, Int.reduceSub, Int.reduceMul, Int.reduceNeg, Int.reduceToNat, Nat.reduceSub, Nat.reduceMul, Nat.reduceLT, runD, keysOf, looksL, looksK, addrL, ptrK, disj, stepD, Op.operands, Call.operands, subE, subHp, keepLt, afterK, awayB, forgetD, beq_self_eq_true, vc.eq_14, cutO, marksOf, headId, undef, lookM_tup, sxB, sxTab]))
      exact hK _ hM'
    · have hlt : decide (((r.takeWhile qst).length : Int) < 0) = false := by simp
      have w1 : IntKind.i64.wrap (1 + ((r.takeWhile qst).length : Int)) = (((r.takeWhile qst).length + 1 : Nat) : Int) := by rw [wrap_id (by omega) (by omega)]; omega
      have w2 : IntKind.i64.wrap (((r.takeWhile qst).length : Int) + 2) = (((r.takeWhile qst).length + 2 : Nat) : Int) := by rw [wrap_id (by omega) (by omega)]; omega
      have g1 : (34 :: r).getD ((r.takeWhile qst).length + 1) 0 = r[(r.takeWhile qst).length] := by
        rw [List.getD_cons_succ]; exact getD_of h2
      have a1 : (0 : Int) ≤ (((r.takeWhile qst).length + 1 : Nat) : Int) := by omega
      have a2 : (((r.takeWhile qst).length + 1 : Nat) : Int) < ((r.length + 1 : Nat) : Int) := by omega
      by_cases hd : r[(r.takeWhile qst).length] = 34
      · have d2 : decide (((34 : UInt8).toNat : Int) = 34) = true := by decide
        have hz : quoB (34 :: r) = (r.takeWhile qst).length + 2 := by simp only [quoB, if_true, h3, hd]
        rw [hz] at hK
        rw [hd] at g1
        (first | replace hb0 := true_and True | have hb0 := true_and True); refine Go1.mk ?_; repeat' ((first | (with_reducible refine Go1.go ?_) | ((with_reducible refine brv_mk (fun h => ?_) (fun h => ?_)) <;> replace hb0 := h) | ((with_reducible first | refine gsplitD (fun h => ?_) (fun h => ?_) | refine gsplitG (fun h => ?_) (fun h => ?_)) <;> (try simp only [Bool.not_eq_true', Bool.not_eq_false'] at h) <;> replace hb0 := h) | ((with_reducible refine isCall (f := 41) ?_); refine callA_nil (f := 41) (by kernel_rfl) (indexAny_ok r (by omega) (fun M' hM' => ?_))) | ((with_reducible refine isCall0 (f := 41) ?_); refine callA0_nil (f := 41) (by kernel_rfl) (indexAny_ok r (by omega) (fun M' hM' => ?_))) | (refine And.intro ?ob ?_; case ob => ((try simp only [decide_eq_true_eq, decide_eq_false_iff_not, Bool.or_eq_true, Bool.or_eq_false_iff, Bool.and_eq_true, Bool.and_eq_false_iff, Bool.not_eq_true, Bool.not_eq_true', Bool.not_eq_false', ne_eq, Int.toNat_natCast, maxLen] at *); omega)) | fail) <;> (try simp (config := { maxSteps := 1000000 }) only [hb0, g0, a0, d1, t1, t2, hq, h1, hlt, w1, w2, g1, a1, a2, d2, Int.toNat_one, Int.toNat_zero, bs_mk, bs_app, bs_ext, bs_size, bs_toList, bs_at, bs_cells, List.take_length, imp_ga, guard_pk, guard_pk2, ↓selV_true, ↓selV_false, ↓opAt_arr, ↓opAt_0, ↓opAt_S, dstO, ↓hold_pre, awayP, normL, normA, normG, normP, nilR, fieldR, addOb, loadH, storeH, zeroR, fldV, storeX, loadV, AV.ptr?, hold_eq, runOps, regK, step1, newK, tOp, put1, put2, putA.eq_1, putA.eq_2, pickV, binV, binW, intV, strV, boolV, nilV, unV1, unV, selV, extR, ev, evC, callR, bltR, genR, appR, srcA, lenR, lenV, minV, maxV, lk, lkH, upH, St.put, AV.val, unG, guardB, gslot, obl, loadR, storeR, oneC, allOne, vals, tupA, cellsA, mkF, boxR, buildR, plT, buildSR, buildL, partC, plN, repN, makeR, fieldX, fieldO, idxR, idxA, indV, slcR, bndO, conV, AV.ment, mentL, mentE, mentH, hasK, AV.kill, killL, killE, killH, killEs, killHs, popTo, hasBlk, argEnv, Value.cells, subH, joinH, dropH, reachK, cellsK, mentO, newKeys, keysH, inB, closeK, keepH, outV, retK, ret1, retC, RetV, tupR, NewD.av, eqV, eqL, eqC, ↓reduceIte, Nat.reduceEqDiff, Nat.reduceBeqDiff, Nat.reduceAdd, Nat.reduceBEq, Nat.reduceLeDiff, Option.getD, reduceCtorEq, forall_const, implies_true, forall_eq_or_imp, forall_eq, eq_self, Int.reduceEq, Int.reduceNe, Int.reduceLT, Int.reduceLE, Int.reduceGT, Int.reduceGE, Int.reduceAdd, Int.reduceSub, Int.reduceMul, Int.reduceNeg, Int.reduceToNat, Nat.reduceSub, Nat.reduceMul, Nat.reduceLT, runD, keysOf, looksL, looksK, addrL, ptrK, disj, stepD, Op.operands, Call.operands, subE, subHp, keepLt, afterK, awayB, forgetD, beq_self_eq_true, vc.eq_14, cutO, marksOf, headId, undef, lookM_tup, sxB, sxTab]))
        exact hK _ hM'
      · have d2 : decide ((r[(r.takeWhile qst).length].toNat : Int) = 34) = false := by
          rw [decide_eq_false_iff_not]
          intro e
          exact hd (UInt8.toNat_inj.1 (by exact_mod_cast e))
        have hz : quoB (34 :: r) = 0 := by simp only [quoB, if_true, h3, hd, if_false]
        rw [hz] at hK
        (first | replace hb0 := true_and True | have hb0 := true_and True); refine Go1.mk ?_; repeat' ((first | (with_reducible refine Go1.go ?_) | ((with_reducible refine brv_mk (fun h => ?_) (fun h => ?_)) <;> replace hb0 := h) | ((with_reducible first | refine gsplitD (fun h => ?_) (fun h => ?_) | refine gsplitG (fun h => ?_) (fun h => ?_)) <;> (try simp only [Bool.not_eq_true', Bool.not_eq_false'] at h) <;> replace hb0 := h) | ((with_reducible refine isCall (f := 41) ?_); refine callA_nil (f := 41) (by kernel_rfl) (indexAny_ok r (by omega) (fun M' hM' => ?_))) | ((with_reducible refine isCall0 (f := 41) ?_); refine callA0_nil (f := 41) (by kernel_rfl) (indexAny_ok r (by omega) (fun M' hM' => ?_))) | (refine And.intro ?ob ?_; case ob => ((try simp only [decide_eq_true_eq, decide_eq_false_iff_not, Bool.or_eq_true, Bool.or_eq_false_iff, Bool.and_eq_true, Bool.and_eq_false_iff, Bool.not_eq_true, Bool.not_eq_true', Bool.not_eq_false', ne_eq, Int.toNat_natCast, maxLen] at *); omega)) | fail) <;> (try simp (config := { maxSteps := 1000000 }) only [hb0, g0, a0, d1, t1, t2, hq, h1, hlt, w1, w2, g1, a1, a2, d2, Int.toNat_one, Int.toNat_zero, bs_mk, bs_app, bs_ext, bs_size, bs_toList, bs_at, bs_cells, List.take_length, imp_ga, guard_pk, guard_pk2, ↓selV_true, ↓selV_false, ↓opAt_arr, ↓opAt_0, ↓opAt_S, dstO, ↓hold_pre, awayP, normL, normA, normG, normP, nilR, fieldR, addOb, loadH, storeH, zeroR, fldV, storeX, loadV, AV.ptr?, hold_eq, runOps, regK, step1, newK, tOp, put1, put2, putA.eq_1, putA.eq_2, pickV, binV, binW, intV, strV, boolV, nilV, unV1, unV, selV, extR, ev, evC, callR, bltR, genR, appR, srcA, lenR, lenV, minV, maxV, lk, lkH, upH, St.put, AV.val, unG, guardB, gslot, obl, loadR, storeR, oneC, allOne, vals, tupA, cellsA, mkF, boxR, buildR, plT, buildSR, buildL, partC, plN, repN, makeR, fieldX, fieldO, idxR, idxA, indV, slcR, bndO, conV, AV.ment, mentL, mentE, mentH, hasK, AV.kill, killL, killE, killH, killEs, killHs, popTo, hasBlk, argEnv, Value.cells, subH, joinH, dropH, reachK, cellsK, mentO, newKeys, keysH, inB, closeK, keepH, outV, retK, ret1, retC, RetV, tupR, NewD.av, eqV, eqL, eqC, ↓reduceIte, Nat.reduceEqDiff, Nat.reduceBeqDiff, Nat.reduceAdd, Nat.reduceBEq, Nat.reduceLeDiff, Option.getD, reduceCtorEq, forall_const, implies_true, forall_eq_or_imp, forall_eq, eq_self, Int.reduceEq, Int.reduceNe, Int.reduceLT, Int.reduceLE, Int.reduceGT, Int.reduceGE, Int.reduceAdd, Int.reduceSub, Int.reduceMul, Int.reduceNeg, Int.reduceToNat, Nat.reduceSub, Nat.reduceMul, Nat.reduceLT, runD, keysOf, looksL, looksK, addrL, ptrK, disj, stepD, Op.operands, Call.operands, subE, subHp, keepLt, afterK, awayB, forgetD, beq_self_eq_true, vc.eq_14, cutO, marksOf, headId, undef, lookM_tup, sxB, sxTab]))
        exact hK _ hM'
  · have d1 : decide ((c.toNat : Int) = 34) = false := by
      rw [decide_eq_false_iff_not]
      intro e
      exact hc (UInt8.toNat_inj.1 (by exact_mod_cast e))
    have hz : quoB (c :: r) = 0 := by simp only [quoB, hc, if_false]
    rw [hz] at hK
    (first | replace hb0 := true_and True | have hb0 := true_and True); refine Go1.mk ?_; repeat' ((first | (with_reducible refine Go1.go ?_) | ((with_reducible refine brv_mk (fun h => ?_) (fun h => ?_)) <;> replace hb0 := h) | ((with_reducible first | refine gsplitD (fun h => ?_) (fun h => ?_) | refine gsplitG (fun h => ?_) (fun h => ?_)) <;> (try simp only [Bool.not_eq_true', Bool.not_eq_false'] at h) <;> replace hb0 := h) | (refine And.intro ?ob ?_; case ob => ((try simp only [decide_eq_true_eq, decide_eq_false_iff_not, Bool.or_eq_true, Bool.or_eq_false_iff, Bool.and_eq_true, Bool.and_eq_false_iff, Bool.not_eq_true, Bool.not_eq_true', Bool.not_eq_false', ne_eq, Int.toNat_natCast, maxLen] at *); omega)) | fail) <;> (try simp (config := { maxSteps := 1000000 }) only [hb0, g0, a0, d1, Int.toNat_zero, bs_mk, bs_app, bs_ext, bs_size, bs_toList, bs_at, bs_cells, List.take_length, imp_ga, guard_pk, guard_pk2, ↓selV_true, ↓selV_false, ↓opAt_arr, ↓opAt_0, ↓opAt_S, dstO, ↓hold_pre, awayP, normL, normA, normG, normP, nilR, fieldR, addOb, loadH, storeH, zeroR, fldV, storeX, loadV, AV.ptr?, hold_eq, runOps, regK, step1, newK, tOp, put1, put2, putA.eq_1, putA.eq_2, pickV, binV, binW, intV, strV, boolV, nilV, unV1, unV, selV, extR, ev, evC, callR, bltR, genR, appR, srcA, lenR, lenV, minV, maxV, lk, lkH, upH, St.put, AV.val, unG, guardB, gslot, obl, loadR, storeR, oneC, allOne, vals, tupA, cellsA, mkF, boxR, buildR, plT, buildSR, buildL, partC, plN, repN, makeR, fieldX, fieldO, idxR, idxA, indV, slcR, bndO, conV, AV.ment, mentL, mentE, mentH, hasK, AV.kill, killL, killE, killH, killEs, killHs, popTo, hasBlk, argEnv, Value.cells, subH, joinH, dropH, reachK, cellsK, mentO, newKeys, keysH, inB, closeK, keepH, outV, retK, ret1, retC, RetV, tupR, NewD.av, eqV, eqL, eqC, ↓reduceIte, Nat.reduceEqDiff, Nat.reduceBeqDiff, Nat.reduceAdd, Nat.reduceBEq, Nat.reduceLeDiff, Option.getD, reduceCtorEq, forall_const, implies_true, forall_eq_or_imp, forall_eq, eq_self, Int.reduceEq, Int.reduceNe, Int.reduceLT, Int.reduceLE, Int.reduceGT, Int.reduceGE, Int.reduceAdd, Int.reduceSub, Int.reduceMul, Int.reduceNeg, Int.reduceToNat, Nat.reduceSub, Nat.reduceMul, Nat.reduceLT, runD, keysOf, looksL, looksK, addrL, ptrK, disj, stepD, Op.operands, Call.operands, subE, subHp, keepLt, afterK, awayB, forgetD, beq_self_eq_true, vc.eq_14, cutO, marksOf, headId, undef, lookM_tup, sxB, sxTab]))
    exact hK _ (Mem.le.refl _)
end
end Go.Proofs.YtncbbbappadcfaaDoor.Sx
