import Derived.Test.YtncbbbappadcfaaDoorMsgG
import Derived.Test.YtncbbbappadcfaaDoorMsgH
/- Messages: what the laws share: names, the examples. -/
namespace Go.Proofs.YtncbbbappadcfaaDoor.Sx
open Go Go.RowKit
set_option linter.unusedVariables false
set_option linter.unusedSimpArgs false
set_option maxRecDepth 100000
set_option maxHeartbeats 8000000
attribute [local congr] fin_congr finG_congr stepG_congr step1_congr runOps_congr brv_congr obl_congr condK_congr LoopK_congr seqK_congr CutK_congr vc_congr DrawK_congr regK_congr CallK_congr AskK_congr newK_congr retC_congr ret1_congr retK_congr outV_congr closeK_congr genR_congr appR_congr finD_congr finGD_congr stepGD_congr stepD_congr CallK0_congr runD_congr okR_congr CallS_congr vcX_congr
section
variable {M : Mem} {K : AV → Hp → Mem → Prop}
theorem fold_bor {k n : Nat} {T : TypeId} {L : List Bst} (hn : n = L.length) (hb : L.length < 1000000) (hK : ∀ u' M', Mem.le M M' → IsL M' sbV u' (foldB L) → K (.ext u') [(k, T, cE sbV L)] M') : CallS Tryd.prog 19 [.slo k 0 n 1] [(k, T, cE sbV L)] M [] K := by
  refine CallS.bor (by exact ⟨⟨L.map sbV, rfl⟩, trivial⟩) fun us M' hM hb' => ?_
  obtain ⟨u1, _, rfl, hu1, rfl⟩ := hb'
  exact foldM_ok u1 L (hu1.isL (T := T) (by simp [lkH]) hn) hb (fun u' M'' hM'' hi hf => ⟨fun _ _ => rfl, fun M3 h3 h4 _ => hK u' M3 h3 (hi.move hf h4)⟩)
theorem sameT_bor {k n : Nat} {T : TypeId} {u : Value} {l L : List Bst} (hu : IsL M sbV u l) (hn : n = L.length) (hb : l.length < 1000000) (hb2 : L.length < 1000000) (hK : K (.ext (.bool (decide (l = L)))) [(k, T, cE sbV L)] M) : CallS Tryd.prog 15 [.ext u, .slo k 0 n 1] [(k, T, cE sbV L)] M [] K := by
  refine CallS.bor (by exact ⟨⟨L.map sbV, rfl⟩, trivial⟩) fun us M' hM hb' => ?_
  obtain ⟨_, _, rfl, rfl, u2, _, rfl, hu2, rfl⟩ := hb'
  exact sameTexts_ok _ u2 l L (hu.le hM) (hu2.isL (T := T) (by simp [lkH]) hn) (by omega) (by omega) (BorK.same hK)
def kA : Bst := [97, 116, 32, 47, 119, 111, 114, 107, 47, 99, 105, 47, 120, 46, 103, 111, 58, 49, 55, 58, 32, 103, 111, 116, 32, 34, 97, 32, 49, 34, 32, 119, 97, 110, 116, 32, 48, 120, 49, 70]
def kB : Bst := [97, 116, 32, 120, 46, 103, 111, 58, 35, 58, 32, 103, 111, 116, 32, 34, 34, 32, 119, 97, 110, 116, 32, 35]
def kC : Bst := [105, 110, 116, 51, 50, 32, 49, 50]
def kD : Bst := [105, 110, 116, 51, 50, 32, 35]
def kL : List Bst := [[102], [103], [102], [103], [102], [104]]
def kR : List Bst := [[102], [103], [102], [104]]
theorem kA_norm : normalB kA = kB := by decide +kernel
theorem kC_norm : normalB kC = kD := by decide +kernel
theorem kL_fold : foldB kL = kR := by decide +kernel
theorem known_ok (hK : ∀ M', Mem.le M M' → K (.ext (.bool true)) [] M') : CallS Tryd.prog 7 [] [] M [] K := by
  refine inlS (cs := []) Tryd.mixed Tryd.func7 rfl (by kernel_rfl) 0 rfl rfl ?_
  simp only [Tryd.f7]
  have b1 : ByteArray.mk #[97, 116, 32, 47, 119, 111, 114, 107, 47, 99, 105, 47, 120, 46, 103, 111, 58, 49, 55, 58, 32, 103, 111, 116, 32, 34, 97, 32, 49, 34, 32, 119, 97, 110, 116, 32, 48, 120, 49, 70] = bs kA := rfl
  have b2 : ByteArray.mk #[97, 116, 32, 120, 46, 103, 111, 58, 35, 58, 32, 103, 111, 116, 32, 34, 34, 32, 119, 97, 110, 116, 32, 35] = bs kB := rfl
  have b3 : ByteArray.mk #[105, 110, 116, 51, 50, 32, 49, 50] = bs kC := rfl
  have b4 : ByteArray.mk #[105, 110, 116, 51, 50, 32, 35] = bs kD := rfl
  have q1 : (kB == kB) = true := by simp
  have q2 : (kD == kD) = true := by simp
  have c1 : [AV.ext (.string (bs [102])), AV.ext (.string (bs [103])), AV.ext (.string (bs [102])), AV.ext (.string (bs [103])), AV.ext (.string (bs [102])), AV.ext (.string (bs [104]))] = cE sbV kL := rfl
  have c2 : [AV.ext (.string (bs [102])), AV.ext (.string (bs [103])), AV.ext (.string (bs [102])), AV.ext (.string (bs [104]))] = cE sbV kR := rfl
  (first | replace hb0 := true_and True | have hb0 := true_and True); refine Go1.mk ?_; repeat' ((first | (with_reducible refine Go1.go ?_) | ((with_reducible refine brv_mk (fun h => ?_) (fun h => ?_)) <;> replace hb0 := h) | ((with_reducible first | refine gsplitD (fun h => ?_) (fun h => ?_) | refine gsplitG (fun h => ?_) (fun h => ?_)) <;> (try simp only [Bool.not_eq_true', Bool.not_eq_false'] at h) <;> replace hb0 := h) | ((with_reducible refine isCall (f := 9) ?_); refine callA_nil (f := 9) (by kernel_rfl) (normal_ok kA (by decide) (fun M1 hM1 => ?_))) | ((with_reducible refine isCall0 (f := 9) ?_); refine callA0_nil (f := 9) (by kernel_rfl) (normal_ok kA (by decide) (fun M1 hM1 => ?_))) | ((with_reducible refine isCall (f := 9) ?_); refine callA_nil (f := 9) (by kernel_rfl) (normal_ok kC (by decide) (fun M3 hM3 => ?_))) | ((with_reducible refine isCall0 (f := 9) ?_); refine callA0_nil (f := 9) (by kernel_rfl) (normal_ok kC (by decide) (fun M3 hM3 => ?_))) | ((with_reducible refine isCall (f := 19) ?_); refine callA ?_) | ((with_reducible refine isCall0 (f := 19) ?_); refine callA0 ?_) | ((with_reducible refine isCallS (f := 19) ?_); refine (fold_bor (L := kL) (by rfl) (by decide) (fun u2 M2 hM2 h2 => ?_))) | ((with_reducible refine isCall (f := 15) ?_); refine callA ?_) | ((with_reducible refine isCall0 (f := 15) ?_); refine callA0 ?_) | ((with_reducible refine isCallS (f := 15) ?_); refine (sameT_bor (l := kR) (L := kR) (by have := h2.le hM3; rw [kL_fold] at this; exact this) (by rfl) (by decide) (by decide) ?_)) | (refine And.intro ?ob ?_; case ob => ((try simp only [decide_eq_true_eq, decide_eq_false_iff_not, Bool.or_eq_true, Bool.or_eq_false_iff, Bool.and_eq_true, Bool.and_eq_false_iff, Bool.not_eq_true, Bool.not_eq_true', Bool.not_eq_false', ne_eq, Int.toNat_natCast, maxLen] at *); omega)) | fail) <;> (try simp (config := { maxSteps := 1000000 }) only [hb0, b1, b2, b3, b4, q1, q2, c1, c2, cE_ment, hasK_nil, kC_norm, kA_norm, bs_mk, bs_app, bs_ext, bs_size, bs_toList, bs_at, bs_cells, List.take_length, imp_ga, guard_pk, guard_pk2, ↓selV_true, ↓selV_false, ↓opAt_arr, ↓opAt_0, ↓opAt_S, dstO, ↓hold_pre, awayP, normL, normA, normG, normP, nilR, fieldR, addOb, loadH, storeH, zeroR, fldV, storeX, loadV, AV.ptr?, hold_eq, runOps, regK, step1, newK, tOp, put1, put2, putA.eq_1, putA.eq_2, pickV, binV, binW, intV, strV, boolV, nilV, unV1, unV, selV, extR, ev, evC, callR, bltR, genR, appR, srcA, lenR, lenV, minV, maxV, lk, lkH, upH, St.put, AV.val, unG, guardB, gslot, obl, loadR, storeR, oneC, allOne, vals, tupA, cellsA, mkF, boxR, buildR, plT, buildSR, buildL, partC, plN, repN, makeR, fieldX, fieldO, idxR, idxA, indV, slcR, bndO, conV, AV.ment, mentL, mentE, mentH, hasK, AV.kill, killL, killE, killH, killEs, killHs, popTo, hasBlk, argEnv, Value.cells, subH, joinH, dropH, reachK, cellsK, mentO, newKeys, keysH, inB, closeK, keepH, outV, retK, ret1, retC, RetV, tupR, NewD.av, eqV, eqL, eqC, ↓reduceIte, Nat.reduceEqDiff, Nat.reduceBeqDiff, Nat.reduceAdd, Nat.reduceBEq, Nat.reduceLeDiff, Option.getD, reduceCtorEq, forall_const, implies_true, forall_eq_or_imp, forall_eq, eq_self, Int.reduceEq, Int.reduceNe, Int.reduceLT, Int.reduceLE, Int.reduceGT, Int.reduceGE, Int.reduceAdd, Int.reduceSub, Int.reduceMul, Int.reduceNeg, Int.reduceToNat, Nat.reduceSub, Nat.reduceMul, Nat.reduceLT, runD, keysOf, looksL, looksK, addrL, ptrK, disj, stepD, Op.operands, Call.operands, subE, subHp, keepLt, afterK, awayB, forgetD, beq_self_eq_true, vc.eq_14, cutO, marksOf, headId, undef, lookM_tup, sxB, sxTab]))
  have hM1 : Mem.le M M1 := hM1
  have hM2 : Mem.le M1 M2 := hM2
  have hM3 : Mem.le M2 M3 := hM3
  simpa using hK M3 ((hM1.trans hM2).trans hM3)
end
end Go.Proofs.YtncbbbappadcfaaDoor.Sx
