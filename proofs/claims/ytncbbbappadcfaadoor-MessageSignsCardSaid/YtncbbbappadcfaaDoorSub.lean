import Derived.Test.YtncbbbappadcfaaDoorLst
/- Facts on symbolic keys, parts of slices in memory, results that are fresh, one of some strings that a tape chooses. -/
namespace Go.Proofs.YtncbbbappadcfaaDoor.Sx
open Go Go.RowKit
set_option linter.unusedVariables false
set_option linter.unusedSimpArgs false
set_option maxRecDepth 100000
set_option maxHeartbeats 8000000
attribute [local congr] fin_congr finG_congr stepG_congr step1_congr runOps_congr brv_congr obl_congr condK_congr LoopK_congr seqK_congr CutK_congr vc_congr DrawK_congr regK_congr CallK_congr AskK_congr newK_congr retC_congr ret1_congr retK_congr outV_congr closeK_congr genR_congr appR_congr finD_congr finGD_congr stepGD_congr stepD_congr CallK0_congr runD_congr okR_congr CallS_congr vcX_congr
attribute [local congr] Stop_congr
theorem neK {a b : Nat} (h : a ≠ b) : ((a = b) = False) ∧ ((b = a) = False) ∧ ((a == b) = false) ∧ ((b == a) = false) := by
  have h2 := Ne.symm h
  simp [h, h2]
theorem FrzF.rest {K : AV → Hp → Mem → Prop} {H H2 : Hp} {M' : Mem} {k n : Nat} {T : TypeId} (cs : List Value) (h1 : lkH H k = none) (h2 : cs.length = n) (h3 : hasK k (mentH H2) = false) (h4 : lkH H2 k = none) (h : ∀ u M'', Mem.le M' M'' → SlM M'' 1 u n cs → FreshS M' u → K (.ext u) H2 M'') : FrzF K H (.slo k 0 n 1) ((k, T, cs.map .ext) :: H2) M' :=
  .inr ⟨none, [], [], k, n, 1, T, cs, H2, rfl, rfl, h4, h1, by omega, by simpa [mentL] using h3, h⟩
theorem SlM.sub {M : Mem} {n : Nat} {u : Value} {cs : List Value} (h : SlM M 1 u n cs) {i j : Nat} (hij : i ≤ j) (hj : j ≤ n) : SlM M 1 (subS u 1 i j) (j - i) ((cs.drop i).take (j - i)) := by
  rcases h.cases with ⟨rfl, rfl, c, rfl⟩ | ⟨b, off, c, rfl, hc, hr⟩
  · obtain rfl : j = 0 := by omega
    obtain rfl : i = 0 := by omega
    have : subS (.slice none 0 c) 1 0 0 = .slice none 0 c := by simp [subS]
    rw [this]; exact slM_nil M 1 c
  · have hs := h.size
    obtain ⟨h1, h2⟩ := rowM_get hr
    have hlen : ((cs.drop i).take (j - i)).length = j - i := by rw [List.length_take, List.length_drop]; omega
    refine ⟨rfl, rfl, ?_, by rw [hlen]; omega, ?_⟩
    · simp only [subS, scap]; omega
    · by_cases e : c = i
      · subst e
        obtain rfl : j = c := by omega
        simp [subS, rowS, rowM]
      · have ea : subS (.slice (some ⟨b, off, none⟩) n c) 1 i j = .slice (some ⟨b, off + i, none⟩) (j - i) (c - i) := by
          simp only [subS, if_neg e, Option.map_some, Nat.mul_one, Addr.add]
          by_cases h0 : i = 0
          · subst h0; rfl
          · simp only [if_neg h0]
        rw [ea]
        simp only [rowS, Nat.mul_one]
        refine rowM_of hlen fun q v hq => ?_
        have hql : q < j - i := by
          have := (List.getElem?_eq_some_iff.1 hq).1
          omega
        rw [List.getElem?_take_of_lt hql, List.getElem?_drop] at hq
        have := h2 (i + q) v hq
        rw [show off + i + q = off + (i + q) by omega]
        exact this
theorem IsL.sub {α : Type} {M : Mem} {g : α → Value} {u : Value} {l : List α} (h : IsL M g u l) {i j : Nat} (hij : i ≤ j) (hj : j ≤ l.length) : IsL M g (subS u 1 i j) ((l.drop i).take (j - i)) := by
  have := SlM.sub h hij hj
  unfold IsL
  rw [← List.map_drop, ← List.map_take] at this
  rw [show ((l.drop i).take (j - i)).length = j - i by rw [List.length_take, List.length_drop]; omega]
  exact this
section
variable {M : Mem} {K : AV → Hp → Mem → Prop}
theorem one_ok (k j : Nat) (hkj : k ≠ j) (u : Value) (l : List Int) (p : Nat) (L : List Bst) (T : TypeId) (n : Nat) (hn : n = L.length) (hu : IsL M intV64 u l) (hp : p < 1000000) (h0 : 0 < L.length) (hL : L.length < 1000)
    (hK : ∀ i (h : i < L.length), K (.ext (sbV L[i])) [(k, 27, [.ext u, .ext (.int .i64 ((p + 1 : Nat) : Int))]), (j, T, cE sbV L)] M) :
    CallS Tryd.prog 12 [.own k 0, .slo j 0 n 1] [(j, T, cE sbV L), (k, 27, [.ext u, .ext (.int .i64 (p : Int))])] M [] K := by
  subst hn
  refine inlS (cs := []) (f := 12) Tryd.mixed Tryd.func12 rfl (by kernel_rfl) (k + j + 1) rfl (by simp [ltB, keysH]; omega) ?_
  simp only [Tryd.f12]
  have e := neK hkj
  have hb := foldI_bd1 (tapeV l p) (L.length : Int) (by omega) (by omega)
  obtain ⟨q, hq⟩ := Int.eq_ofNat_of_zero_le hb.1
  have hql : q < L.length := by omega
  have d0 : decide ((L.length : Int) = 0) = false := by rw [decide_eq_false_iff_not]; omega
  have d1 : (0 : Int) ≤ (q : Int) := by omega
  have d2 : (q : Int) < (L.length : Int) := by omega
  have g1 : (cE sbV L)[q]? = some (.ext (sbV L[q])) := by simp [cE, hql]
  (first | replace hb0 := true_and True | have hb0 := true_and True); refine Go1.mk ?_; repeat' ((first | (with_reducible refine Go1.go ?_) | ((with_reducible refine brv_mk (fun h => ?_) (fun h => ?_)) <;> replace hb0 := h) | ((with_reducible first | refine gsplitD (fun h => ?_) (fun h => ?_) | refine gsplitG (fun h => ?_) (fun h => ?_)) <;> (try simp only [Bool.not_eq_true', Bool.not_eq_false'] at h) <;> replace hb0 := h) | ((with_reducible refine isCall (f := 13) ?_); refine callA ?_) | ((with_reducible refine isCall0 (f := 13) ?_); refine callA0 ?_) | ((with_reducible refine isCallS (f := 13) ?_); refine (next_ok k u l p _ hu (by exact Nat.lt_trans hp (by decide)) ?_)) | (refine And.intro ?ob ?_; case ob => ((try simp only [decide_eq_true_eq, decide_eq_false_iff_not, Bool.or_eq_true, Bool.or_eq_false_iff, Bool.and_eq_true, Bool.and_eq_false_iff, Bool.not_eq_true, Bool.not_eq_true', Bool.not_eq_false', ne_eq, Int.toNat_natCast, maxLen] at *); omega)) | fail) <;> (try simp (config := { maxSteps := 1000000 }) only [hb0, d0, d1, d2, hq, g1, Nat.mul_one, cE_ment, hasK_nil, hu.one, e, ↓selV_true, ↓selV_false, ↓opAt_arr, ↓opAt_0, ↓opAt_S, dstO, ↓hold_pre, awayP, normL, normA, normG, normP, nilR, fieldR, addOb, loadH, storeH, zeroR, fldV, storeX, loadV, AV.ptr?, hold_eq, runOps, regK, step1, newK, tOp, put1, put2, putA.eq_1, putA.eq_2, pickV, binV, binW, intV, strV, boolV, nilV, unV1, unV, selV, extR, ev, evC, callR, bltR, genR, appR, srcA, lenR, lenV, minV, maxV, lk, lkH, upH, St.put, AV.val, unG, guardB, gslot, obl, loadR, storeR, oneC, allOne, vals, tupA, cellsA, mkF, boxR, buildR, plT, buildSR, buildL, partC, plN, repN, makeR, fieldX, fieldO, idxR, idxA, indV, slcR, bndO, conV, AV.ment, mentL, mentE, mentH, hasK, AV.kill, killL, killE, killH, killEs, killHs, popTo, hasBlk, argEnv, Value.cells, subH, joinH, dropH, reachK, cellsK, mentO, newKeys, keysH, inB, closeK, keepH, outV, retK, ret1, retC, RetV, tupR, NewD.av, eqV, eqL, eqC, ↓reduceIte, Nat.reduceEqDiff, Nat.reduceBeqDiff, Nat.reduceAdd, Nat.reduceBEq, Nat.reduceLeDiff, Option.getD, reduceCtorEq, forall_const, implies_true, forall_eq_or_imp, forall_eq, eq_self, Int.reduceEq, Int.reduceNe, Int.reduceLT, Int.reduceLE, Int.reduceGT, Int.reduceGE, Int.reduceAdd, Int.reduceSub, Int.reduceMul, Int.reduceNeg, Int.reduceToNat, Nat.reduceSub, Nat.reduceMul, Nat.reduceLT, runD, keysOf, looksL, looksK, addrL, ptrK, disj, stepD, Op.operands, Call.operands, subE, subHp, keepLt, afterK, awayB, forgetD, beq_self_eq_true, vc.eq_14, cutO, marksOf, headId, undef, lookM_tup, sxB, sxTab]))
  exact hK q hql
end
end Go.Proofs.YtncbbbappadcfaaDoor.Sx
