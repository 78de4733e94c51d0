import Derived.Test.YtcaihadhpgkceaaPolK
/- The pool: what the laws make: ranges, with reverts; own arguments that are only read. -/
namespace Go.Proofs.Ytcaihadhpgkceaa.Sx
open Go Go.RowKit
set_option linter.unusedVariables false
set_option linter.unusedSimpArgs false
set_option maxRecDepth 100000
set_option maxHeartbeats 8000000
attribute [local congr] fin_congr finG_congr stepG_congr step1_congr runOps_congr brv_congr obl_congr condK_congr LoopK_congr seqK_congr CutK_congr vc_congr DrawK_congr regK_congr CallK_congr AskK_congr newK_congr retC_congr ret1_congr retK_congr outV_congr closeK_congr genR_congr appR_congr finD_congr finGD_congr stepGD_congr stepD_congr CallK0_congr runD_congr okR_congr CallS_congr vcX_congr
/-- a nil slice in a cell is an own slice without elements -/
theorem le_nilC {s : St} (j k : Nat) (T T' : TypeId) (zz : Nat) (h1 : lkH s.hp j = some (T, [.ext (.slice none 0 0)])) (h2 : awayP k s) : Le s { env := s.env, hp := (k, T', []) :: upH s.hp j [.slo k 0 0 zz], M := s.M, kb := s.kb, fx := s.fx } := fun c n ρ av w g => by
  have hlk : ∀ i x, lkH ((k, T', []) :: upH s.hp j [.slo k 0 0 zz]) i = some x → (i = k ∧ x = (T', [])) ∨ (i ≠ k ∧ ((i = j ∧ x = (T, [.slo k 0 0 zz])) ∨ (i ≠ j ∧ lkH s.hp i = some x))) := fun i x hi => by
    by_cases e : k = i
    · subst e; simp [lkH] at hi; exact .inl ⟨rfl, hi.symm⟩
    · simp only [lkH, if_neg e, lkH_upH] at hi
      refine .inr ⟨fun e2 => e e2.symm, ?_⟩
      by_cases e2 : j = i
      · subst e2; rw [if_pos rfl, h1] at hi; simp at hi; exact .inl ⟨rfl, hi.symm⟩
      · rw [if_neg e2] at hi; exact .inr ⟨fun e3 => e2 e3.symm, hi⟩
  have hsome : ∀ i x, lkH ((k, T', []) :: upH s.hp j [.slo k 0 0 zz]) i = some x → i ≠ k → (lkH s.hp i).isSome = true := fun i x hi hne => by
    rcases hlk i x hi with ⟨e, _⟩ | ⟨_, ⟨rfl, _⟩ | ⟨_, h⟩⟩
    · exact absurd e hne
    · rw [h1]; rfl
    · rw [h]; rfl
  refine ⟨upd ρ k none, { df := g.df, sz := g.sz, env := fun t => is_upd (awayP_env h2 t) (g.env t), hp := fun i T2 cs b hi hb => ?_, no := fun i T2 cs hi hb => ?_, inj := fun i i' b b' hi hi' hb hb' e => ?_, os := g.os, tape := g.tape, output := g.output, size := g.size, block := g.block, sub := g.sub, le := g.le, mf := g.mf, fix := fun i hi => ?_, fx := fun i hi => ?_, kl := g.kl }⟩
  · rcases hlk i _ hi with ⟨rfl, hx⟩ | ⟨hne, ⟨rfl, hx⟩ | ⟨hnj, hx⟩⟩
    · rw [upd_self] at hb; cases hb
    · rw [upd_ne _ _ hne] at hb
      cases hx
      obtain ⟨⟨arr, f1⟩, f2⟩ := g.hp i T _ b h1 hb
      refine ⟨⟨arr, f1.there, f1.size, f1.le, fun q v hv => ?_⟩, f2⟩
      cases q with
      | zero =>
        simp at hv; subst hv
        exact .inr ⟨rfl, none, (fun x e => by cases e), f1.is 0 _ rfl⟩
      | succ q => simp at hv
    · rw [upd_ne _ _ hne] at hb
      obtain ⟨⟨arr, f1⟩, f2⟩ := g.hp i T2 cs b hx hb
      exact ⟨⟨arr, f1.there, f1.size, f1.le, fun q v hv => is_upd (fun hm => (awayP_hp h2 i T2 cs hx).2 (mentL_get hv hm)) (f1.is q v hv)⟩, f2⟩
  · rcases hlk i _ hi with ⟨rfl, hx⟩ | ⟨hne, ⟨rfl, hx⟩ | ⟨hnj, hx⟩⟩
    · cases hx; rfl
    · rw [upd_ne _ _ hne] at hb
      have := g.no i T _ h1 hb
      cases this
    · rw [upd_ne _ _ hne] at hb; exact g.no i T2 cs hx hb
  · obtain ⟨x, hx⟩ := Option.isSome_iff_exists.1 hi
    obtain ⟨x', hx'⟩ := Option.isSome_iff_exists.1 hi'
    have hne : i ≠ k := fun e => by subst e; rw [upd_self] at hb; cases hb
    have hne' : i' ≠ k := fun e => by subst e; rw [upd_self] at hb'; cases hb'
    rw [upd_ne _ _ hne] at hb
    rw [upd_ne _ _ hne'] at hb'
    exact g.inj i i' b b' (hsome i x hx hne) (hsome i' x' hx' hne') hb hb' e
  · simp only [lkH, lkH_upH]
    split
    · rfl
    · split
      · rename_i e; subst e; rw [h1]; rfl
      · exact g.fix i hi
  · rw [upd_ne _ _ fun e => awayP_fx h2 (by rw [← e]; exact hi)]; exact g.fx i hi
theorem BorV.isL {α : Type} {M : Mem} {H : Hp} {k n : Nat} {g : α → Value} {L : List α} {u : Value} {T : TypeId} (h : BorV M H (.slo k 0 n 1) u) (hk : lkH H k = some (T, cE g L)) (hn : n = L.length) : IsL M g u L := by
  subst hn
  have h1 := h T (L.map g) hk (by simp)
  have e : ((L.map g).drop 0).take (L.length * 1) = L.map g := by rw [List.drop_zero, List.take_of_length_le (by simp)]
  rw [e] at h1
  exact h1
section
variable {M : Mem} {K : AV → Hp → Mem → Prop}
/-- own arguments: a range -/
theorem rng_bor {f : FuncId} {k : Nat} {l : List Int} {T : TypeId} {H : Hp} (rest : List Value) (hp : pureH H) (hk : lkH H k = some (T, cE intV64 l))
    (h : ∀ u M', Mem.le M M' → IsL M' intV64 u l → CallS Try.prog f (.ext (rngV u) :: rest.map .ext) [] M' [] (BorK H M M' K)) : CallS Try.prog f (.ag false [.slo k 0 l.length 1] :: rest.map .ext) H M [] K := by
  refine CallS.bor hp fun us M' hM hb => ?_
  obtain ⟨x, r, rfl, ⟨ys, ⟨y, r2, rfl, h1, h2⟩, rfl⟩, h3⟩ := hb
  have h2 : r2 = [] := h2
  subst h2
  have h4 : ∀ (rest r : List Value), BorL M' H (rest.map .ext) r → r = rest := fun rest => by
    induction rest with
    | nil => intro r h; exact h
    | cons a t ih => intro r h; obtain ⟨b, r', rfl, h5, h6⟩ := h; rw [ih r' h6, show b = a from h5]
  rw [h4 rest r h3]
  exact h y M' hM (h1.isL hk rfl)
/-- nothing is turned -/
theorem BorK.same {H : Hp} {M M' : Mem} {v : AV} (hK : K v H M) : BorK H M M' K v [] M' := ⟨fun _ _ => rfl, fun M3 _ _ h => by rw [h rfl]; exact hK⟩
def plSt (M : Mem) (n i m : Nat) (L : List Int) : St := { env := [(4, .ext (.int .i64 (i : Int))), (3, .own 3 0), (2, .own 2 0), (0, .ext (.int .i64 (n : Int)))], hp := [(90, 3, cE intV64 L), (3, 24, [.slo 90 0 m 1]), (2, 24, [.ext (.slice none 0 0)])], M := M, kb := 0, fx := [] }
theorem repl_succ (i : Nat) : List.replicate (i + 1) (-1 : Int) = List.replicate i (-1) ++ [-1] := by rw [List.replicate_succ']
theorem plain_own (n : Nat) (hn : n ≤ 100) (hK : K (.ag false [.slo 90 0 n 1]) [(90, 3, cE intV64 (List.replicate n (-1)))] M) : CallS Try.prog 31 [.ext (.int .i64 (n : Int))] [] M [] K := by
  refine inlS (cs := []) Try.mixed Try.func31 rfl (by kernel_rfl) 0 rfl rfl ?_
  simp only [Try.f31]
  (first | replace hb0 := true_and True | have hb0 := true_and True); (try simp (config := { maxSteps := 1000000 }) only [hb0, ↓selV_true, ↓selV_false, ↓opAt_arr, ↓opAt_0, ↓opAt_S, dstO, ↓hold_pre, awayP, normL, normA, normG, normP, nilR, fieldR, addOb, loadH, storeH, zeroR, fldV, storeX, loadV, AV.ptr?, hold_eq, runOps, regK, step1, newK, tOp, put1, put2, pickV, binV, binW, intV, strV, boolV, nilV, unV1, unV, selV, extR, ev, evC, callR, bltR, genR, appR, srcA, lenR, lenV, minV, maxV, lk, lkH, upH, St.put, AV.val, unG, guardB, gslot, obl, loadR, storeR, oneC, allOne, vals, aggA, tupA, cellsA, cellsG, mkF, boxR, buildR, plT, buildSR, buildL, partC, plN, repN, makeR, fieldX, fieldO, idxR, idxA, indV, slcR, bndO, conV, AV.ment, mentL, mentE, mentH, hasK, AV.kill, killL, killE, killH, killEs, killHs, popTo, hasBlk, argEnv, Value.cells, subH, joinH, dropH, reachK, cellsK, mentO, newKeys, keysH, inB, closeK, keepH, outV, retK, ret1, retC, RetV, tupR, NewD.av, eqV, eqL, eqC, ↓reduceIte, Nat.reduceEqDiff, Nat.reduceBeqDiff, Nat.reduceAdd, Nat.reduceBEq, Nat.reduceLeDiff, Option.getD, reduceCtorEq, forall_const, implies_true, forall_eq_or_imp, forall_eq, eq_self, Int.reduceEq, Int.reduceNe, Int.reduceLT, Int.reduceLE, Int.reduceGT, Int.reduceGE, Int.reduceAdd, Int.reduceSub, Int.reduceMul, Int.reduceNeg, Int.reduceToNat, Nat.reduceSub, Nat.reduceMul, Nat.reduceLT, runD, keysOf, looksL, looksK, addrL, ptrK, disj, stepD, Op.operands, Call.operands, subE, subHp, keepLt, afterK, awayB, forgetD, beq_self_eq_true, vc.eq_14, cutO, marksOf, headId, undef, lookM_tup, sxB, sxTab]); repeat' ((first | ((with_reducible refine brv_mk (fun h => ?_) (fun h => ?_)) <;> replace hb0 := h) | ((with_reducible first | refine gsplitD (fun h => ?_) (fun h => ?_) | refine gsplitG (fun h => ?_) (fun h => ?_)) <;> (try simp only [Bool.not_eq_true', Bool.not_eq_false'] at h) <;> replace hb0 := h) | (refine And.intro ?ob ?_; case ob => ((try simp only [decide_eq_true_eq, decide_eq_false_iff_not, Bool.or_eq_true, Bool.or_eq_false_iff, Bool.and_eq_true, Bool.and_eq_false_iff, Bool.not_eq_true, ne_eq, Int.toNat_natCast, maxLen] at *); omega)) | fail) <;> (try simp (config := { maxSteps := 1000000 }) only [hb0, ↓selV_true, ↓selV_false, ↓opAt_arr, ↓opAt_0, ↓opAt_S, dstO, ↓hold_pre, awayP, normL, normA, normG, normP, nilR, fieldR, addOb, loadH, storeH, zeroR, fldV, storeX, loadV, AV.ptr?, hold_eq, runOps, regK, step1, newK, tOp, put1, put2, pickV, binV, binW, intV, strV, boolV, nilV, unV1, unV, selV, extR, ev, evC, callR, bltR, genR, appR, srcA, lenR, lenV, minV, maxV, lk, lkH, upH, St.put, AV.val, unG, guardB, gslot, obl, loadR, storeR, oneC, allOne, vals, aggA, tupA, cellsA, cellsG, mkF, boxR, buildR, plT, buildSR, buildL, partC, plN, repN, makeR, fieldX, fieldO, idxR, idxA, indV, slcR, bndO, conV, AV.ment, mentL, mentE, mentH, hasK, AV.kill, killL, killE, killH, killEs, killHs, popTo, hasBlk, argEnv, Value.cells, subH, joinH, dropH, reachK, cellsK, mentO, newKeys, keysH, inB, closeK, keepH, outV, retK, ret1, retC, RetV, tupR, NewD.av, eqV, eqL, eqC, ↓reduceIte, Nat.reduceEqDiff, Nat.reduceBeqDiff, Nat.reduceAdd, Nat.reduceBEq, Nat.reduceLeDiff, Option.getD, reduceCtorEq, forall_const, implies_true, forall_eq_or_imp, forall_eq, eq_self, Int.reduceEq, Int.reduceNe, Int.reduceLT, Int.reduceLE, Int.reduceGT, Int.reduceGE, Int.reduceAdd, Int.reduceSub, Int.reduceMul, Int.reduceNeg, Int.reduceToNat, Nat.reduceSub, Nat.reduceMul, Nat.reduceLT, runD, keysOf, looksL, looksK, addrL, ptrK, disj, stepD, Op.operands, Call.operands, subE, subHp, keepLt, afterK, awayB, forgetD, beq_self_eq_true, vc.eq_14, cutO, marksOf, headId, undef, lookM_tup, sxB, sxTab]))
  refine ⟨fun d z => ∃ i m, i ≤ n ∧ m = i ∧ d = n - i ∧ z = plSt M n i m (List.replicate i (-1)), ⟨n, plSt M n 0 0 [], (le_nilC 3 90 24 3 1 rfl (.inl rfl)).trans (le_sub ⟨rfl, rfl, rfl, rfl, trivial⟩ ⟨rfl, rfl, rfl, trivial⟩ rfl rfl rfl (keepLt0 _)), ⟨0, 0, by omega, rfl, by omega, rfl⟩⟩, ?_⟩
  rintro d z ⟨i, m, hi, hm, rfl, rfl⟩
  by_cases hlt : i < n
  · have d1 : decide ((i : Int) < (n : Int)) = true := by simp; omega
    have hw : IntKind.i64.wrap ((i : Int) + 1) = ((i + 1 : Nat) : Int) := by rw [wrap_id (by omega) (by omega)]; omega
    have hlen : (cE intV64 (List.replicate i (-1))).length = m := by rw [cE_len, List.length_replicate]; exact hm.symm
    have hsn : cE intV64 (List.replicate i (-1)) ++ [.ext (.int .i64 (-1))] = cE intV64 (List.replicate (i + 1) (-1)) := by
      rw [repl_succ]; exact cE_snoc intV64 _ (-1)
    have hkl : killL 90 (cE intV64 (List.replicate i (-1))) = cE intV64 (List.replicate i (-1)) := by
      unfold cE
      generalize (List.replicate i (-1)).map intV64 = vs
      induction vs with
      | nil => rfl
      | cons a t ih => simp only [List.map_cons, killL, AV.kill, ih]
    (first | replace hb0 := true_and True | have hb0 := true_and True); (try simp (config := { maxSteps := 1000000 }) only [hb0, d1, hw, hlen, hsn, cE_ment, hasK_nil, plSt, ↓selV_true, ↓selV_false, ↓opAt_arr, ↓opAt_0, ↓opAt_S, dstO, ↓hold_pre, awayP, normL, normA, normG, normP, nilR, fieldR, addOb, loadH, storeH, zeroR, fldV, storeX, loadV, AV.ptr?, hold_eq, runOps, regK, step1, newK, tOp, put1, put2, pickV, binV, binW, intV, strV, boolV, nilV, unV1, unV, selV, extR, ev, evC, callR, bltR, genR, appR, srcA, lenR, lenV, minV, maxV, lk, lkH, upH, St.put, AV.val, unG, guardB, gslot, obl, loadR, storeR, oneC, allOne, vals, aggA, tupA, cellsA, cellsG, mkF, boxR, buildR, plT, buildSR, buildL, partC, plN, repN, makeR, fieldX, fieldO, idxR, idxA, indV, slcR, bndO, conV, AV.ment, mentL, mentE, mentH, hasK, AV.kill, killL, killE, killH, killEs, killHs, popTo, hasBlk, argEnv, Value.cells, subH, joinH, dropH, reachK, cellsK, mentO, newKeys, keysH, inB, closeK, keepH, outV, retK, ret1, retC, RetV, tupR, NewD.av, eqV, eqL, eqC, ↓reduceIte, Nat.reduceEqDiff, Nat.reduceBeqDiff, Nat.reduceAdd, Nat.reduceBEq, Nat.reduceLeDiff, Option.getD, reduceCtorEq, forall_const, implies_true, forall_eq_or_imp, forall_eq, eq_self, Int.reduceEq, Int.reduceNe, Int.reduceLT, Int.reduceLE, Int.reduceGT, Int.reduceGE, Int.reduceAdd, Int.reduceSub, Int.reduceMul, Int.reduceNeg, Int.reduceToNat, Nat.reduceSub, Nat.reduceMul, Nat.reduceLT, runD, keysOf, looksL, looksK, addrL, ptrK, disj, stepD, Op.operands, Call.operands, subE, subHp, keepLt, afterK, awayB, forgetD, beq_self_eq_true, vc.eq_14, cutO, marksOf, headId, undef, lookM_tup, sxB, sxTab]); repeat' ((first | ((with_reducible refine brv_mk (fun h => ?_) (fun h => ?_)) <;> replace hb0 := h) | ((with_reducible first | refine gsplitD (fun h => ?_) (fun h => ?_) | refine gsplitG (fun h => ?_) (fun h => ?_)) <;> (try simp only [Bool.not_eq_true', Bool.not_eq_false'] at h) <;> replace hb0 := h) | (refine And.intro ?ob ?_; case ob => ((try simp only [decide_eq_true_eq, decide_eq_false_iff_not, Bool.or_eq_true, Bool.or_eq_false_iff, Bool.and_eq_true, Bool.and_eq_false_iff, Bool.not_eq_true, ne_eq, Int.toNat_natCast, maxLen] at *); omega)) | fail) <;> (try simp (config := { maxSteps := 1000000 }) only [hb0, d1, hw, hlen, hsn, cE_ment, hasK_nil, plSt, ↓selV_true, ↓selV_false, ↓opAt_arr, ↓opAt_0, ↓opAt_S, dstO, ↓hold_pre, awayP, normL, normA, normG, normP, nilR, fieldR, addOb, loadH, storeH, zeroR, fldV, storeX, loadV, AV.ptr?, hold_eq, runOps, regK, step1, newK, tOp, put1, put2, pickV, binV, binW, intV, strV, boolV, nilV, unV1, unV, selV, extR, ev, evC, callR, bltR, genR, appR, srcA, lenR, lenV, minV, maxV, lk, lkH, upH, St.put, AV.val, unG, guardB, gslot, obl, loadR, storeR, oneC, allOne, vals, aggA, tupA, cellsA, cellsG, mkF, boxR, buildR, plT, buildSR, buildL, partC, plN, repN, makeR, fieldX, fieldO, idxR, idxA, indV, slcR, bndO, conV, AV.ment, mentL, mentE, mentH, hasK, AV.kill, killL, killE, killH, killEs, killHs, popTo, hasBlk, argEnv, Value.cells, subH, joinH, dropH, reachK, cellsK, mentO, newKeys, keysH, inB, closeK, keepH, outV, retK, ret1, retC, RetV, tupR, NewD.av, eqV, eqL, eqC, ↓reduceIte, Nat.reduceEqDiff, Nat.reduceBeqDiff, Nat.reduceAdd, Nat.reduceBEq, Nat.reduceLeDiff, Option.getD, reduceCtorEq, forall_const, implies_true, forall_eq_or_imp, forall_eq, eq_self, Int.reduceEq, Int.reduceNe, Int.reduceLT, Int.reduceLE, Int.reduceGT, Int.reduceGE, Int.reduceAdd, Int.reduceSub, Int.reduceMul, Int.reduceNeg, Int.reduceToNat, Nat.reduceSub, Nat.reduceMul, Nat.reduceLT, runD, keysOf, looksL, looksK, addrL, ptrK, disj, stepD, Op.operands, Call.operands, subE, subHp, keepLt, afterK, awayB, forgetD, beq_self_eq_true, vc.eq_14, cutO, marksOf, headId, undef, lookM_tup, sxB, sxTab]))
    exact ⟨n - (i + 1), plSt M n (i + 1) (m + 1) (List.replicate (i + 1) (-1)), by omega, le_sub ⟨rfl, rfl, rfl, rfl, trivial⟩ ⟨rfl, rfl, rfl, trivial⟩ rfl rfl rfl (keepLt0 _), i + 1, m + 1, by omega, by omega, rfl, rfl⟩
  · have d1 : decide ((i : Int) < (n : Int)) = false := by simp; omega
    have ei : i = n := by omega
    subst ei
    subst hm
    (first | replace hb0 := true_and True | have hb0 := true_and True); (try simp (config := { maxSteps := 1000000 }) only [hb0, d1, cE_ment, hasK_nil, plSt, ↓selV_true, ↓selV_false, ↓opAt_arr, ↓opAt_0, ↓opAt_S, dstO, ↓hold_pre, awayP, normL, normA, normG, normP, nilR, fieldR, addOb, loadH, storeH, zeroR, fldV, storeX, loadV, AV.ptr?, hold_eq, runOps, regK, step1, newK, tOp, put1, put2, pickV, binV, binW, intV, strV, boolV, nilV, unV1, unV, selV, extR, ev, evC, callR, bltR, genR, appR, srcA, lenR, lenV, minV, maxV, lk, lkH, upH, St.put, AV.val, unG, guardB, gslot, obl, loadR, storeR, oneC, allOne, vals, aggA, tupA, cellsA, cellsG, mkF, boxR, buildR, plT, buildSR, buildL, partC, plN, repN, makeR, fieldX, fieldO, idxR, idxA, indV, slcR, bndO, conV, AV.ment, mentL, mentE, mentH, hasK, AV.kill, killL, killE, killH, killEs, killHs, popTo, hasBlk, argEnv, Value.cells, subH, joinH, dropH, reachK, cellsK, mentO, newKeys, keysH, inB, closeK, keepH, outV, retK, ret1, retC, RetV, tupR, NewD.av, eqV, eqL, eqC, ↓reduceIte, Nat.reduceEqDiff, Nat.reduceBeqDiff, Nat.reduceAdd, Nat.reduceBEq, Nat.reduceLeDiff, Option.getD, reduceCtorEq, forall_const, implies_true, forall_eq_or_imp, forall_eq, eq_self, Int.reduceEq, Int.reduceNe, Int.reduceLT, Int.reduceLE, Int.reduceGT, Int.reduceGE, Int.reduceAdd, Int.reduceSub, Int.reduceMul, Int.reduceNeg, Int.reduceToNat, Nat.reduceSub, Nat.reduceMul, Nat.reduceLT, runD, keysOf, looksL, looksK, addrL, ptrK, disj, stepD, Op.operands, Call.operands, subE, subHp, keepLt, afterK, awayB, forgetD, beq_self_eq_true, vc.eq_14, cutO, marksOf, headId, undef, lookM_tup, sxB, sxTab]); repeat' ((first | ((with_reducible refine brv_mk (fun h => ?_) (fun h => ?_)) <;> replace hb0 := h) | ((with_reducible first | refine gsplitD (fun h => ?_) (fun h => ?_) | refine gsplitG (fun h => ?_) (fun h => ?_)) <;> (try simp only [Bool.not_eq_true', Bool.not_eq_false'] at h) <;> replace hb0 := h) | (refine And.intro ?ob ?_; case ob => ((try simp only [decide_eq_true_eq, decide_eq_false_iff_not, Bool.or_eq_true, Bool.or_eq_false_iff, Bool.and_eq_true, Bool.and_eq_false_iff, Bool.not_eq_true, ne_eq, Int.toNat_natCast, maxLen] at *); omega)) | fail) <;> (try simp (config := { maxSteps := 1000000 }) only [hb0, d1, cE_ment, hasK_nil, plSt, ↓selV_true, ↓selV_false, ↓opAt_arr, ↓opAt_0, ↓opAt_S, dstO, ↓hold_pre, awayP, normL, normA, normG, normP, nilR, fieldR, addOb, loadH, storeH, zeroR, fldV, storeX, loadV, AV.ptr?, hold_eq, runOps, regK, step1, newK, tOp, put1, put2, pickV, binV, binW, intV, strV, boolV, nilV, unV1, unV, selV, extR, ev, evC, callR, bltR, genR, appR, srcA, lenR, lenV, minV, maxV, lk, lkH, upH, St.put, AV.val, unG, guardB, gslot, obl, loadR, storeR, oneC, allOne, vals, aggA, tupA, cellsA, cellsG, mkF, boxR, buildR, plT, buildSR, buildL, partC, plN, repN, makeR, fieldX, fieldO, idxR, idxA, indV, slcR, bndO, conV, AV.ment, mentL, mentE, mentH, hasK, AV.kill, killL, killE, killH, killEs, killHs, popTo, hasBlk, argEnv, Value.cells, subH, joinH, dropH, reachK, cellsK, mentO, newKeys, keysH, inB, closeK, keepH, outV, retK, ret1, retC, RetV, tupR, NewD.av, eqV, eqL, eqC, ↓reduceIte, Nat.reduceEqDiff, Nat.reduceBeqDiff, Nat.reduceAdd, Nat.reduceBEq, Nat.reduceLeDiff, Option.getD, reduceCtorEq, forall_const, implies_true, forall_eq_or_imp, forall_eq, eq_self, Int.reduceEq, Int.reduceNe, Int.reduceLT, Int.reduceLE, Int.reduceGT, Int.reduceGE, Int.reduceAdd, Int.reduceSub, Int.reduceMul, Int.reduceNeg, Int.reduceToNat, Nat.reduceSub, Nat.reduceMul, Nat.reduceLT, runD, keysOf, looksL, looksK, addrL, ptrK, disj, stepD, Op.operands, Call.operands, subE, subHp, keepLt, afterK, awayB, forgetD, beq_self_eq_true, vc.eq_14, cutO, marksOf, headId, undef, lookM_tup, sxB, sxTab]))
    exact hK
end
end Go.Proofs.Ytcaihadhpgkceaa.Sx
