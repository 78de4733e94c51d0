/- Part 37 of the texts of this claim: a symbolic executor and contracts of functions. -/
import Derived.Test.YtjapnklocibgaaaOLcRP3
namespace Go.Proofs.Ytjapnklocibgaaa.Sx
open Go Go.RowKit
set_option linter.unusedVariables false
set_option linter.unusedSimpArgs false
set_option maxRecDepth 100000
set_option maxHeartbeats 8000000
attribute [local congr] fin_congr finG_congr stepG_congr step1_congr runOps_congr brv_congr obl_congr condK_congr LoopK_congr seqK_congr CutK_congr vc_congr DrawK_congr regK_congr CallK_congr AskK_congr newK_congr retC_congr ret1_congr retK_congr outV_congr closeK_congr genR_congr appR_congr finD_congr finGD_congr stepGD_congr stepD_congr CallK0_congr runD_congr okR_congr CallS_congr vcX_congr
attribute [local congr] Stop_congr
section
variable {M : Mem} {K : AV → Hp → Mem → Prop}
def sameSt (M : Mem) (u1 u2 : Value) (i : Nat) : St := { env := [(5, .ext (.int .i64 (i : Int))), (4, .ext (.bool false)), (1, .ext u2), (0, .ext u1)], hp := [], M := M, kb := 0, fx := [] }
theorem sameInts_ok (u1 u2 : Value) (l1 l2 : List Int) (h1 : IsL M intV64 u1 l1) (h2 : IsL M intV64 u2 l2) (hb : l1.length < 1000000000) (hb2 : l2.length < 1000000000) (hK : K (.ext (.bool (decide (l1 = l2)))) [] M) : CallS Try.prog 23 [.ext u1, .ext u2] [] M [] K := by
  refine inlS (cs := []) Try.mixed Try.func23 rfl (by kernel_rfl) 0 rfl rfl ?_
  simp only [Try.f23]
  by_cases hl : l1.length = l2.length
  · have hl2 : decide ((l1.length : Int) = (l2.length : Int)) = true := by simp [hl]
    (replace hb0 := true_and True); refine Go1.mk ?_; repeat' ((first | (with_reducible refine Go1.go ?_) | ((with_reducible first | refine brv_mk ?_ ?_ | refine gsplitD ?_ ?_ | refine gsplitG ?_ ?_) <;> intro h <;> (try simp only [Bool.not_eq_true', Bool.not_eq_false'] at h) <;> replace hb0 := h) | ((with_reducible refine isDraw [some 17, some 18, some 19, some 20, some 21, some 22, some 23, some 24, some 25] (by decide) ?_); refine draw_rule [(0, []), (1, []), (2, []), (3, []), (4, [3]), (5, [3]), (6, [3]), (7, [3]), (8, [])] [[], [], [0, 1], [0, 1, 2], [], [], [4, 5], [4, 5, 6], [0, 1, 2, 3, 4, 5, 6, 7]] [17, 18, 19, 20, 21, 22, 23, 24] [] (by kernel_rfl) (by kernel_rfl) (by kernel_rfl) (by kernel_rfl) (by exact trivial) ?_) | (refine And.intro ?_ ?_; (try simp only [sxO] at *); omega) | fail) <;> (try simp (maxSteps := 1000000) only [hb0, h1.len, h1.sl, h2.len, h2.sl, hl2, ↓hold_pre, awayP, runOps, regK, step1, newK, genR, appR, obl, buildR, Value.cells, closeK, keepH, outV, retK, ret1, retC, RetV, Option.getD, runD, stepD, afterK, undef, simprocAttr, sxB, ↓sxD, sxE, sxTab]))
    refine ⟨fun m z => ∃ i, i ≤ l1.length ∧ l1.take i = l2.take i ∧ m = l1.length - i ∧ z = sameSt M u1 u2 i, ⟨l1.length, sameSt M u1 u2 0, le_sub ⟨rfl, rfl, rfl, rfl, trivial⟩ trivial rfl rfl rfl (keepLt0 _), ⟨0, by omega, rfl, rfl, rfl⟩⟩, ?_⟩
    rintro m z ⟨i, hi, hpre, rfl, rfl⟩
    by_cases hlt : i < l1.length
    · have hlt2 : i < l2.length := by omega
      have f1 := h1.idx (P := Try.prog) (T := 3) tk3 tz3 (by omega) hlt
      have f2 := h2.idx (P := Try.prog) (T := 3) tk3 tz3 (by omega) hlt2
      (replace hb0 := true_and True); refine Go1.mk ?_; repeat' ((first | (with_reducible refine Go1.go ?_) | ((with_reducible first | refine brv_mk ?_ ?_ | refine gsplitD ?_ ?_ | refine gsplitG ?_ ?_) <;> intro h <;> (try simp only [Bool.not_eq_true', Bool.not_eq_false'] at h) <;> replace hb0 := h) | ((with_reducible refine isDraw [some 17, some 18, some 19, some 20, some 21, some 22, some 23, some 24, some 25] (by decide) ?_); refine draw_rule [(0, []), (1, []), (2, []), (3, []), (4, [3]), (5, [3]), (6, [3]), (7, [3]), (8, [])] [[], [], [0, 1], [0, 1, 2], [], [], [4, 5], [4, 5, 6], [0, 1, 2, 3, 4, 5, 6, 7]] [17, 18, 19, 20, 21, 22, 23, 24] [] (by kernel_rfl) (by kernel_rfl) (by kernel_rfl) (by kernel_rfl) (by exact trivial) ?_) | (refine And.intro ?_ ?_; (try simp only [sxO] at *); omega) | fail) <;> (try simp (maxSteps := 1000000) only [hb0, f1, f2, intV64, sameSt, ↓hold_pre, awayP, runOps, regK, step1, newK, genR, appR, obl, buildR, Value.cells, closeK, keepH, outV, retK, ret1, retC, RetV, Option.getD, runD, stepD, afterK, undef, simprocAttr, sxB, ↓sxD, sxE, sxTab]))
      · have e : decide (l1 = l2) = false := by
          simp only [Bool.not_eq_true', decide_eq_false_iff_not] at h ⊢
          intro e; subst e; exact h rfl
        rw [e] at hK; exact hK
      · simp only [Bool.not_eq_false', decide_eq_true_eq] at h
        refine ⟨l1.length - (i + 1), sameSt M u1 u2 (i + 1), by omega, le_sub ⟨rfl, rfl, rfl, rfl, trivial⟩ trivial rfl rfl rfl (keepLt0 _), i + 1, by omega, ?_, rfl, rfl⟩
        rw [List.take_succ_eq_append_getElem hlt, List.take_succ_eq_append_getElem hlt2, hpre, h]
    · have f1 := h1.fin hlt
      have ei : i = l1.length := by omega
      subst ei
      rw [List.take_length, hl, List.take_length] at hpre
      have e : decide (l1 = l2) = true := by simp [hpre]
      rw [e] at hK
      (replace hb0 := true_and True); refine Go1.mk ?_; repeat' ((first | (with_reducible refine Go1.go ?_) | ((with_reducible first | refine brv_mk ?_ ?_ | refine gsplitD ?_ ?_ | refine gsplitG ?_ ?_) <;> intro h <;> (try simp only [Bool.not_eq_true', Bool.not_eq_false'] at h) <;> replace hb0 := h) | ((with_reducible refine isDraw [some 17, some 18, some 19, some 20, some 21, some 22, some 23, some 24, some 25] (by decide) ?_); refine draw_rule [(0, []), (1, []), (2, []), (3, []), (4, [3]), (5, [3]), (6, [3]), (7, [3]), (8, [])] [[], [], [0, 1], [0, 1, 2], [], [], [4, 5], [4, 5, 6], [0, 1, 2, 3, 4, 5, 6, 7]] [17, 18, 19, 20, 21, 22, 23, 24] [] (by kernel_rfl) (by kernel_rfl) (by kernel_rfl) (by kernel_rfl) (by exact trivial) ?_) | (refine And.intro ?_ ?_; (try simp only [sxO] at *); omega) | fail) <;> (try simp (maxSteps := 1000000) only [hb0, f1, sameSt, ↓hold_pre, awayP, runOps, regK, step1, newK, genR, appR, obl, buildR, Value.cells, closeK, keepH, outV, retK, ret1, retC, RetV, Option.getD, runD, stepD, afterK, undef, simprocAttr, sxB, ↓sxD, sxE, sxTab]))
      exact hK
  · have hl2 : decide ((l1.length : Int) = (l2.length : Int)) = false := by simp; omega
    have e : decide (l1 = l2) = false := by
      simp only [decide_eq_false_iff_not]
      intro e; subst e; exact hl rfl
    rw [e] at hK
    (replace hb0 := true_and True); refine Go1.mk ?_; repeat' ((first | (with_reducible refine Go1.go ?_) | ((with_reducible first | refine brv_mk ?_ ?_ | refine gsplitD ?_ ?_ | refine gsplitG ?_ ?_) <;> intro h <;> (try simp only [Bool.not_eq_true', Bool.not_eq_false'] at h) <;> replace hb0 := h) | ((with_reducible refine isDraw [some 17, some 18, some 19, some 20, some 21, some 22, some 23, some 24, some 25] (by decide) ?_); refine draw_rule [(0, []), (1, []), (2, []), (3, []), (4, [3]), (5, [3]), (6, [3]), (7, [3]), (8, [])] [[], [], [0, 1], [0, 1, 2], [], [], [4, 5], [4, 5, 6], [0, 1, 2, 3, 4, 5, 6, 7]] [17, 18, 19, 20, 21, 22, 23, 24] [] (by kernel_rfl) (by kernel_rfl) (by kernel_rfl) (by kernel_rfl) (by exact trivial) ?_) | (refine And.intro ?_ ?_; (try simp only [sxO] at *); omega) | fail) <;> (try simp (maxSteps := 1000000) only [hb0, h1.len, h1.sl, h2.len, h2.sl, hl2, ↓hold_pre, awayP, runOps, regK, step1, newK, genR, appR, obl, buildR, Value.cells, closeK, keepH, outV, retK, ret1, retC, RetV, Option.getD, runD, stepD, afterK, undef, simprocAttr, sxB, ↓sxD, sxE, sxTab]))
    exact hK
theorem IsL.nat {u : Value} {l : List Nat} (h : IsL M natV u l) : IsL M intV64 u (l.map fun (x : Nat) => (x : Int)) := by
  unfold IsL at h ⊢
  rw [List.map_map, List.length_map]
  exact h
theorem same_bor {k : Nat} {u : Value} {l1 l2 : List Int} {T : TypeId} {H : Hp} (hp : pureH H) (hk : lkH H k = some (T, cE intV64 l2)) {n : Nat} (hn : n = l2.length) (hu : IsL M intV64 u l1) (hb : l1.length < 1000000000) (hb2 : l2.length < 1000000000) (hK : K (.ext (.bool (decide (l1 = l2)))) H M) : CallS Try.prog 23 [.ext u, .slo k 0 n 1] H M [] K := by
  refine CallS.bor hp fun us M' hM hb' => ?_
  obtain ⟨_, _, rfl, rfl, v2, _, rfl, h2, rfl⟩ := hb'
  exact sameInts_ok _ v2 l1 l2 (hu.le hM) (h2.isL hk hn) hb hb2 (BorK.same hK)
theorem BorV.isI {M : Mem} {H : Hp} {k n : Nat} {L : List IR} {u : Value} {T : TypeId} (h : BorV M H (.slo k 0 n 5) u) (hk : lkH H k = some (T, irC L)) (hn : n = L.length) : IsR M 5 IR.c u L := by
  have hl := flat_len (z := 5) (f := IR.c) (fun _ => rfl) L
  have := h T (L.flatMap IR.c) hk (by omega)
  rw [List.drop_zero, List.take_of_length_le (by omega), hn] at this
  exact this
theorem oorder_bor (k n : Nat) (T : TypeId) {L : List IR} (hn : n = L.length) (hL : okIL M L) (hb : L.length < 1000000) (hK : ∀ v Z M', Mem.le M M' → ordS L Z → IsL M' natV v Z → K (.ext (.tuple #[v, .int .i64 (ordE L)])) [(k, T, irC L)] M') :
    CallS Try.prog 11 [.slo k 0 n 5] [(k, T, irC L)] M [] K := by
  refine CallS.bor ⟨⟨_, rfl⟩, trivial⟩ fun us M' hM hb' => ?_
  obtain ⟨v1, _, rfl, h1, rfl⟩ := hb'
  have g1 := h1.isI (L := L) (T := T) (by simp [lkH]) hn
  refine order_ok g1 (hL.le hM) hb fun v Z M2 a1 a2 a3 a4 => ?_
  exact ⟨fun j hj => rfl, fun M3 h5 h6 _ => hK v Z M3 h5 a2 (a3.move a4 h6)⟩
theorem oloss_bor (k n : Nat) (T : TypeId) {L : List IR} {v : Value} {o : List Int} (hn : n = L.length) (hL : okIL M L) (hb : L.length < 1000000) (hv : IsL M intV64 v o) (hb2 : o.length < 1000000) (hK : ∀ w1 w2 M', Mem.le M M' → IsL M' u32V w1 (ofN (losP L o).1) → IsL M' u32V w2 (ofN (losP L o).2) → K (.ext (.tuple #[.agg #[w1, w2], .int .i64 (errO L o)])) [(k, T, irC L)] M') :
    CallS Try.prog 12 [.slo k 0 n 5, .ext v] [(k, T, irC L)] M [] K := by
  refine CallS.bor ⟨⟨_, rfl⟩, trivial⟩ fun us M' hM hb' => ?_
  obtain ⟨v1, _, rfl, h1, v2, _, rfl, rfl, rfl⟩ := hb'
  have g1 := h1.isI (L := L) (T := T) (by simp [lkH]) hn
  refine oloss_ok g1 (hL.le hM) hb (hv.le hM) hb2 fun w1 w2 M2 a1 a2 a3 a4 a5 => ?_
  exact ⟨fun j hj => rfl, fun M3 h5 h6 _ => hK w1 w2 M3 h5 (a2.move a4 h6) (a3.move a5 h6)⟩
end
end Go.Proofs.Ytjapnklocibgaaa.Sx
namespace Go.Proofs.Ytjapnklocibgaaa.Sx
open Go
theorem ratC_pre {L : List IR} (hc : ∀ x ∈ L, chkI x = true) : PreO (ratC L) := by
  have pos : ∀ x, 0 < (itA L x).cost.toNat * valN (itA L x).l2 := fun x => by
    by_cases hx : x < L.length
    · rw [itA_in hx]
      have h := chkI_parts (hc _ (List.getElem_mem hx))
      exact Nat.mul_pos (by omega) (chkF_pos h.1)
    · have : itA L x = itD := by unfold itA; rw [List.getElem?_eq_none (by omega)]; rfl
      rw [this]; decide
  have h1 : PreO (fun x y => cmpN (valN (itA L y).l1 * ((itA L x).cost.toNat * valN (itA L x).l2)) (valN (itA L x).l1 * ((itA L y).cost.toNat * valN (itA L y).l2))) := ⟨fun x y => cmpN_anti _ _, fun x y z g1 g2 => by
    have px := pos x
    have py := pos y
    have pz := pos z
    rw [cmpN_le0] at g1 g2 ⊢
    generalize (itA L x).cost.toNat * valN (itA L x).l2 = kx at *
    generalize (itA L y).cost.toNat * valN (itA L y).l2 = ky at *
    generalize (itA L z).cost.toNat * valN (itA L z).l2 = kz at *
    generalize valN (itA L x).l1 = nx at *
    generalize valN (itA L y).l1 = ny at *
    generalize valN (itA L z).l1 = nz at *
    have q1 := Nat.mul_le_mul_right kz g1
    have q2 := Nat.mul_le_mul_right kx g2
    refine Nat.le_of_mul_le_mul_right (c := ky) ?_ py
    calc nz * kx * ky = nz * ky * kx := by rw [Nat.mul_right_comm]
      _ ≤ ny * kz * kx := q2
      _ = ny * kx * kz := by rw [Nat.mul_right_comm]
      _ ≤ nx * ky * kz := q1
      _ = nx * kz * ky := by rw [Nat.mul_right_comm]⟩
  exact h1.lex ((cmp_S.pre fun x => (itA L x).pk).lex (cmp_S.pre fun x => (itA L x).ts))
theorem ordS_one {L : List IR} {Z W : List Nat} (hc : chkIL L = true) (h : ordS L Z) (hW : W.Perm (List.range L.length)) (hs : W.Pairwise (ltS (ratC L))) : Z = W := by
  unfold ordS at h
  rw [if_pos hc] at h
  have hcc := hc
  unfold chkIL at hcc
  rw [Bool.and_eq_true] at hcc
  exact sorted_one (ratC_pre (List.all_eq_true.1 hcc.2)).cmp (h.1.trans hW.symm) h.2 hs
def knoL (w1 w2 w3 w4 w5 w6 : Value) : List IR := [⟨[112], [97], w1, w2, ofN 1, ofN 2, 4⟩, ⟨[112], [98], w3, w4, ofN 1, ofN 3, 1⟩, ⟨[112], [99], w5, w6, ofN 1, ofN 4, 2⟩]
theorem kno_chk (w1 w2 w3 w4 w5 w6 : Value) : chkIL (knoL w1 w2 w3 w4 w5 w6) = true := by
  have h1 : ofN 1 = [1] := ofN_u32 (by decide) (by decide)
  have h2 : ofN 2 = [2] := ofN_u32 (by decide) (by decide)
  have h3 : ofN 3 = [3] := ofN_u32 (by decide) (by decide)
  have h4 : ofN 4 = [4] := ofN_u32 (by decide) (by decide)
  have c2 : chkF [1] [2] = true := by decide +kernel
  have c3 : chkF [1] [3] = true := by decide +kernel
  have c4 : chkF [1] [4] = true := by decide +kernel
  simp [chkIL, knoL, chkI, h1, h2, h3, h4, c2, c3, c4]
theorem kno_ord {w1 w2 w3 w4 w5 w6 : Value} {Z : List Nat} (h : ordS (knoL w1 w2 w3 w4 w5 w6) Z) : Z = [1, 0, 2] := by
  refine ordS_one (kno_chk _ _ _ _ _ _) h (by show List.Perm [1, 0, 2] (List.range 3); decide) ?_
  have e1 : ratC (knoL w1 w2 w3 w4 w5 w6) 1 0 = -1 := by
    simp only [ratC, knoL, itA, List.getElem?_cons_succ, List.getElem?_cons_zero, Option.getD_some, valN_ofN]; decide
  have e2 : ratC (knoL w1 w2 w3 w4 w5 w6) 1 2 = -1 := by
    simp only [ratC, knoL, itA, List.getElem?_cons_succ, List.getElem?_cons_zero, Option.getD_some, valN_ofN]; decide
  have e3 : ratC (knoL w1 w2 w3 w4 w5 w6) 0 2 = -1 := by
    simp only [ratC, knoL, itA, List.getElem?_cons_succ, List.getElem?_cons_zero, Option.getD_some, valN_ofN]; decide
  simp [ltS, e1, e2, e3]
theorem kno_err (w1 w2 w3 w4 w5 w6 : Value) : errO (knoL w1 w2 w3 w4 w5 w6) [1, 0, 2] = 0 := by
  unfold errO
  rw [kno_chk, if_pos rfl]
  have : permB (knoL w1 w2 w3 w4 w5 w6).length [1, 0, 2] = true := by show permB 3 [1, 0, 2] = true; decide
  rw [this, if_pos rfl]
theorem exF_num {x y n d : Nat} (h0 : 0 < y) (hd : 0 < d) (h : x * d = n * y) (hg : Nat.gcd n d = 1) (h1 : n < 4294967296) (h2 : d < 4294967296) : exF x y = (0, n, d) := exF_eq h0 hd h hg (Nat.le_trans (ofN_len_le (k := 1) (by rw [show wN 1 = 4294967296 from rfl]; exact h1)) (by decide)) (Nat.le_trans (ofN_len_le (k := 1) (by rw [show wN 1 = 4294967296 from rfl]; exact h2)) (by decide))
theorem kno_los (w1 w2 w3 w4 w5 w6 : Value) : losP (knoL w1 w2 w3 w4 w5 w6) [1, 0, 2] = (55, 12) := by
  unfold losP
  rw [kno_err, if_pos rfl]
  have a1 : exF 1 3 = (0, 1, 3) := exF_num (by decide) (by decide) (by decide) (by decide) (by decide) (by decide)
  have a2 : exF 5 2 = (0, 5, 2) := exF_num (by decide) (by decide) (by decide) (by decide) (by decide) (by decide)
  have a3 : exF 7 4 = (0, 7, 4) := exF_num (by decide) (by decide) (by decide) (by decide) (by decide) (by decide)
  have b2 : exF 17 6 = (0, 17, 6) := exF_num (by decide) (by decide) (by decide) (by decide) (by decide) (by decide)
  have b3 : exF 110 24 = (0, 55, 12) := exF_num (by decide) (by decide) (by decide) (by decide) (by decide) (by decide)
  simp [losV, costA, knoL, itA, valN_ofN, a1, a2, a3, b2, b3]
end Go.Proofs.Ytjapnklocibgaaa.Sx
namespace Go.Proofs.Ytjapnklocibgaaa.Sx
open Go Go.RowKit
set_option linter.unusedVariables false
set_option linter.unusedSimpArgs false
set_option maxRecDepth 100000
set_option maxHeartbeats 8000000
attribute [local congr] fin_congr finG_congr stepG_congr step1_congr runOps_congr brv_congr obl_congr condK_congr LoopK_congr seqK_congr CutK_congr vc_congr DrawK_congr regK_congr CallK_congr AskK_congr newK_congr retC_congr ret1_congr retK_congr outV_congr closeK_congr genR_congr appR_congr finD_congr finGD_congr stepGD_congr stepD_congr CallK0_congr runD_congr okR_congr CallS_congr vcX_congr
attribute [local congr] Stop_congr
section
variable {M : Mem} {K : AV → Hp → Mem → Prop}
theorem kno_ok {M : Mem} {w1 w2 w3 w4 w5 w6 : Value} (h1 : IsL M u32V w1 (ofN 1)) (h2 : IsL M u32V w2 (ofN 2)) (h3 : IsL M u32V w3 (ofN 1)) (h4 : IsL M u32V w4 (ofN 3)) (h5 : IsL M u32V w5 (ofN 1)) (h6 : IsL M u32V w6 (ofN 4)) : okIL M (knoL w1 w2 w3 w4 w5 w6) := fun x hx => by
  unfold knoL at hx
  simp only [List.mem_cons, List.not_mem_nil, or_false] at hx
  rcases hx with rfl | rfl | rfl
  · exact (itOK_of [112] [97] 4 h1 h2 (by decide) (by decide) (by decide) (by decide) (by decide) (by decide)).ok
  · exact (itOK_of [112] [98] 1 h3 h4 (by decide) (by decide) (by decide) (by decide) (by decide) (by decide)).ok
  · exact (itOK_of [112] [99] 2 h5 h6 (by decide) (by decide) (by decide) (by decide) (by decide) (by decide)).ok
theorem same102_ok (k : Nat) (T : TypeId) {v : Value} (hv : IsL M intV64 v [1, 0, 2]) (hK : K (.ext (.bool true)) [(k, T, [.ext (.int .i64 1), .ext (.int .i64 0), .ext (.int .i64 2)])] M) : CallS Try.prog 23 [.ext v, .slo k 0 3 1] [(k, T, [.ext (.int .i64 1), .ext (.int .i64 0), .ext (.int .i64 2)])] M [] K :=
  same_bor (H := [(k, T, [.ext (.int .i64 1), .ext (.int .i64 0), .ext (.int .i64 2)])]) (l1 := [1, 0, 2]) (l2 := [1, 0, 2]) (T := T) ⟨⟨[.int .i64 1, .int .i64 0, .int .i64 2], rfl⟩, trivial⟩ (by simp [lkH, cE, intV64]) rfl hv (by show 3 < 1000000000; decide) (by show 3 < 1000000000; decide) (by rw [decide_eq_true rfl]; exact hK)
theorem known29_ok (hK : ∀ M', Mem.le M M' → K (.ext (.bool true)) [] M') : CallS Try.prog 15 [] [] M [] K := by
  refine inlS (cs := []) Try.mixed Try.func15 rfl (by kernel_rfl) 0 rfl rfl ?_
  simp only [Try.f15]
  refine Go1.mk ?_; repeat' ((first | (with_reducible refine Go1.go ?_) | (((with_reducible refine isCall (f := 19) ?_); refine callA_nil (by kernel_rfl) ?_; refine (item_ok [97] 1 2 4 (by decide) (by decide) (by decide) (fun w1 w2 M1 a1 a2 a3 _ _ => Stop.mk ?_)))) | (refine And.intro ?_ ?_; (try simp only [sxO] at *); omega) | fail) <;> (try simp (maxSteps := 1000000) only [bs_mk, bs_app, bs_ext, bs_size, bs_toList, bs_at, bs_cells, List.take_length, imp_ga, guard_pk, guard_pk2, ↓hold_pre, awayP, runOps, regK, step1, newK, genR, appR, obl, buildR, Value.cells, closeK, keepH, outV, retK, ret1, retC, RetV, Option.getD, runD, stepD, afterK, undef, simprocAttr, sxB, ↓sxD, sxE, sxTab]))
  have a1 : Mem.le M M1 := a1
  have a2 : IsL M1 u32V w1 (ofN 1) := a2
  have a3 : IsL M1 u32V w2 (ofN 2) := a3
  refine Stop.go ?_
  refine Go1.mk ?_; repeat' ((first | (with_reducible refine Go1.go ?_) | (((with_reducible refine isCall (f := 19) ?_); refine callA_nil (by kernel_rfl) ?_; refine (item_ok [98] 1 3 1 (by decide) (by decide) (by decide) (fun w3 w4 M2 b1 b2 b3 _ _ => Stop.mk ?_)))) | (refine And.intro ?_ ?_; (try simp only [sxO] at *); omega) | fail) <;> (try simp (maxSteps := 1000000) only [a2.one, a3.one, bs_mk, bs_app, bs_ext, bs_size, bs_toList, bs_at, bs_cells, List.take_length, imp_ga, guard_pk, guard_pk2, ↓hold_pre, awayP, runOps, regK, step1, newK, genR, appR, obl, buildR, Value.cells, closeK, keepH, outV, retK, ret1, retC, RetV, Option.getD, runD, stepD, afterK, undef, simprocAttr, sxB, ↓sxD, sxE, sxTab]))
  have b1 : Mem.le M1 M2 := b1
  have b2 : IsL M2 u32V w3 (ofN 1) := b2
  have b3 : IsL M2 u32V w4 (ofN 3) := b3
  refine Stop.go ?_
  refine Go1.mk ?_; repeat' ((first | (with_reducible refine Go1.go ?_) | (((with_reducible refine isCall (f := 19) ?_); refine callA_nil (by kernel_rfl) ?_; refine (item_ok [99] 1 4 2 (by decide) (by decide) (by decide) (fun w5 w6 M3 c1 c2 c3 _ _ => Stop.mk ?_)))) | (refine And.intro ?_ ?_; (try simp only [sxO] at *); omega) | fail) <;> (try simp (maxSteps := 1000000) only [a2.one, a3.one, b2.one, b3.one, bs_mk, bs_app, bs_ext, bs_size, bs_toList, bs_at, bs_cells, List.take_length, imp_ga, guard_pk, guard_pk2, ↓hold_pre, awayP, runOps, regK, step1, newK, genR, appR, obl, buildR, Value.cells, closeK, keepH, outV, retK, ret1, retC, RetV, Option.getD, runD, stepD, afterK, undef, simprocAttr, sxB, ↓sxD, sxE, sxTab]))
  have c1 : Mem.le M2 M3 := c1
  have c2 : IsL M3 u32V w5 (ofN 1) := c2
  have c3 : IsL M3 u32V w6 (ofN 4) := c3
  have hok := kno_ok ((a2.le b1).le c1) ((a3.le b1).le c1) (b2.le c1) (b3.le c1) c2 c3
  refine Stop.go ?_
  refine Go1.mk ?_; repeat' ((first | (with_reducible refine Go1.go ?_) | ((with_reducible refine isCall (f := 11) ?_); refine callA ?_) | ((with_reducible refine isCallS (f := 11) ?_); refine (oorder_bor 9 3 _ (L := knoL w1 w2 w3 w4 w5 w6) rfl hok (by show 3 < 1000000; decide) (fun v Z M4 d1 d2 d3 => Stop.mk ?_))) | (refine And.intro ?_ ?_; (try simp only [sxO] at *); omega) | fail) <;> (try simp (maxSteps := 1000000) only [a2.one, a3.one, b2.one, b3.one, c2.one, c3.one, bs_mk, bs_app, bs_ext, bs_size, bs_toList, bs_at, bs_cells, List.take_length, imp_ga, guard_pk, guard_pk2, ↓hold_pre, awayP, runOps, regK, step1, newK, genR, appR, obl, buildR, Value.cells, closeK, keepH, outV, retK, ret1, retC, RetV, Option.getD, runD, stepD, afterK, undef, simprocAttr, sxB, ↓sxD, sxE, sxTab]))
  have d1 : Mem.le M3 M4 := d1
  obtain rfl := kno_ord d2
  have hE : ordE (knoL w1 w2 w3 w4 w5 w6) = 0 := by unfold ordE; rw [kno_chk, if_pos rfl]
  have d4 := d3.nat
  have d5 : IsL M4 intV64 v [1, 0, 2] := d4
  have hok2 := hok.le d1
  have hkm := irC_ment (knoL w1 w2 w3 w4 w5 w6)
  have hkk := fun k => irC_kill k (knoL w1 w2 w3 w4 w5 w6)
  have hEe := kno_err w1 w2 w3 w4 w5 w6
  have hM4 := ((a1.trans b1).trans c1).trans d1
  refine Stop.go ?_
  refine Go1.mk ?_; repeat' ((first | (with_reducible refine Go1.go ?_) | ((with_reducible refine isCall (f := 12) ?_); refine callA ?_) | ((with_reducible refine isCallS (f := 12) ?_); refine (oloss_bor 9 3 _ (L := knoL w1 w2 w3 w4 w5 w6) (o := [1, 0, 2]) rfl hok2 (by show 3 < 1000000; decide) d5 (by show 3 < 1000000; decide) (fun v1 v2 M5 e1 e2 e3 => Stop.mk ?_))) | (refine And.intro ?_ ?_; (try simp only [sxO] at *); omega) | fail) <;> (try simp (maxSteps := 1000000) only [hE, d5.one, irC_ment, irC_kill, hasK_nil, bs_mk, bs_app, bs_ext, bs_size, bs_toList, bs_at, bs_cells, List.take_length, imp_ga, guard_pk, guard_pk2, ↓hold_pre, awayP, runOps, regK, step1, newK, genR, appR, obl, buildR, Value.cells, closeK, keepH, outV, retK, ret1, retC, RetV, Option.getD, runD, stepD, afterK, undef, simprocAttr, sxB, ↓sxD, sxE, sxTab]))
  have e1 : Mem.le M4 M5 := e1
  rw [kno_los] at e2 e3
  have d6 := d5.le e1
  refine Stop.go ?_
  refine Go1.mk ?_; repeat' ((first | (with_reducible refine Go1.go ?_) | ((with_reducible refine isCall0 (f := 23) ?_); refine callA0 ?_) | ((with_reducible refine isCallS (f := 23) ?_); refine (same102_ok 29 _ d6 ?_)) | (((with_reducible refine isCall0 (f := 22) ?_); refine callA0_nil (by kernel_rfl) ?_; refine (sml_ok 55 12 (by decide) (by decide) (by decide) (fun w7 w8 M6 f1 f2 f3 _ _ => Stop.mk ?_)))) | ((with_reducible refine isDraw [some 21, some 22, some 23, some 24, some 25, some 26, some 27, some 28, some 29, some 30, some 31, some 32, some 33, some 34, some 35, some 36, some 0] (by decide) ?_); refine draw_rule [(0, []), (1, []), (2, []), (3, []), (4, []), (5, []), (6, []), (7, []), (8, []), (9, []), (10, []), (11, []), (12, []), (13, [12]), (14, []), (15, []), (16, [])] [[], [0], [0, 1], [0, 1, 2], [0, 1, 2, 3], [0, 1, 2, 3, 4], [0, 1, 2, 3, 4, 5], [0, 1, 2, 3, 4, 5, 6], [0, 1, 2, 3, 4, 5, 6], [0, 1, 2, 3, 4, 5, 6, 7, 8], [0, 1, 2, 3, 4, 5, 6, 7, 8, 9], [0, 1, 2, 3, 4, 5, 6, 7, 8, 9, 10], [0, 1, 2, 3, 4, 5, 6, 7, 8, 9, 10, 11], [0, 1, 2, 3, 4, 5, 6, 7, 8, 9, 10, 11], [0, 1, 2, 3, 4, 5, 6, 7, 8, 9, 10, 11, 12, 13], [0, 1, 2, 3, 4, 5, 6, 7, 8, 9, 10, 11, 12, 13, 14], [0, 1, 2, 3, 4, 5, 6, 7, 8, 9, 10, 11, 12, 13, 14, 15]] [28, 29, 33, 34] [] (by kernel_rfl) (by kernel_rfl) (by kernel_rfl) (by kernel_rfl) (by exact trivial) ?_) | (refine And.intro ?_ ?_; (try simp only [sxO] at *); omega) | fail) <;> (try simp (maxSteps := 1000000) only [hE, hEe, d6.one, e2.one, e3.one, irC_ment, irC_kill, hasK_nil, bs_mk, bs_app, bs_ext, bs_size, bs_toList, bs_at, bs_cells, List.take_length, imp_ga, guard_pk, guard_pk2, ↓hold_pre, awayP, runOps, regK, step1, newK, genR, appR, obl, buildR, Value.cells, closeK, keepH, outV, retK, ret1, retC, RetV, Option.getD, runD, stepD, afterK, undef, simprocAttr, sxB, ↓sxD, sxE, sxTab]))
  have f1 : Mem.le M5 M6 := f1
  have f2 : IsL M6 u32V w7 (ofN 55) := f2
  have f3 : IsL M6 u32V w8 (ofN 12) := f3
  have hk := hK M6 ((hM4.trans e1).trans f1)
  have e2 := e2.le f1
  have e3 := e3.le f1
  have l55 : (ofN 55).length < 1000000000 := by rw [ofN_u32 (by decide) (by decide)]; decide
  have l12 : (ofN 12).length < 1000000000 := by rw [ofN_u32 (by decide) (by decide)]; decide
  refine Stop.go ?_
  refine Go1.mk ?_; repeat' ((first | (with_reducible refine Go1.go ?_) | (((with_reducible refine isCall0 (f := 33) ?_); refine callA0_nil (by kernel_rfl) ?_; refine (sameFrac_ok e2 e3 f2 f3 l55 l12 ?_))) | ((with_reducible refine isDraw [some 21, some 22, some 23, some 24, some 25, some 26, some 27, some 28, some 29, some 30, some 31, some 32, some 33, some 34, some 35, some 36, some 0] (by decide) ?_); refine draw_rule [(0, []), (1, []), (2, []), (3, []), (4, []), (5, []), (6, []), (7, []), (8, []), (9, []), (10, []), (11, []), (12, []), (13, [12]), (14, []), (15, []), (16, [])] [[], [0], [0, 1], [0, 1, 2], [0, 1, 2, 3], [0, 1, 2, 3, 4], [0, 1, 2, 3, 4, 5], [0, 1, 2, 3, 4, 5, 6], [0, 1, 2, 3, 4, 5, 6], [0, 1, 2, 3, 4, 5, 6, 7, 8], [0, 1, 2, 3, 4, 5, 6, 7, 8, 9], [0, 1, 2, 3, 4, 5, 6, 7, 8, 9, 10], [0, 1, 2, 3, 4, 5, 6, 7, 8, 9, 10, 11], [0, 1, 2, 3, 4, 5, 6, 7, 8, 9, 10, 11], [0, 1, 2, 3, 4, 5, 6, 7, 8, 9, 10, 11, 12, 13], [0, 1, 2, 3, 4, 5, 6, 7, 8, 9, 10, 11, 12, 13, 14], [0, 1, 2, 3, 4, 5, 6, 7, 8, 9, 10, 11, 12, 13, 14, 15]] [28, 29, 33, 34] [] (by kernel_rfl) (by kernel_rfl) (by kernel_rfl) (by kernel_rfl) (by exact trivial) ?_) | (refine And.intro ?_ ?_; (try simp only [sxO] at *); omega) | fail) <;> (try simp (maxSteps := 1000000) only [e2.one, e3.one, f2.one, f3.one, irC_ment, irC_kill, hasK_nil, bs_mk, bs_app, bs_ext, bs_size, bs_toList, bs_at, bs_cells, List.take_length, imp_ga, guard_pk, guard_pk2, ↓hold_pre, awayP, runOps, regK, step1, newK, genR, appR, obl, buildR, Value.cells, closeK, keepH, outV, retK, ret1, retC, RetV, Option.getD, runD, stepD, afterK, undef, simprocAttr, sxB, ↓sxD, sxE, sxTab]))
  exact hk
end
end Go.Proofs.Ytjapnklocibgaaa.Sx
namespace Go.Proofs.Ytjapnklocibgaaa.Sx
open Go Go.RowKit
set_option linter.unusedVariables false
set_option linter.unusedSimpArgs false
set_option maxRecDepth 100000
set_option maxHeartbeats 8000000
attribute [local congr] fin_congr finG_congr stepG_congr step1_congr runOps_congr brv_congr obl_congr condK_congr LoopK_congr seqK_congr CutK_congr vc_congr DrawK_congr regK_congr CallK_congr AskK_congr newK_congr retC_congr ret1_congr retK_congr outV_congr closeK_congr genR_congr appR_congr finD_congr finGD_congr stepGD_congr stepD_congr CallK0_congr runD_congr okR_congr CallS_congr vcX_congr
attribute [local congr] Stop_congr
section
variable {M : Mem} {K : AV → Hp → Mem → Prop}
theorem one31a_ok (u : Value) (l : List Int) (p : Nat) (L : List Bst) (hL : L.length = 4) (hu : IsL M intV64 u l) (hp : p < 1000000) (hK : ∀ x ∈ L, K (.ext (.string (bs x))) [(31, 25, [.ext u, .ext (.int .i64 ((p + 1 : Nat) : Int))]), (49, 9, cE sbV L)] M) :
    CallS Try.prog 34 [.own 31 0, .slo 49 0 4 1] [(49, 9, cE sbV L), (31, 25, [.ext u, .ext (.int .i64 ((p : Nat) : Int))])] M [] K := by
  refine inlS (cs := []) Try.mixed Try.func34 rfl (by kernel_rfl) 50 rfl rfl ?_
  simp only [Try.f34]
  refine Go1.mk ?_; repeat' ((first | (with_reducible refine Go1.go ?_) | ((with_reducible refine isCall (f := 18) ?_); refine callA ?_) | ((with_reducible refine isCallS (f := 18) ?_); refine (nextI_ok 31 u l p 4 hu (by omega) (by omega) (by omega) (fun x hx0 hx1 => Stop.mk ?_))) | (refine And.intro ?_ ?_; (try simp only [sxO] at *); omega) | fail) <;> (try simp (maxSteps := 1000000) only [cE_ment, cE_len, cE_kill, hasK_nil, Nat.mul_one, hu.one, bs_mk, bs_app, bs_ext, bs_size, bs_toList, bs_at, bs_cells, List.take_length, imp_ga, guard_pk, guard_pk2, ↓hold_pre, awayP, runOps, regK, step1, newK, genR, appR, obl, buildR, Value.cells, closeK, keepH, outV, retK, ret1, retC, RetV, Option.getD, runD, stepD, afterK, undef, simprocAttr, sxB, ↓sxD, sxE, sxTab]))
  obtain ⟨j, rfl⟩ := Int.eq_ofNat_of_zero_le hx0
  have hj : j < L.length := by omega
  have hat := cE_at sbV hj
  have hm : L[j] ∈ L := List.getElem_mem hj
  have a1 : (0 : Int) ≤ (j : Int) := by omega
  have a2 : (j : Int) < 4 := by omega
  have a3 : (j : Int) < ((4 : Nat) : Int) := by omega
  generalize L[j] = y at *
  refine Stop.go ?_
  refine Go1.mk ?_; repeat' ((first | (with_reducible refine Go1.go ?_) | (refine And.intro ?_ ?_; (try simp only [sxO] at *); omega) | fail) <;> (try simp (maxSteps := 1000000) only [cE_ment, cE_len, cE_kill, hasK_nil, Nat.mul_one, hu.one, hat, a1, a2, a3, sbV, bs_mk, bs_app, bs_ext, bs_size, bs_toList, bs_at, bs_cells, List.take_length, imp_ga, guard_pk, guard_pk2, ↓hold_pre, awayP, runOps, regK, step1, newK, genR, appR, obl, buildR, Value.cells, closeK, keepH, outV, retK, ret1, retC, RetV, Option.getD, runD, stepD, afterK, undef, simprocAttr, sxB, ↓sxD, sxE, sxTab]))
  exact hK _ hm
theorem one31b_ok (u : Value) (l : List Int) (p : Nat) (L : List Bst) (hL : L.length = 2) (hu : IsL M intV64 u l) (hp : p < 1000000) (hK : ∀ x ∈ L, K (.ext (.string (bs x))) [(31, 25, [.ext u, .ext (.int .i64 ((p + 1 : Nat) : Int))]), (61, 9, cE sbV L)] M) :
    CallS Try.prog 34 [.own 31 0, .slo 61 0 2 1] [(61, 9, cE sbV L), (31, 25, [.ext u, .ext (.int .i64 ((p : Nat) : Int))])] M [] K := by
  refine inlS (cs := []) Try.mixed Try.func34 rfl (by kernel_rfl) 62 rfl rfl ?_
  simp only [Try.f34]
  refine Go1.mk ?_; repeat' ((first | (with_reducible refine Go1.go ?_) | ((with_reducible refine isCall (f := 18) ?_); refine callA ?_) | ((with_reducible refine isCallS (f := 18) ?_); refine (nextI_ok 31 u l p 2 hu (by omega) (by omega) (by omega) (fun x hx0 hx1 => Stop.mk ?_))) | (refine And.intro ?_ ?_; (try simp only [sxO] at *); omega) | fail) <;> (try simp (maxSteps := 1000000) only [cE_ment, cE_len, cE_kill, hasK_nil, Nat.mul_one, hu.one, bs_mk, bs_app, bs_ext, bs_size, bs_toList, bs_at, bs_cells, List.take_length, imp_ga, guard_pk, guard_pk2, ↓hold_pre, awayP, runOps, regK, step1, newK, genR, appR, obl, buildR, Value.cells, closeK, keepH, outV, retK, ret1, retC, RetV, Option.getD, runD, stepD, afterK, undef, simprocAttr, sxB, ↓sxD, sxE, sxTab]))
  obtain ⟨j, rfl⟩ := Int.eq_ofNat_of_zero_le hx0
  have hj : j < L.length := by omega
  have hat := cE_at sbV hj
  have hm : L[j] ∈ L := List.getElem_mem hj
  have a1 : (0 : Int) ≤ (j : Int) := by omega
  have a2 : (j : Int) < 2 := by omega
  have a3 : (j : Int) < ((2 : Nat) : Int) := by omega
  generalize L[j] = y at *
  refine Stop.go ?_
  refine Go1.mk ?_; repeat' ((first | (with_reducible refine Go1.go ?_) | (refine And.intro ?_ ?_; (try simp only [sxO] at *); omega) | fail) <;> (try simp (maxSteps := 1000000) only [cE_ment, cE_len, cE_kill, hasK_nil, Nat.mul_one, hu.one, hat, a1, a2, a3, sbV, bs_mk, bs_app, bs_ext, bs_size, bs_toList, bs_at, bs_cells, List.take_length, imp_ga, guard_pk, guard_pk2, ↓hold_pre, awayP, runOps, regK, step1, newK, genR, appR, obl, buildR, Value.cells, closeK, keepH, outV, retK, ret1, retC, RetV, Option.getD, runD, stepD, afterK, undef, simprocAttr, sxB, ↓sxD, sxE, sxTab]))
  exact hK _ hm
theorem FrzF.keep5 {K : AV → Hp → Mem → Prop} {H H2 : Hp} {M' : Mem} {k n : Nat} {T : TypeId} (cs : List Value) (h1 : lkH H k = none) (h2 : cs.length = n * 5) (h3 : hasK k (mentH H2) = false) (h4 : lkH H2 k = none) (h : ∀ u M'', Mem.le M' M'' → SlM M'' 5 u n cs → FreshS M' u → K (.ext u) H2 M'') : FrzF K H (.slo k 0 n 5) ((k, T, cs.map .ext) :: H2) M' :=
  .inr ⟨none, [], [], k, n, 5, T, cs, H2, rfl, rfl, h4, h1, h2, by simpa [mentL] using h3, h⟩
def itSt31 (M : Mem) (u : Value) (p n m : Nat) (L : List IR) : St := { env := [(6, .ext (.int .i64 (n : Int))), (5, .slo 37 0 m 5), (4, .ext (.slice none 0 0)), (0, .own 31 0)], hp := [(37, 46, irC L), (31, 25, [.ext u, .ext (.int .i64 ((p : Nat) : Int))])], M := M, kb := 32, fx := [31] }
def icSt31 (M : Mem) (u : Value) (p n m : Nat) (L : List IR) (x : IR) : St := { env := [(7, .own 39 0), (6, .ext (.int .i64 (n : Int))), (5, .slo 37 0 m 5), (4, .ext (.slice none 0 0)), (0, .own 31 0)], hp := [(39, 46, [.ext (.string (bs x.pk)), .ext (.string (bs x.ts)), .ext x.u1, .ext x.u2, .ext (.int .i64 x.cost)]), (37, 46, irC L), (31, 25, [.ext u, .ext (.int .i64 ((p : Nat) : Int))])], M := M, kb := 32, fx := [31] }
theorem items31_ok (u : Value) (l : List Int) (p most : Nat) (hu : IsL M intV64 u l) (hp : p < 100000) (hm : most < 100) (hK : ∀ v L M' p', Mem.le M M' → IsR M' 5 IR.c v L → (∀ x ∈ L, ItOK M' x) → FreshS M v → L.length ≤ most → p' ≤ p + 1000 → K (.ext v) [(31, 25, [.ext u, .ext (.int .i64 ((p' : Nat) : Int))])] M') :
    CallS Try.prog 10 [.own 31 0, .ext (.int .i64 (most : Int))] [(31, 25, [.ext u, .ext (.int .i64 ((p : Nat) : Int))])] M [] K := by
  refine CallS.frzF ?_
  refine inlS (cs := [12]) Try.mixed Try.func10 rfl (by kernel_rfl) 32 rfl rfl ?_
  simp only [Try.f10]
  have w0 : IntKind.i64.wrap ((most : Int) + 1) = ((most + 1 : Nat) : Int) := succ_i (by omega)
  refine Go1.mk ?_; repeat' ((first | (with_reducible refine Go1.go ?_) | ((with_reducible refine isCall (f := 18) ?_); refine callA ?_) | ((with_reducible refine isCallS (f := 18) ?_); refine (nextI_ok 31 u l p ((most + 1 : Nat) : Int) hu (by omega) (by omega) (by omega) (fun x hx0 hx1 => Stop.mk ?_))) | (refine And.intro ?_ ?_; (try simp only [sxO] at *); omega) | fail) <;> (try simp (maxSteps := 1000000) only [w0, irC_ment, irC_kill, hasK_nil, hu.one, bs_mk, bs_app, bs_ext, bs_size, bs_toList, bs_at, bs_cells, List.take_length, imp_ga, guard_pk, guard_pk2, ↓hold_pre, awayP, runOps, regK, step1, newK, genR, appR, obl, buildR, Value.cells, closeK, keepH, outV, retK, ret1, retC, RetV, Option.getD, runD, stepD, afterK, undef, simprocAttr, sxB, ↓sxD, sxE, sxTab]))
  obtain ⟨N, rfl⟩ := Int.eq_ofNat_of_zero_le hx0
  have hN : N ≤ most := by omega
  clear w0
  refine Stop.go ?_
  refine Go1.mk ?_; repeat' ((first | (with_reducible refine Go1.go ?_) | (refine And.intro ?_ ?_; (try simp only [sxO] at *); omega) | fail) <;> (try simp (maxSteps := 1000000) only [hasK_nil, irC_ment, irC_kill, hasK_nil, hu.one, bs_mk, bs_app, bs_ext, bs_size, bs_toList, bs_at, bs_cells, List.take_length, imp_ga, guard_pk, guard_pk2, ↓hold_pre, awayP, runOps, regK, step1, newK, genR, appR, obl, buildR, Value.cells, closeK, keepH, outV, retK, ret1, retC, RetV, Option.getD, runD, stepD, afterK, undef, simprocAttr, sxB, ↓sxD, sxE, sxTab]))
  refine ⟨fun d z => ∃ M' L p' n, d = n ∧ Mem.le M M' ∧ (∀ x ∈ L, ItOK M' x) ∧ L.length + n = N ∧ p' + 9 * n ≤ p + 1 + 9 * N ∧ z = itSt31 M' u p' n L.length L,
    ⟨N, itSt31 M u (p + 1) N 0 [], (le_nil 5 37 46 5 rfl (.inl (by simp [awayB, mentE, mentH, mentL, AV.ment, hasK]))).trans (le_sub ⟨rfl, rfl, rfl, rfl, trivial⟩ ⟨by simp [lkH, itSt31, irC], by simp [lkH, itSt31], trivial⟩ rfl rfl rfl (by simp [keepLt, itSt31, lkH])), ⟨M, [], p + 1, N, rfl, Mem.le.refl _, by simp, by simp, by omega, rfl⟩⟩, ?_⟩
  clear hx0 hx1
  rintro n z ⟨M1, L, p', n', rfl, hM, hL, hLn, hpn, rfl⟩
  have hu1 := hu.le hM
  have hcl : (irC L).length = L.length * 5 := irC_len L
  rcases Nat.eq_zero_or_pos n with rfl | hn0
  · have d1 : decide ((0 : Int) < ((0 : Nat) : Int)) = false := by decide
    refine Go1.mk ?_; repeat' ((first | (with_reducible refine Go1.go ?_) | (refine And.intro ?_ ?_; (try simp only [sxO] at *); omega) | fail) <;> (try simp (maxSteps := 1000000) only [itSt31, d1, irC_ment, irC_kill, hasK_nil, hu.one, bs_mk, bs_app, bs_ext, bs_size, bs_toList, bs_at, bs_cells, List.take_length, imp_ga, guard_pk, guard_pk2, ↓hold_pre, awayP, runOps, regK, step1, newK, genR, appR, obl, buildR, Value.cells, closeK, keepH, outV, retK, ret1, retC, RetV, Option.getD, runD, stepD, afterK, undef, simprocAttr, sxB, ↓sxD, sxE, sxTab]))
    refine FrzF.keep5 (L.flatMap IR.c) rfl (by rw [flat_len (z := 5) (fun _ => rfl)]) (by simp [mentH, mentL, AV.ment, hasK]) rfl fun v M3 h1 h2 h3 => hK v L M3 p' (hM.trans h1) h2 (fun x hx => (hL x hx).le h1) (h3.le hM) (by omega) (by omega)
  have d1 : decide ((0 : Int) < (n : Int)) = true := by rw [decide_eq_true_eq]; omega
  refine Go1.mk ?_; repeat' ((first | (with_reducible refine Go1.go ?_) | ((with_reducible refine isCall (f := 34) ?_); refine callA ?_) | ((with_reducible refine isCallS (f := 34) ?_); refine (one31a_ok u l p' [[97], [98], [99], [100]] rfl hu1 (by omega) (fun ts _ => Stop.mk ?_))) | (refine And.intro ?_ ?_; (try simp only [sxO] at *); omega) | fail) <;> (try simp (maxSteps := 1000000) only [itSt31, d1, irC_ment, irC_kill, hasK_nil, hu.one, bs_mk, bs_app, bs_ext, bs_size, bs_toList, bs_at, bs_cells, List.take_length, imp_ga, guard_pk, guard_pk2, ↓hold_pre, awayP, runOps, regK, step1, newK, genR, appR, obl, buildR, Value.cells, closeK, keepH, outV, retK, ret1, retC, RetV, Option.getD, runD, stepD, afterK, undef, simprocAttr, sxB, ↓sxD, sxE, sxTab]))
  refine Stop.go ?_
  refine Go1.mk ?_; repeat' ((first | (with_reducible refine Go1.go ?_) | ((with_reducible refine isCall (f := 18) ?_); refine callA ?_) | ((with_reducible refine isCallS (f := 18) ?_); refine (nextI_ok 31 u l (p' + 1) 9 hu1 (by omega) (by omega) (by omega) (fun x1 x10 x11 => Stop.mk ?_))) | (refine And.intro ?_ ?_; (try simp only [sxO] at *); omega) | fail) <;> (try simp (maxSteps := 1000000) only [cE_ment, cE_kill, irC_ment, irC_kill, hasK_nil, hu.one, bs_mk, bs_app, bs_ext, bs_size, bs_toList, bs_at, bs_cells, List.take_length, imp_ga, guard_pk, guard_pk2, ↓hold_pre, awayP, runOps, regK, step1, newK, genR, appR, obl, buildR, Value.cells, closeK, keepH, outV, retK, ret1, retC, RetV, Option.getD, runD, stepD, afterK, undef, simprocAttr, sxB, ↓sxD, sxE, sxTab]))
  obtain ⟨num, rfl⟩ := Int.eq_ofNat_of_zero_le x10
  refine Stop.go ?_
  refine Go1.mk ?_; repeat' ((first | (with_reducible refine Go1.go ?_) | ((with_reducible refine isCall (f := 18) ?_); refine callA ?_) | ((with_reducible refine isCallS (f := 18) ?_); refine (nextI_ok 31 u l (p' + 1 + 1) 8 hu1 (by omega) (by omega) (by omega) (fun x2 x20 x21 => Stop.mk ?_))) | (refine And.intro ?_ ?_; (try simp only [sxO] at *); omega) | fail) <;> (try simp (maxSteps := 1000000) only [cE_ment, irC_ment, irC_kill, hasK_nil, hu.one, bs_mk, bs_app, bs_ext, bs_size, bs_toList, bs_at, bs_cells, List.take_length, imp_ga, guard_pk, guard_pk2, ↓hold_pre, awayP, runOps, regK, step1, newK, genR, appR, obl, buildR, Value.cells, closeK, keepH, outV, retK, ret1, retC, RetV, Option.getD, runD, stepD, afterK, undef, simprocAttr, sxB, ↓sxD, sxE, sxTab]))
  obtain ⟨den, rfl⟩ := Int.eq_ofNat_of_zero_le x20
  obtain ⟨D, hD⟩ : ∃ D, D = den + 1 := ⟨_, rfl⟩
  have w1 : IntKind.i64.wrap (1 + (den : Int)) = (D : Int) := by rw [wrap_id (by omega) (by omega)]; omega
  refine Stop.go ?_
  refine Go1.mk ?_; repeat' ((first | (with_reducible refine Go1.go ?_) | ((with_reducible refine isCall (f := 18) ?_); refine callA ?_) | ((with_reducible refine isCallS (f := 18) ?_); refine (nextI_ok 31 u l (p' + 1 + 1 + 1) 8 hu1 (by omega) (by omega) (by omega) (fun x3 x30 x31 => Stop.mk ?_))) | (refine And.intro ?_ ?_; (try simp only [sxO] at *); omega) | fail) <;> (try simp (maxSteps := 1000000) only [w1, cE_ment, irC_ment, irC_kill, hasK_nil, hu.one, bs_mk, bs_app, bs_ext, bs_size, bs_toList, bs_at, bs_cells, List.take_length, imp_ga, guard_pk, guard_pk2, ↓hold_pre, awayP, runOps, regK, step1, newK, genR, appR, obl, buildR, Value.cells, closeK, keepH, outV, retK, ret1, retC, RetV, Option.getD, runD, stepD, afterK, undef, simprocAttr, sxB, ↓sxD, sxE, sxTab]))
  obtain ⟨cos, rfl⟩ := Int.eq_ofNat_of_zero_le x30
  obtain ⟨C, hC⟩ : ∃ C, C = cos + 1 := ⟨_, rfl⟩
  have w2 : IntKind.i64.wrap (1 + (cos : Int)) = (C : Int) := by rw [wrap_id (by omega) (by omega)]; omega
  refine Stop.go ?_
  refine Go1.mk ?_; repeat' ((first | (with_reducible refine Go1.go ?_) | (((with_reducible refine isCall (f := 19) ?_); refine callA_nil (by kernel_rfl) ?_; refine (item_ok ts num D C (by omega) (by omega) (by omega) (fun w1 w2 M2 a1 a2 a3 a4 a5 => Stop.mk ?_)))) | (refine And.intro ?_ ?_; (try simp only [sxO] at *); omega) | fail) <;> (try simp (maxSteps := 1000000) only [w2, cE_ment, irC_ment, irC_kill, hasK_nil, hu.one, bs_mk, bs_app, bs_ext, bs_size, bs_toList, bs_at, bs_cells, List.take_length, imp_ga, guard_pk, guard_pk2, ↓hold_pre, awayP, runOps, regK, step1, newK, genR, appR, obl, buildR, Value.cells, closeK, keepH, outV, retK, ret1, retC, RetV, Option.getD, runD, stepD, afterK, undef, simprocAttr, sxB, ↓sxD, sxE, sxTab]))
  have a1 : Mem.le M1 M2 := a1
  have hu2 := hu1.le a1
  obtain ⟨g1, g2, g3, g4⟩ := sml_low num D (by omega) (by omega) (by omega)
  refine Stop.go ?_
  refine Go1.mk ?_; repeat' ((first | (with_reducible refine Go1.go ?_) | ((with_reducible refine isCall (f := 34) ?_); refine callA ?_) | ((with_reducible refine isCallS (f := 34) ?_); refine (one31b_ok u l (p' + 1 + 1 + 1 + 1) [[112], [113]] rfl hu2 (by omega) (fun pk _ => Stop.mk ?_))) | (refine And.intro ?_ ?_; (try simp only [sxO] at *); omega) | fail) <;> (try simp (maxSteps := 1000000) only [a2.one, a3.one, cE_ment, irC_ment, irC_kill, hasK_nil, hu.one, bs_mk, bs_app, bs_ext, bs_size, bs_toList, bs_at, bs_cells, List.take_length, imp_ga, guard_pk, guard_pk2, ↓hold_pre, awayP, runOps, regK, step1, newK, genR, appR, obl, buildR, Value.cells, closeK, keepH, outV, retK, ret1, retC, RetV, Option.getD, runD, stepD, afterK, undef, simprocAttr, sxB, ↓sxD, sxE, sxTab]))
  have hit := itOK_of pk ts C a2 a3 g1 g2 g3 g4 (by omega) (by omega)
  refine Stop.go ?_
  refine Go1.mk ?_; repeat' ((first | (with_reducible refine Go1.go ?_) | (refine And.intro ?_ ?_; (try simp only [sxO] at *); omega) | fail) <;> (try simp (maxSteps := 1000000) only [a2.one, a3.one, cE_ment, cE_kill, irC_ment, irC_kill, hasK_nil, hu.one, bs_mk, bs_app, bs_ext, bs_size, bs_toList, bs_at, bs_cells, List.take_length, imp_ga, guard_pk, guard_pk2, ↓hold_pre, awayP, runOps, regK, step1, newK, genR, appR, obl, buildR, Value.cells, closeK, keepH, outV, retK, ret1, retC, RetV, Option.getD, runD, stepD, afterK, undef, simprocAttr, sxB, ↓sxD, sxE, sxTab]))
  refine ⟨fun z => ∃ M' p2 x, Mem.le M1 M' ∧ ItOK M' x ∧ p2 ≤ p' + 8 ∧ z = icSt31 M' u p2 n L.length L x, ?_, ?_⟩
  · refine Go1.mk ?_; repeat' ((first | (with_reducible refine Go1.go ?_) | ((with_reducible refine isCall (f := 18) ?_); refine callA ?_) | ((with_reducible refine isCallS (f := 18) ?_); refine (nextI_ok 31 u l (p' + 1 + 1 + 1 + 1 + 1) 8 hu2 (by omega) (by omega) (by omega) (fun x4 x40 x41 => Stop.mk ?_))) | (refine And.intro ?_ ?_; (try simp only [sxO] at *); omega) | fail) <;> (try simp (maxSteps := 1000000) only [a2.one, a3.one, cE_ment, cE_kill, irC_ment, irC_kill, hasK_nil, hu.one, bs_mk, bs_app, bs_ext, bs_size, bs_toList, bs_at, bs_cells, List.take_length, imp_ga, guard_pk, guard_pk2, ↓hold_pre, awayP, runOps, regK, step1, newK, genR, appR, obl, buildR, Value.cells, closeK, keepH, outV, retK, ret1, retC, RetV, Option.getD, runD, stepD, afterK, undef, simprocAttr, sxB, ↓sxD, sxE, sxTab]))
    obtain ⟨sw, rfl⟩ := Int.eq_ofNat_of_zero_le x40
    by_cases s0 : sw = 0
    · have e0 : decide ((sw : Int) = 0) = true := by rw [decide_eq_true_eq]; omega
      refine Stop.go ?_
      refine Go1.mk ?_; repeat' ((first | (with_reducible refine Go1.go ?_) | ((with_reducible refine isCall (f := 18) ?_); refine callA ?_) | ((with_reducible refine isCallS (f := 18) ?_); refine (nextI_ok 31 u l (p' + 1 + 1 + 1 + 1 + 1 + 1) 3 hu2 (by omega) (by omega) (by omega) (fun x5 x50 x51 => Stop.mk ?_))) | (refine And.intro ?_ ?_; (try simp only [sxO] at *); omega) | fail) <;> (try simp (maxSteps := 1000000) only [a2.one, a3.one, cE_ment, cE_kill, e0, irC_ment, irC_kill, hasK_nil, hu.one, bs_mk, bs_app, bs_ext, bs_size, bs_toList, bs_at, bs_cells, List.take_length, imp_ga, guard_pk, guard_pk2, ↓hold_pre, awayP, runOps, regK, step1, newK, genR, appR, obl, buildR, Value.cells, closeK, keepH, outV, retK, ret1, retC, RetV, Option.getD, runD, stepD, afterK, undef, simprocAttr, sxB, ↓sxD, sxE, sxTab]))
      obtain ⟨y, rfl⟩ := Int.eq_ofNat_of_zero_le x50
      obtain ⟨C2, hC2⟩ : ∃ C2, C2 = 1048576 - y := ⟨_, rfl⟩
      have w3 : IntKind.i64.wrap (1048576 - (y : Int)) = (C2 : Int) := by rw [wrap_id (by omega) (by omega)]; omega
      have hit := itOK_of pk ts C2 a2 a3 g1 g2 g3 g4 (by omega) (by omega)
      refine Stop.go ?_
      refine Go1.mk ?_; repeat' ((first | (with_reducible refine Go1.go ?_) | (refine And.intro ?_ ?_; (try simp only [sxO] at *); omega) | fail) <;> (try simp (maxSteps := 1000000) only [a2.one, a3.one, cE_ment, cE_kill, w3, irC_ment, irC_kill, hasK_nil, hu.one, bs_mk, bs_app, bs_ext, bs_size, bs_toList, bs_at, bs_cells, List.take_length, imp_ga, guard_pk, guard_pk2, ↓hold_pre, awayP, runOps, regK, step1, newK, genR, appR, obl, buildR, Value.cells, closeK, keepH, outV, retK, ret1, retC, RetV, Option.getD, runD, stepD, afterK, undef, simprocAttr, sxB, ↓sxD, sxE, sxTab]))
      exact ⟨icSt31 M2 u (p' + 1 + 1 + 1 + 1 + 1 + 1 + 1) n L.length L ⟨pk, ts, w1, w2, _, _, (C2 : Int)⟩, le_sub ⟨rfl, rfl, rfl, rfl, rfl, trivial⟩ ⟨by simp [lkH, icSt31, irC_kill], by simp [lkH, icSt31, irC_kill], by simp [lkH, icSt31, irC_kill], trivial⟩ rfl rfl rfl (by simp [keepLt, icSt31, lkH]), M2, _, _, a1, hit, by omega, rfl⟩
    have e0 : decide ((sw : Int) = 0) = false := by rw [decide_eq_false_iff_not]; omega
    by_cases s1 : sw = 1
    · have e1 : decide ((sw : Int) = 1) = true := by rw [decide_eq_true_eq]; omega
      refine Stop.go ?_
      refine Go1.mk ?_; repeat' ((first | (with_reducible refine Go1.go ?_) | ((with_reducible refine isCall (f := 18) ?_); refine callA ?_) | ((with_reducible refine isCallS (f := 18) ?_); refine (nextI_ok 31 u l (p' + 1 + 1 + 1 + 1 + 1 + 1) 1048576 hu2 (by omega) (by omega) (by omega) (fun x5 x50 x51 => Stop.mk ?_))) | (refine And.intro ?_ ?_; (try simp only [sxO] at *); omega) | fail) <;> (try simp (maxSteps := 1000000) only [a2.one, a3.one, cE_ment, cE_kill, e0, e1, irC_ment, irC_kill, hasK_nil, hu.one, bs_mk, bs_app, bs_ext, bs_size, bs_toList, bs_at, bs_cells, List.take_length, imp_ga, guard_pk, guard_pk2, ↓hold_pre, awayP, runOps, regK, step1, newK, genR, appR, obl, buildR, Value.cells, closeK, keepH, outV, retK, ret1, retC, RetV, Option.getD, runD, stepD, afterK, undef, simprocAttr, sxB, ↓sxD, sxE, sxTab]))
      obtain ⟨y, rfl⟩ := Int.eq_ofNat_of_zero_le x50
      obtain ⟨Y, hY⟩ : ∃ Y, Y = y + 1 := ⟨_, rfl⟩
      have w3 : IntKind.i64.wrap (1 + (y : Int)) = (Y : Int) := by rw [wrap_id (by omega) (by omega)]; omega
      refine Stop.go ?_
      refine Go1.mk ?_; repeat' ((first | (with_reducible refine Go1.go ?_) | ((with_reducible refine isCall (f := 18) ?_); refine callA ?_) | ((with_reducible refine isCallS (f := 18) ?_); refine (nextI_ok 31 u l (p' + 1 + 1 + 1 + 1 + 1 + 1 + 1) 1048576 hu2 (by omega) (by omega) (by omega) (fun x6 x60 x61 => Stop.mk ?_))) | (refine And.intro ?_ ?_; (try simp only [sxO] at *); omega) | fail) <;> (try simp (maxSteps := 1000000) only [a2.one, a3.one, cE_ment, cE_kill, w3, irC_ment, irC_kill, hasK_nil, hu.one, bs_mk, bs_app, bs_ext, bs_size, bs_toList, bs_at, bs_cells, List.take_length, imp_ga, guard_pk, guard_pk2, ↓hold_pre, awayP, runOps, regK, step1, newK, genR, appR, obl, buildR, Value.cells, closeK, keepH, outV, retK, ret1, retC, RetV, Option.getD, runD, stepD, afterK, undef, simprocAttr, sxB, ↓sxD, sxE, sxTab]))
      obtain ⟨z, rfl⟩ := Int.eq_ofNat_of_zero_le x60
      obtain ⟨Z, hZ⟩ : ∃ Z, Z = z + 1 := ⟨_, rfl⟩
      have w4 : IntKind.i64.wrap (1 + (z : Int)) = (Z : Int) := by rw [wrap_id (by omega) (by omega)]; omega
      obtain ⟨f1, f2, f3, f4⟩ := sml_low Y Z (by omega) (by omega) (by omega)
      refine Stop.go ?_
      refine Go1.mk ?_; repeat' ((first | (with_reducible refine Go1.go ?_) | (((with_reducible refine isCall (f := 22) ?_); refine callA_nil (by kernel_rfl) ?_; refine (sml_ok Y Z (by omega) (by omega) (by omega) (fun v1 v2 M3 c1 c2 c3 c4 c5 => Stop.mk ?_)))) | (refine And.intro ?_ ?_; (try simp only [sxO] at *); omega) | fail) <;> (try simp (maxSteps := 1000000) only [a2.one, a3.one, cE_ment, cE_kill, w4, irC_ment, irC_kill, hasK_nil, hu.one, bs_mk, bs_app, bs_ext, bs_size, bs_toList, bs_at, bs_cells, List.take_length, imp_ga, guard_pk, guard_pk2, ↓hold_pre, awayP, runOps, regK, step1, newK, genR, appR, obl, buildR, Value.cells, closeK, keepH, outV, retK, ret1, retC, RetV, Option.getD, runD, stepD, afterK, undef, simprocAttr, sxB, ↓sxD, sxE, sxTab]))
      have c1 : Mem.le M2 M3 := c1
      have hit := itOK_of pk ts C c2 c3 f1 f2 f3 f4 (by omega) (by omega)
      refine Stop.go ?_
      refine Go1.mk ?_; repeat' ((first | (with_reducible refine Go1.go ?_) | (refine And.intro ?_ ?_; (try simp only [sxO] at *); omega) | fail) <;> (try simp (maxSteps := 1000000) only [c2.one, c3.one, a2.one, a3.one, cE_ment, cE_kill, irC_ment, irC_kill, hasK_nil, hu.one, bs_mk, bs_app, bs_ext, bs_size, bs_toList, bs_at, bs_cells, List.take_length, imp_ga, guard_pk, guard_pk2, ↓hold_pre, awayP, runOps, regK, step1, newK, genR, appR, obl, buildR, Value.cells, closeK, keepH, outV, retK, ret1, retC, RetV, Option.getD, runD, stepD, afterK, undef, simprocAttr, sxB, ↓sxD, sxE, sxTab]))
      exact ⟨icSt31 M3 u (p' + 1 + 1 + 1 + 1 + 1 + 1 + 1 + 1) n L.length L ⟨pk, ts, v1, v2, _, _, (C : Int)⟩, le_sub ⟨rfl, rfl, rfl, rfl, rfl, trivial⟩ ⟨by simp [lkH, icSt31, irC_kill], by simp [lkH, icSt31, irC_kill], by simp [lkH, icSt31, irC_kill], trivial⟩ rfl rfl rfl (by simp [keepLt, icSt31, lkH]), M3, _, _, a1.trans c1, hit, by omega, rfl⟩
    have e1 : decide ((sw : Int) = 1) = false := by rw [decide_eq_false_iff_not]; omega
    refine Stop.go ?_
    refine Go1.mk ?_; repeat' ((first | (with_reducible refine Go1.go ?_) | (refine And.intro ?_ ?_; (try simp only [sxO] at *); omega) | fail) <;> (try simp (maxSteps := 1000000) only [a2.one, a3.one, cE_ment, cE_kill, e0, e1, irC_ment, irC_kill, hasK_nil, hu.one, bs_mk, bs_app, bs_ext, bs_size, bs_toList, bs_at, bs_cells, List.take_length, imp_ga, guard_pk, guard_pk2, ↓hold_pre, awayP, runOps, regK, step1, newK, genR, appR, obl, buildR, Value.cells, closeK, keepH, outV, retK, ret1, retC, RetV, Option.getD, runD, stepD, afterK, undef, simprocAttr, sxB, ↓sxD, sxE, sxTab]))
    exact ⟨icSt31 M2 u (p' + 1 + 1 + 1 + 1 + 1 + 1) n L.length L ⟨pk, ts, w1, w2, _, _, (C : Int)⟩, le_sub ⟨rfl, rfl, rfl, rfl, rfl, trivial⟩ ⟨by simp [lkH, icSt31, irC_kill], by simp [lkH, icSt31, irC_kill], by simp [lkH, icSt31, irC_kill], trivial⟩ rfl rfl rfl (by simp [keepLt, icSt31, lkH]), M2, _, _, a1, hit, by omega, rfl⟩
  clear hit a2 a3 a4 a5 w1 w2
  rintro z ⟨M3, p2, x, hM3, hx, hp2, rfl⟩
  have happ := irC_app L x
  have o1 := hx.ok.f.n.one
  have o2 := hx.ok.f.d.one
  have wn : IntKind.i64.wrap ((n : Int) - 1) = ((n - 1 : Nat) : Int) := pred_i (by omega) (by omega)
  refine Go1.mk ?_; repeat' ((first | (with_reducible refine Go1.go ?_) | (refine And.intro ?_ ?_; (try simp only [sxO] at *); omega) | fail) <;> (try simp (maxSteps := 1000000) only [icSt31, happ, hcl, wn, o1, o2, irC_ment, irC_kill, hasK_nil, hu.one, bs_mk, bs_app, bs_ext, bs_size, bs_toList, bs_at, bs_cells, List.take_length, imp_ga, guard_pk, guard_pk2, ↓hold_pre, awayP, runOps, regK, step1, newK, genR, appR, obl, buildR, Value.cells, closeK, keepH, outV, retK, ret1, retC, RetV, Option.getD, runD, stepD, afterK, undef, simprocAttr, sxB, ↓sxD, sxE, sxTab]))
  exact ⟨n - 1, itSt31 M3 u p2 (n - 1) (L.length + 1) (L ++ [x]), by omega, le_sub ⟨rfl, rfl, rfl, rfl, trivial⟩ ⟨by simp [lkH, itSt31], by simp [lkH, itSt31], trivial⟩ rfl rfl rfl (by simp [keepLt, itSt31, lkH]), M3, L ++ [x], p2, n - 1, rfl, hM.trans hM3, fun y hy => by
    rcases List.mem_append.1 hy with hy | hy
    · exact (hL y hy).le hM3
    · rw [List.mem_singleton.1 hy]; exact hx, by rw [List.length_append, List.length_singleton]; omega, by omega, by rw [List.length_append, List.length_singleton]⟩
end
end Go.Proofs.Ytjapnklocibgaaa.Sx
namespace Go.Proofs.Ytjapnklocibgaaa.Sx
open Go Go.RowKit
set_option linter.unusedVariables false
set_option linter.unusedSimpArgs false
set_option maxRecDepth 100000
set_option maxHeartbeats 8000000
attribute [local congr] fin_congr finG_congr stepG_congr step1_congr runOps_congr brv_congr obl_congr condK_congr LoopK_congr seqK_congr CutK_congr vc_congr DrawK_congr regK_congr CallK_congr AskK_congr newK_congr retC_congr ret1_congr retK_congr outV_congr closeK_congr genR_congr appR_congr finD_congr finGD_congr stepGD_congr stepD_congr CallK0_congr runD_congr okR_congr CallS_congr vcX_congr
attribute [local congr] Stop_congr
section
variable {M : Mem} {K : AV → Hp → Mem → Prop}
theorem rwhole_ok (n : Nat) (hn : n < 9223372036854775808) (hK : ∀ w1 w2 M', Mem.le M M' → IsL M' u32V w1 (ofN n) → IsL M' u32V w2 (ofN 1) → FreshS M w1 → FreshS M w2 → K (.ext (.agg #[w1, w2])) [] M') : CallS Try.prog 54 [.ext (.int .i64 (n : Int)), .ext (.int .i64 1)] [] M [] K := by
  refine inlS (cs := []) Try.mixed Try.func54 rfl (by kernel_rfl) 0 rfl rfl ?_
  simp only [Try.f54]
  have hf := ofF_one hn
  refine Go1.mk ?_; repeat' ((first | (with_reducible refine Go1.go ?_) | (((with_reducible refine isCall (f := 73) ?_); refine callA_nil (by kernel_rfl) ?_; refine (rfof_ok n 1 (by omega) (by omega) (by omega) (by omega) (fun w1 w2 M1 a1 a2 a3 a4 a5 => Stop.mk ?_)))) | (refine And.intro ?_ ?_; (try simp only [sxO] at *); omega) | fail) <;> (try simp (maxSteps := 1000000) only [↓hold_pre, awayP, runOps, regK, step1, newK, genR, appR, obl, buildR, Value.cells, closeK, keepH, outV, retK, ret1, retC, RetV, Option.getD, runD, stepD, afterK, undef, simprocAttr, sxB, ↓sxD, sxE, sxTab]))
  rw [hf] at a2 a3
  have hk := hK w1 w2 M1 a1 a2 a3 a4 a5
  refine Stop.go ?_
  refine Go1.mk ?_; repeat' ((first | (with_reducible refine Go1.go ?_) | (refine And.intro ?_ ?_; (try simp only [sxO] at *); omega) | fail) <;> (try simp (maxSteps := 1000000) only [a2.one, a3.one, ↓hold_pre, awayP, runOps, regK, step1, newK, genR, appR, obl, buildR, Value.cells, closeK, keepH, outV, retK, ret1, retC, RetV, Option.getD, runD, stepD, afterK, undef, simprocAttr, sxB, ↓sxD, sxE, sxTab]))
  exact hk
end
end Go.Proofs.Ytjapnklocibgaaa.Sx
namespace Go.Proofs.Ytjapnklocibgaaa.Sx
open Go Go.RowKit
set_option linter.unusedVariables false
set_option linter.unusedSimpArgs false
set_option maxRecDepth 100000
set_option maxHeartbeats 8000000
attribute [local congr] fin_congr finG_congr stepG_congr step1_congr runOps_congr brv_congr obl_congr condK_congr LoopK_congr seqK_congr CutK_congr vc_congr DrawK_congr regK_congr CallK_congr AskK_congr newK_congr retC_congr ret1_congr retK_congr outV_congr closeK_congr genR_congr appR_congr finD_congr finGD_congr stepGD_congr stepD_congr CallK0_congr runD_congr okR_congr CallS_congr vcX_congr
attribute [local congr] Stop_congr
theorem isPt_add {v : Value} (o : Nat) (h : isPt v = true) : isPt (addP v o) = true := by
  unfold isPt at h
  split at h
  · rfl
  · cases h
theorem addP_addP {v : Value} (a b : Nat) (h : isPt v = true) : addP (addP v a) b = addP v (a + b) := by
  unfold isPt at h
  split at h
  · by_cases ha : a = 0 <;> by_cases hb : b = 0 <;> simp [addP, Addr.add, ha, hb, Nat.add_assoc]
  · cases h
section
variable {M : Mem} {K : AV → Hp → Mem → Prop} {u : Value} {L : List IR}
def rcSt29 (M : Mem) (u : Value) (i : Nat) : St := { env := [(3, .ext (.int .i64 (i : Int))), (0, .ext u)], hp := [], M := M, kb := 0, fx := [] }
theorem rcheck29_ok (hu : IsR M 5 IR.c u L) (hL : okIL M L) (hb : L.length < 1000000) (hK : ∀ M', Mem.le M M' → K (.ext (.bool (chkIL L))) [] M') : CallS Try.prog 26 [.ext u] [] M [] K := by
  refine inlS (cs := []) Try.mixed Try.func26 rfl (by kernel_rfl) 0 rfl rfl ?_
  simp only [Try.f26]
  unfold chkIL at hK
  by_cases h64 : L.length ≤ 64
  case neg =>
    have d1 : decide ((64 : Int) < (L.length : Int)) = true := by rw [decide_eq_true_eq]; omega
    rw [decide_eq_false h64] at hK
    have hk := hK M (Mem.le.refl _)
    refine Go1.mk ?_; repeat' ((first | (with_reducible refine Go1.go ?_) | (refine And.intro ?_ ?_; (try simp only [sxO] at *); omega) | fail) <;> (try simp (maxSteps := 1000000) only [hu.one, hu.len, hu.sl, d1, ↓hold_pre, awayP, runOps, regK, step1, newK, genR, appR, obl, buildR, Value.cells, closeK, keepH, outV, retK, ret1, retC, RetV, Option.getD, runD, stepD, afterK, undef, simprocAttr, sxB, ↓sxD, sxE, sxTab]))
    exact hk
  have d1 : decide ((64 : Int) < (L.length : Int)) = false := by rw [decide_eq_false_iff_not]; omega
  rw [decide_eq_true h64, Bool.true_and] at hK
  refine Go1.mk ?_; repeat' ((first | (with_reducible refine Go1.go ?_) | (refine And.intro ?_ ?_; (try simp only [sxO] at *); omega) | fail) <;> (try simp (maxSteps := 1000000) only [hu.one, hu.len, hu.sl, d1, ↓hold_pre, awayP, runOps, regK, step1, newK, genR, appR, obl, buildR, Value.cells, closeK, keepH, outV, retK, ret1, retC, RetV, Option.getD, runD, stepD, afterK, undef, simprocAttr, sxB, ↓sxD, sxE, sxTab]))
  refine ⟨fun m z => ∃ M' i, m = L.length - i ∧ i ≤ L.length ∧ Mem.le M M' ∧ (∀ x ∈ L.take i, chkI x = true) ∧ z = rcSt29 M' u i,
    ⟨L.length, rcSt29 M u 0, le_sub ⟨rfl, rfl, trivial⟩ trivial rfl rfl rfl (keepLt0 _), ⟨M, 0, by omega, by omega, Mem.le.refl _, by simp, rfl⟩⟩, ?_⟩
  rintro m z ⟨M2, i, rfl, hi, hM, hp, rfl⟩
  have hu2 := hu.le hM
  have hL2 := hL.le hM
  by_cases hlt : i < L.length
  case neg =>
    obtain rfl : i = L.length := by omega
    have e1 : decide ((L.length : Int) < (L.length : Int)) = false := by simp
    have hk := hK M2 hM
    rw [List.take_of_length_le (Nat.le_refl _)] at hp
    rw [List.all_eq_true.2 hp] at hk
    refine Go1.mk ?_; repeat' ((first | (with_reducible refine Go1.go ?_) | (refine And.intro ?_ ?_; (try simp only [sxO] at *); omega) | fail) <;> (try simp (maxSteps := 1000000) only [rcSt29, hu2.one, hu2.len, hu2.sl, e1, ↓hold_pre, awayP, runOps, regK, step1, newK, genR, appR, obl, buildR, Value.cells, closeK, keepH, outV, retK, ret1, retC, RetV, Option.getD, runD, stepD, afterK, undef, simprocAttr, sxB, ↓sxD, sxE, sxTab]))
    exact hk
  have e1 : decide ((i : Int) < (L.length : Int)) = true := by rw [decide_eq_true_eq]; omega
  have b1 : (0 : Int) ≤ (i : Int) := by omega
  have b2 : (i : Int) < (L.length : Int) := by omega
  have hnn := hu2.nn hlt
  have p1 := hu2.pt hlt
  have hac := hu2.part (P := Try.prog) (fun _ => rfl) tk34 tz34 (o := 2) hlt (by decide)
  have hmem := List.getElem_mem hlt
  have hF := hL2 _ hmem
  have hnx : chkI L[i] = true → ∀ x ∈ L.take (i + 1), chkI x = true := fun hx x hm => by
    rw [List.take_add_one, List.getElem?_eq_getElem hlt] at hm
    rcases List.mem_append.1 hm with h1 | h1
    · exact hp x h1
    · have : x = L[i] := by simpa using h1
      rw [this]; exact hx
  have wi : IntKind.i64.wrap ((i : Int) + 1) = ((i + 1 : Nat) : Int) := succ_i (by omega)
  have hall : chkI L[i] = false → L.all chkI = false := fun hc => by
    cases h : L.all chkI with
    | false => rfl
    | true => rw [List.all_eq_true.1 h _ hmem] at hc; cases hc
  have hfx := fun M3 (h : Mem.le M2 M3) => (hu2.le h).atF (P := Try.prog) (T := 32) (fun _ => rfl) tk32 tz32 hlt (o := 2) (v := L[i].u1) rfl
  have hfy := fun M3 (h : Mem.le M2 M3) => (hu2.le h).atF (P := Try.prog) (T := 32) (fun _ => rfl) tk32 tz32 hlt (o := 3) (v := L[i].u2) rfl
  have hfz := fun M3 (h : Mem.le M2 M3) => (hu2.le h).atF (P := Try.prog) (T := 3) (fun _ => rfl) tk3 tz3 hlt (o := 4) (v := .int .i64 L[i].cost) rfl
  generalize L[i] = x at *
  obtain ⟨pk, ts, x1, x2, y1, y2, co⟩ := x
  have hac : lookM Try.prog 34 M2 (addP (elemP u 5 i) 2) = some (.agg #[x1, x2]) := hac
  have hF1 : IsF M2 x1 x2 y1 y2 := hF.f
  simp only at hfx hfy hfz
  cases hc : chkF y1 y2 with
  | false =>
    refine Go1.mk ?_; repeat' ((first | (with_reducible refine Go1.go ?_) | (((with_reducible refine isCall (f := 50) ?_); refine callA_nil (by kernel_rfl) ?_; refine (rfcheck_ok hF1.n hF1.d hF1.on hF1.od hF1.bn hF1.bd (fun M3 c1 => Stop.mk ?_)))) | (refine And.intro ?_ ?_; (try simp only [sxO] at *); omega) | fail) <;> (try simp (maxSteps := 1000000) only [rcSt29, hu2.one, hu2.len, hu2.sl, hnn, p1, e1, b1, b2, hac, hF1.n.one, hF1.d.one, hc, ↓hold_pre, awayP, runOps, regK, step1, newK, genR, appR, obl, buildR, Value.cells, closeK, keepH, outV, retK, ret1, retC, RetV, Option.getD, runD, stepD, afterK, undef, simprocAttr, sxB, ↓sxD, sxE, sxTab]))
    have hk := hK M3 (hM.trans c1)
    rw [hall (by unfold chkI; simp only; rw [hc]; rfl)] at hk
    have hu3 := hu2.le c1
    refine Stop.go ?_
    refine Go1.mk ?_; repeat' ((first | (with_reducible refine Go1.go ?_) | (refine And.intro ?_ ?_; (try simp only [sxO] at *); omega) | fail) <;> (try simp (maxSteps := 1000000) only [hu3.one, hu3.len, hu3.sl, hnn, p1, e1, b1, b2, hF1.n.one, hF1.d.one, hc, ↓hold_pre, awayP, runOps, regK, step1, newK, genR, appR, obl, buildR, Value.cells, closeK, keepH, outV, retK, ret1, retC, RetV, Option.getD, runD, stepD, afterK, undef, simprocAttr, sxB, ↓sxD, sxE, sxTab]))
    exact hk
  | true =>
    refine Go1.mk ?_; repeat' ((first | (with_reducible refine Go1.go ?_) | (((with_reducible refine isCall (f := 50) ?_); refine callA_nil (by kernel_rfl) ?_; refine (rfcheck_ok hF1.n hF1.d hF1.on hF1.od hF1.bn hF1.bd (fun M3 c1 => Stop.mk ?_)))) | (refine And.intro ?_ ?_; (try simp only [sxO] at *); omega) | fail) <;> (try simp (maxSteps := 1000000) only [rcSt29, hu2.one, hu2.len, hu2.sl, hnn, p1, e1, b1, b2, hac, hF1.n.one, hF1.d.one, hc, ↓hold_pre, awayP, runOps, regK, step1, newK, genR, appR, obl, buildR, Value.cells, closeK, keepH, outV, retK, ret1, retC, RetV, Option.getD, runD, stepD, afterK, undef, simprocAttr, sxB, ↓sxD, sxE, sxTab]))
    have c1 : Mem.le M2 M3 := c1
    have hu3 := hu2.le c1
    have hF3 := hF1.le c1
    have g3 := hfz M3 c1
    have p2 := isPt_add 2 p1
    have p3 : addP (addP (elemP u 5 i) 2) 0 = addP (elemP u 5 i) 2 := addP_addP 2 0 p1
    have p4 : addP (addP (elemP u 5 i) 2) 1 = addP (elemP u 5 i) 3 := addP_addP 2 1 p1
    have g1 := hfx M3 c1
    have g2 := hfy M3 c1
    rw [← p3] at g1
    rw [← p4] at g2
    by_cases h0 : y1.length ≤ 1
    case neg =>
      have d0 : decide ((1 : Int) < (y1.length : Int)) = true := by rw [decide_eq_true_eq]; omega
      have q0 : decide (y1.length ≤ 1) = false := decide_eq_false h0
      have hk := hK M3 (hM.trans c1)
      rw [hall (by unfold chkI; simp only; rw [hc, q0]; simp)] at hk
      refine Stop.go ?_
      refine Go1.mk ?_; repeat' ((first | (with_reducible refine Go1.go ?_) | (refine And.intro ?_ ?_; (try simp only [sxO] at *); omega) | fail) <;> (try simp (maxSteps := 1000000) only [hu3.one, hu3.len, hu3.sl, hnn, p1, p2, e1, b1, b2, hF3.n.one, hF3.d.one, hc, hF3.n.len, hF3.n.sl, hF3.d.len, hF3.d.sl, g1, g2, g3, d0, ↓hold_pre, awayP, runOps, regK, step1, newK, genR, appR, obl, buildR, Value.cells, closeK, keepH, outV, retK, ret1, retC, RetV, Option.getD, runD, stepD, afterK, undef, simprocAttr, sxB, ↓sxD, sxE, sxTab]))
      exact hk
    have d0 : decide ((1 : Int) < (y1.length : Int)) = false := by rw [decide_eq_false_iff_not]; omega
    have q0 : decide (y1.length ≤ 1) = true := decide_eq_true h0
    by_cases h1 : y2.length ≤ 1
    case neg =>
      have d1 : decide ((1 : Int) < (y2.length : Int)) = true := by rw [decide_eq_true_eq]; omega
      have q1 : decide (y2.length ≤ 1) = false := decide_eq_false h1
      have hk := hK M3 (hM.trans c1)
      rw [hall (by unfold chkI; simp only; rw [hc, q1]; simp)] at hk
      refine Stop.go ?_
      refine Go1.mk ?_; repeat' ((first | (with_reducible refine Go1.go ?_) | (refine And.intro ?_ ?_; (try simp only [sxO] at *); omega) | fail) <;> (try simp (maxSteps := 1000000) only [hu3.one, hu3.len, hu3.sl, hnn, p1, p2, e1, b1, b2, hF3.n.one, hF3.d.one, hc, hF3.n.len, hF3.n.sl, hF3.d.len, hF3.d.sl, g1, g2, g3, d0, d1, ↓hold_pre, awayP, runOps, regK, step1, newK, genR, appR, obl, buildR, Value.cells, closeK, keepH, outV, retK, ret1, retC, RetV, Option.getD, runD, stepD, afterK, undef, simprocAttr, sxB, ↓sxD, sxE, sxTab]))
      exact hk
    have d1 : decide ((1 : Int) < (y2.length : Int)) = false := by rw [decide_eq_false_iff_not]; omega
    have q1 : decide (y2.length ≤ 1) = true := decide_eq_true h1
    by_cases h2 : 1 ≤ co
    case neg =>
      have d2 : decide (co < 1) = true := by rw [decide_eq_true_eq]; omega
      have q2 : decide (1 ≤ co) = false := decide_eq_false h2
      have hk := hK M3 (hM.trans c1)
      rw [hall (by unfold chkI; simp only; rw [hc, q2]; simp)] at hk
      refine Stop.go ?_
      refine Go1.mk ?_; repeat' ((first | (with_reducible refine Go1.go ?_) | (refine And.intro ?_ ?_; (try simp only [sxO] at *); omega) | fail) <;> (try simp (maxSteps := 1000000) only [hu3.one, hu3.len, hu3.sl, hnn, p1, p2, e1, b1, b2, hF3.n.one, hF3.d.one, hc, hF3.n.len, hF3.n.sl, hF3.d.len, hF3.d.sl, g1, g2, g3, d0, d1, d2, ↓hold_pre, awayP, runOps, regK, step1, newK, genR, appR, obl, buildR, Value.cells, closeK, keepH, outV, retK, ret1, retC, RetV, Option.getD, runD, stepD, afterK, undef, simprocAttr, sxB, ↓sxD, sxE, sxTab]))
      exact hk
    have d2 : decide (co < 1) = false := by rw [decide_eq_false_iff_not]; omega
    have q2 : decide (1 ≤ co) = true := decide_eq_true h2
    by_cases h3 : co ≤ 1048576
    case neg =>
      have d3 : decide ((1048576 : Int) < co) = true := by rw [decide_eq_true_eq]; omega
      have q3 : decide (co ≤ 1048576) = false := decide_eq_false h3
      have hk := hK M3 (hM.trans c1)
      rw [hall (by unfold chkI; simp only; rw [hc, q3]; simp)] at hk
      refine Stop.go ?_
      refine Go1.mk ?_; repeat' ((first | (with_reducible refine Go1.go ?_) | (refine And.intro ?_ ?_; (try simp only [sxO] at *); omega) | fail) <;> (try simp (maxSteps := 1000000) only [hu3.one, hu3.len, hu3.sl, hnn, p1, p2, e1, b1, b2, hF3.n.one, hF3.d.one, hc, hF3.n.len, hF3.n.sl, hF3.d.len, hF3.d.sl, g1, g2, g3, d0, d1, d2, d3, ↓hold_pre, awayP, runOps, regK, step1, newK, genR, appR, obl, buildR, Value.cells, closeK, keepH, outV, retK, ret1, retC, RetV, Option.getD, runD, stepD, afterK, undef, simprocAttr, sxB, ↓sxD, sxE, sxTab]))
      exact hk
    have d3 : decide ((1048576 : Int) < co) = false := by rw [decide_eq_false_iff_not]; omega
    have q3 : decide (co ≤ 1048576) = true := decide_eq_true h3
    have hnx := hnx (by unfold chkI; simp only; rw [hc, q0, q1, q2, q3]; rfl)
    refine Stop.go ?_
    refine Go1.mk ?_; repeat' ((first | (with_reducible refine Go1.go ?_) | (refine And.intro ?_ ?_; (try simp only [sxO] at *); omega) | fail) <;> (try simp (maxSteps := 1000000) only [hu3.one, hu3.len, hu3.sl, hnn, p1, p2, e1, b1, b2, hF3.n.one, hF3.d.one, hc, hF3.n.len, hF3.n.sl, hF3.d.len, hF3.d.sl, g1, g2, g3, d0, d1, d2, d3, wi, ↓hold_pre, awayP, runOps, regK, step1, newK, genR, appR, obl, buildR, Value.cells, closeK, keepH, outV, retK, ret1, retC, RetV, Option.getD, runD, stepD, afterK, undef, simprocAttr, sxB, ↓sxD, sxE, sxTab]))
    exact ⟨L.length - (i + 1), rcSt29 M3 u (i + 1), by omega, le_sub ⟨rfl, rfl, trivial⟩ trivial rfl rfl rfl (keepLt0 _), M3, i + 1, rfl, by omega, hM.trans c1, hnx, rfl⟩
end
end Go.Proofs.Ytjapnklocibgaaa.Sx
namespace Go.Proofs.Ytjapnklocibgaaa.Sx
open Go
set_option maxRecDepth 100000
set_option linter.unusedVariables false
theorem slops_hi (a b : Operand) : (#[a] ++ (none : Option Operand).toArray ++ (some b).toArray ++ (none : Option Operand).toArray).toList = [a, b] := rfl
theorem slops_lo (a b : Operand) : (#[a] ++ (some b).toArray ++ (none : Option Operand).toArray ++ (none : Option Operand).toArray).toList = [a, b] := rfl
theorem ins_perm {Z : List Nat} {i : Nat} (a : Nat) (h : Z.Perm (List.range i)) : (Z.take a ++ i :: Z.drop a).Perm (List.range (i + 1)) := by
  rw [List.range_succ]
  refine List.perm_middle.trans ?_
  rw [List.take_append_drop]
  exact (h.cons i).trans (List.perm_append_singleton i (List.range i)).symm
structure Scaled (f g : Nat) (x y : IR) : Prop where
  pk : y.pk = x.pk
  ts : y.ts = x.ts
  cost : y.cost = x.cost
  val : valN y.l1 * (valN x.l2 * g) = valN x.l1 * f * valN y.l2
  pos : 0 < valN y.l2
end Go.Proofs.Ytjapnklocibgaaa.Sx
namespace Go.Proofs.Ytjapnklocibgaaa.Sx
open Go Go.RowKit
set_option linter.unusedVariables false
set_option linter.unusedSimpArgs false
set_option maxRecDepth 100000
set_option maxHeartbeats 8000000
attribute [local congr] fin_congr finG_congr stepG_congr step1_congr runOps_congr brv_congr obl_congr condK_congr LoopK_congr seqK_congr CutK_congr vc_congr DrawK_congr regK_congr CallK_congr AskK_congr newK_congr retC_congr ret1_congr retK_congr outV_congr closeK_congr genR_congr appR_congr finD_congr finGD_congr stepGD_congr stepD_congr CallK0_congr runD_congr okR_congr CallS_congr vcX_congr
attribute [local congr] Stop_congr
section
variable {M : Mem} {K : AV → Hp → Mem → Prop} {u v : Value} {L : List IR} {o : List Int}
end
end Go.Proofs.Ytjapnklocibgaaa.Sx
namespace Go.Proofs.Ytjapnklocibgaaa.Sx
open Go
set_option maxRecDepth 100000
set_option linter.unusedVariables false
theorem exF_mul {x y : Nat} (h : (exF x y).1 = 0) : (exF x y).2.1 * y = x * (exF x y).2.2 := by
  unfold exF at h ⊢
  split at h
  · rename_i hc
    rw [if_pos hc]
    simp only
    rw [Nat.div_mul_right_comm (Nat.gcd_dvd_left x y), Nat.mul_div_assoc _ (Nat.gcd_dvd_right x y)]
  · simp at h
def lossG (w c : Int → Nat) : List Int → Nat → Nat
  | [], _ => 0
  | x :: r, e => w x * (e + c x) + lossG w c r (e + c x)
def denL : List IR → Nat
  | [] => 1
  | x :: r => valN x.l2 * denL r
theorem denL_dvd : ∀ {L : List IR} {x : IR}, x ∈ L → valN x.l2 ∣ denL L
  | y :: r, x, h => by
    rcases List.mem_cons.1 h with rfl | h
    · exact Nat.dvd_mul_right _ _
    · exact Nat.dvd_trans (denL_dvd h) (Nat.dvd_mul_left _ _)
def wA (L : List IR) (x : Int) : Nat := valN (itA L x.toNat).l1 * (denL L / valN (itA L x.toNat).l2)
def cA (L : List IR) (x : Int) : Nat := (costA L x).toNat
theorem wA_eq {L : List IR} {x : Int} (h0 : 0 ≤ x) (h1 : x < (L.length : Int)) : wA L x * valN (itA L x.toNat).l2 = valN (itA L x.toNat).l1 * denL L := by
  unfold wA
  rw [Nat.mul_assoc, Nat.div_mul_cancel]
  rw [itA_in (show x.toNat < L.length by omega)]
  exact denL_dvd (List.getElem_mem _)
theorem itA_chk {L : List IR} (hc : ∀ x ∈ L, chkI x = true) {x : Int} (h0 : 0 ≤ x) (h1 : x < (L.length : Int)) : chkI (itA L x.toNat) = true := by
  rw [itA_in (show x.toNat < L.length by omega)]
  exact hc _ (List.getElem_mem _)
theorem itA_ok {M : Mem} {L : List IR} (hL : okIL M L) {x : Int} (h0 : 0 ≤ x) (h1 : x < (L.length : Int)) : (itA L x.toNat).ok M := by
  rw [itA_in (show x.toNat < L.length by omega)]
  exact hL _ (List.getElem_mem _)
theorem sum_alg {n d t1 t2 s1 s2 D S w n1 d1 E : Nat} (hd : 0 < d) (ht : 0 < t2) (h1 : 0 < d1) (a : s1 * (d * t2) = (n * t2 + t1 * d) * s2) (b : t1 * d1 = n1 * E * t2) (c : n * D = S * d) (e : w * d1 = n1 * D) : s1 * D = (S + w * E) * s2 := by
  refine Nat.eq_of_mul_eq_mul_right (Nat.mul_pos (Nat.mul_pos hd ht) h1) ?_
  calc s1 * D * (d * t2 * d1) = (s1 * (d * t2)) * (D * d1) := by ac_rfl
    _ = (n * t2 + t1 * d) * s2 * (D * d1) := by rw [a]
    _ = (n * D) * (t2 * s2 * d1) + (t1 * d1) * (d * s2 * D) := by grind
    _ = (S * d) * (t2 * s2 * d1) + (n1 * E * t2) * (d * s2 * D) := by rw [c, b]
    _ = (S * d) * (t2 * s2 * d1) + (n1 * D) * (E * t2 * d * s2) := by grind
    _ = (S * d) * (t2 * s2 * d1) + (w * d1) * (E * t2 * d * s2) := by rw [e]
    _ = _ := by grind
theorem losV_sum {M : Mem} {L : List IR} (hL : okIL M L) (hc : ∀ x ∈ L, chkI x = true) (o : List Int) : ∀ (e : Int) (i n d S : Nat), (∀ x ∈ o, 0 ≤ x ∧ x < (L.length : Int)) → i + o.length ≤ 64 → 0 ≤ e → e ≤ (i : Int) * 1048576 → SumOK bigB i n d → n * denL L = S * d →
    SumOK bigB (i + o.length) (losV L o e n d).1 (losV L o e n d).2 ∧ (losV L o e n d).1 * denL L = (S + lossG (wA L) (cA L) o e.toNat) * (losV L o e n d).2 := by
  induction o with
  | nil =>
    intro e i n d S _ _ _ _ hS h
    refine ⟨hS, ?_⟩
    show n * denL L = (S + 0) * d
    rw [Nat.add_zero]; exact h
  | cons x r ih =>
    intro e i n d S ho hi e0 e1 hS h
    obtain ⟨x0, x1⟩ := ho x List.mem_cons_self
    have hi2 : i + (r.length + 1) ≤ 64 := hi
    have hck := itA_chk hc x0 x1
    have hok := itA_ok hL x0 x1
    have hcb := costA_in hc x0 x1
    have hw := wA_eq x0 x1
    obtain ⟨q1, q2, l1, l2, y0, yg⟩ := chkI_val hok hck
    have hcA : cA L x = (costA L x).toNat := rfl
    have hE : (e + costA L x).toNat = e.toNat + cA L x := by rw [hcA]; omega
    have hE2 : (e + costA L x).toNat ≤ 67108864 := by omega
    rw [losV_cons]
    have hml := mul_len (valN (itA L x.toNat).l1) (e + costA L x).toNat
    have hy1 : (ofN (valN (itA L x.toNat).l1)).length ≤ 1 := ofN_len_le (by rw [show wN 1 = 4294967296 from rfl]; exact l1)
    have hy2 : (ofN (valN (itA L x.toNat).l2)).length ≤ 1 := ofN_len_le (by rw [show wN 1 = 4294967296 from rfl]; exact l2)
    have hEl : (ofN (e + costA L x).toNat).length ≤ 1 := ofN_len_le (by rw [show wN 1 = 4294967296 from rfl]; omega)
    obtain ⟨t0, t1, t2, t3, _⟩ := exF_small (x := valN (itA L x.toNat).l1 * (e + costA L x).toNat) (y := valN (itA L x.toNat).l2) y0 (by omega) (by omega)
    have t4 := exF_mul t0
    have hXB : valN (itA L x.toNat).l1 * (e + costA L x).toNat ≤ bigB := Nat.le_trans (Nat.mul_le_mul (Nat.le_of_lt l1) hE2) (by decide)
    obtain ⟨t, ht⟩ : ∃ t, t = exF (valN (itA L x.toNat).l1 * (e + costA L x).toNat) (valN (itA L x.toNat).l2) := ⟨_, rfl⟩
    rw [← ht] at t0 t1 t2 t3 t4 ⊢
    clear ht
    obtain ⟨tt, u1, u2⟩ := t
    simp only at t0 t1 t2 t3 t4 ⊢
    obtain ⟨s1, s2⟩ := hS.add (n' := u1) (d' := u2) (by omega) bigB_fits (Nat.le_trans t1 hXB) t3 (by omega)
    have s3 := exF_mul s1
    obtain ⟨s, hs⟩ : ∃ s, s = exF (n * u2 + u1 * d) (d * u2) := ⟨_, rfl⟩
    rw [← hs] at s1 s2 s3 ⊢
    clear hs
    obtain ⟨ss, v1, v2⟩ := s
    simp only at s1 s2 s3 ⊢
    have key := sum_alg hS.pos t3 y0 s3 t4 h hw
    obtain ⟨r1, r2⟩ := ih (e + costA L x) (i + 1) v1 v2 (S + wA L x * (e + costA L x).toNat) (fun y hy => ho y (List.mem_cons_of_mem _ hy)) (by omega) (by omega) (by omega) s2 key
    refine ⟨by rw [List.length_cons, show i + (r.length + 1) = i + 1 + r.length by omega]; exact r1, ?_⟩
    rw [r2]
    simp only [lossG]
    rw [hE, Nat.add_assoc]
theorem losP_sum {M : Mem} {L : List IR} {o : List Int} (hL : okIL M L) (h : errO L o = 0) : SumOK bigB o.length (losP L o).1 (losP L o).2 ∧ (losP L o).1 * denL L = lossG (wA L) (cA L) o 0 * (losP L o).2 := by
  obtain ⟨hc, h64, hol, hin⟩ := errO_zero h
  unfold losP
  rw [if_pos h]
  have := losV_sum hL hc o 0 0 0 1 0 hin (by omega) (by omega) (by omega) (SumOK.zero _) (by simp)
  rw [Nat.zero_add, Nat.zero_add] at this
  exact this
theorem losP_len {M : Mem} {L : List IR} {o : List Int} (hL : okIL M L) (h : errO L o = 0) : (ofN (losP L o).1).length ≤ 128 ∧ (ofN (losP L o).2).length ≤ 128 := by
  obtain ⟨hc, h64, hol, hin⟩ := errO_zero h
  exact (losP_sum hL h).1.len (by omega) bigB_fits
def toI (Z : List Nat) : List Int := Z.map fun (x : Nat) => (x : Int)
end Go.Proofs.Ytjapnklocibgaaa.Sx
namespace Go.Proofs.Ytjapnklocibgaaa.Sx
open Go Go.RowKit
set_option linter.unusedVariables false
set_option linter.unusedSimpArgs false
set_option maxRecDepth 100000
set_option maxHeartbeats 8000000
attribute [local congr] fin_congr finG_congr stepG_congr step1_congr runOps_congr brv_congr obl_congr condK_congr LoopK_congr seqK_congr CutK_congr vc_congr DrawK_congr regK_congr CallK_congr AskK_congr newK_congr retC_congr ret1_congr retK_congr outV_congr closeK_congr genR_congr appR_congr finD_congr finGD_congr stepGD_congr stepD_congr CallK0_congr runD_congr okR_congr CallS_congr vcX_congr
attribute [local congr] Stop_congr
theorem toI_len (Z : List Nat) : (toI Z).length = Z.length := by unfold toI; rw [List.length_map]
section
variable {M : Mem} {K : AV → Hp → Mem → Prop}
end
end Go.Proofs.Ytjapnklocibgaaa.Sx
namespace Go.Proofs.Ytjapnklocibgaaa.Sx
open Go Go.RowKit
set_option linter.unusedVariables false
set_option linter.unusedSimpArgs false
set_option maxRecDepth 100000
set_option maxHeartbeats 8000000
attribute [local congr] fin_congr finG_congr stepG_congr step1_congr runOps_congr brv_congr obl_congr condK_congr LoopK_congr seqK_congr CutK_congr vc_congr DrawK_congr regK_congr CallK_congr AskK_congr newK_congr retC_congr ret1_congr retK_congr outV_congr closeK_congr genR_congr appR_congr finD_congr finGD_congr stepGD_congr stepD_congr CallK0_congr runD_congr okR_congr CallS_congr vcX_congr
attribute [local congr] Stop_congr
section
variable {M : Mem} {K : AV → Hp → Mem → Prop}
def shSt31 (M : Mem) (u : Value) (p N i : Nat) (Z : List Nat) : St := { env := [(6, .ext (.int .i64 (i : Int))), (5, .slo 1000005 0 i 1), (1, .ext (.int .i64 (N : Int))), (0, .own 31 0)], hp := [(1000005, 3, cE natV Z), (31, 25, [.ext u, .ext (.int .i64 (p : Int))])], M := M, kb := 1000000, fx := [31] }
theorem shuf31_ok (u : Value) (l : List Int) (p N : Nat) (hu : IsL M intV64 u l) (hp : p < 100000) (hN : N < 1000) (hK : ∀ v Z M', Mem.le M M' → Z.Perm (List.range N) → IsL M' intV64 v (toI Z) → FreshS M v → K (.ext v) [(31, 25, [.ext u, .ext (.int .i64 ((p + N : Nat) : Int))])] M') :
    CallS Try.prog 13 [.own 31 0, .ext (.int .i64 (N : Int))] [(31, 25, [.ext u, .ext (.int .i64 (p : Int))])] M [] K := by
  refine CallS.frzF ?_
  refine inlS (cs := []) Try.mixed Try.func13 rfl (by kernel_rfl) 1000000 rfl rfl ?_
  simp only [Try.f13]
  refine Go1.mk ?_; repeat' ((first | (with_reducible refine Go1.go ?_) | (refine And.intro ?_ ?_; (try simp only [sxO] at *); omega) | fail) <;> (try simp (maxSteps := 1000000) only [hasK_nil, hu.one, ↓hold_pre, awayP, runOps, regK, step1, newK, genR, appR, obl, buildR, Value.cells, closeK, keepH, outV, retK, ret1, retC, RetV, Option.getD, runD, stepD, afterK, undef, simprocAttr, sxB, ↓sxD, sxE, sxTab]))
  refine ⟨fun d z => ∃ Z i, d = N - i ∧ i ≤ N ∧ Z.Perm (List.range i) ∧ z = shSt31 M u (p + i) N i Z,
    ⟨N, shSt31 M u p N 0 [], (le_nil 5 1000005 3 1 rfl (.inl (by simp [awayB, mentE, mentH, mentL, AV.ment, hasK]))).trans (le_sub ⟨rfl, rfl, rfl, rfl, trivial⟩ ⟨by simp [lkH, shSt31, cE], by simp [lkH, shSt31], trivial⟩ rfl rfl rfl (by simp [keepLt, shSt31, lkH])), ⟨[], 0, by omega, by omega, List.Perm.refl _, rfl⟩⟩, ?_⟩
  rintro d z ⟨Z, i, rfl, hi, hZ, rfl⟩
  have hZl : Z.length = i := by rw [hZ.length_eq, List.length_range]
  have hlen : (cE natV Z).length = i := by rw [cE_len, hZl]
  by_cases hlt : i < N
  case neg =>
    obtain rfl : i = N := by omega
    have d1 : decide ((i : Int) < (i : Int)) = false := by simp
    refine Go1.mk ?_; repeat' ((first | (with_reducible refine Go1.go ?_) | (refine And.intro ?_ ?_; (try simp only [sxO] at *); omega) | fail) <;> (try simp (maxSteps := 1000000) only [shSt31, d1, cE_ment, cE_kill, hasK_nil, hu.one, ↓hold_pre, awayP, runOps, regK, step1, newK, genR, appR, obl, buildR, Value.cells, closeK, keepH, outV, retK, ret1, retC, RetV, Option.getD, runD, stepD, afterK, undef, simprocAttr, sxB, ↓sxD, sxE, sxTab]))
    refine FrzF.keep (Z.map natV) rfl (by rw [List.length_map, hZl]) (by simp [mentH, mentL, AV.ment, hasK]) rfl fun v M3 h1 h2 h3 => hK v Z M3 h1 hZ ?_ h3
    rw [← hZl, ← List.length_map (f := natV)] at h2
    exact IsL.nat (l := Z) (by rw [List.length_map] at h2; exact h2)
  have d1 : decide ((i : Int) < (N : Int)) = true := by rw [decide_eq_true_eq]; omega
  have hw : IntKind.i64.wrap ((i : Int) + 1) = ((i + 1 : Nat) : Int) := succ_i (by omega)
  refine Go1.mk ?_; repeat' ((first | (with_reducible refine Go1.go ?_) | ((with_reducible refine isCall (f := 18) ?_); refine callA ?_) | ((with_reducible refine isCallS (f := 18) ?_); refine (nextI_ok 31 u l (p + i) ((i + 1 : Nat) : Int) hu (by omega) (by omega) (by omega) (fun x hx0 hx1 => Stop.mk ?_))) | (refine And.intro ?_ ?_; (try simp only [sxO] at *); omega) | fail) <;> (try simp (maxSteps := 1000000) only [shSt31, d1, hw, cE_ment, cE_kill, hasK_nil, hu.one, ↓hold_pre, awayP, runOps, regK, step1, newK, genR, appR, obl, buildR, Value.cells, closeK, keepH, outV, retK, ret1, retC, RetV, Option.getD, runD, stepD, afterK, undef, simprocAttr, sxB, ↓sxD, sxE, sxTab]))
  obtain ⟨a, rfl⟩ := Int.eq_ofNat_of_zero_le hx0
  have ha : a ≤ i := by omega
  have b2 : (a : Int) ≤ (i : Int) := by omega
  have b3 : (0 : Int) ≤ (a : Int) := by omega
  have b4 : (0 : Int) ≤ (i : Int) := by omega
  have hnew : cE natV (Z.take a) ++ AV.ext (.int .i64 (i : Int)) :: cE natV ((Z.drop a).take (i - a)) = cE natV (Z.take a ++ i :: Z.drop a) := by
    rw [List.take_of_length_le (l := Z.drop a) (by rw [List.length_drop]; omega)]
    simp [cE, natV]
  have hsum : a + (1 + (i - a)) = i + 1 := by omega
  have hdl : ((Z.drop a).take (i - a)).length = i - a := by rw [List.length_take, List.length_drop]; omega
  have htw : List.take (1 + (i - a)) (AV.ext (.int .i64 (i : Int)) :: cE natV ((Z.drop a).take (i - a))) = AV.ext (.int .i64 (i : Int)) :: cE natV ((Z.drop a).take (i - a)) := List.take_of_length_le (by rw [List.length_cons, cE_len, hdl]; omega)
  have hso : 1 + (i - a) ≤ i - a + 1 := by omega
  have hz2 := ins_perm a hZ
  have hao := fun l => eq_true (allOne_cE natV (fun _ => rfl) l)
  refine Stop.go ?_
  refine Go1.mk ?_; repeat' ((first | (with_reducible refine Go1.go ?_) | ((with_reducible refine isDraw [some 17, some 18, some 19, some 20, some 21, some 22, some 23, some 24, some 25, some 26, some 5] (by decide) ?_); refine draw_rule [(0, []), (1, []), (2, []), (3, []), (4, []), (5, []), (6, []), (7, []), (8, [0, 1, 2]), (9, []), (10, [])] [[], [], [0, 1], [], [3], [], [], [5, 6], [3, 4, 5, 6, 7], [0, 1, 2, 3, 4, 5, 6, 7, 8], [0, 1, 2, 3, 4, 5, 6, 7, 8, 9]] [17, 18, 19, 20, 21, 22, 23, 24, 25] [] (by kernel_rfl) (by kernel_rfl) (by kernel_rfl) (by kernel_rfl) (by exact trivial) ?_) | (refine And.intro ?_ ?_; (try simp only [sxO] at *); omega) | fail) <;> (try simp (maxSteps := 1000000) only [hw, hnew, hsum, hdl, htw, hso, slops_hi, slops_lo, hlen, hao, b2, b3, b4, cE_len, cE_take, cE_drop, cE_ment, cE_kill, hasK_nil, Nat.mul_one, Nat.zero_add, Nat.sub_zero, hu.one, Int.toNat_natCast, Int.toNat_zero, ↓hold_pre, awayP, runOps, regK, step1, newK, genR, appR, obl, buildR, Value.cells, closeK, keepH, outV, retK, ret1, retC, RetV, Option.getD, runD, stepD, afterK, undef, simprocAttr, sxB, ↓sxD, sxE, sxTab]))
  exact ⟨N - (i + 1), shSt31 M u (p + (i + 1)) N (i + 1) (Z.take a ++ i :: Z.drop a), by omega, le_sub ⟨rfl, rfl, rfl, rfl, trivial⟩ ⟨by simp [lkH, shSt31], by simp [lkH, shSt31]; omega, trivial⟩ rfl rfl rfl (by simp [keepLt, shSt31, lkH]), _, i + 1, rfl, by omega, hz2, rfl⟩
end
end Go.Proofs.Ytjapnklocibgaaa.Sx
namespace Go.Proofs.Ytjapnklocibgaaa.Sx
open Go Go.RowKit
set_option linter.unusedVariables false
set_option linter.unusedSimpArgs false
set_option maxRecDepth 100000
set_option maxHeartbeats 8000000
attribute [local congr] fin_congr finG_congr stepG_congr step1_congr runOps_congr brv_congr obl_congr condK_congr LoopK_congr seqK_congr CutK_congr vc_congr DrawK_congr regK_congr CallK_congr AskK_congr newK_congr retC_congr ret1_congr retK_congr outV_congr closeK_congr genR_congr appR_congr finD_congr finGD_congr stepGD_congr stepD_congr CallK0_congr runD_congr okR_congr CallS_congr vcX_congr
attribute [local congr] Stop_congr
section
variable {M : Mem} {K : AV → Hp → Mem → Prop} {u v : Value} {L : List IR} {o : List Int}
def hiSt (M : Mem) (u : Value) (x : Int) (i : Nat) : St := { env := [(5, .ext (.int .i64 (i : Int))), (1, .ext (.int .i64 x)), (0, .ext u)], hp := [], M := M, kb := 0, fx := [] }
theorem hasInt_ok (u : Value) (l : List Int) (x : Int) (hu : IsL M intV64 u l) (hb : l.length < 1000000000) (hK : K (.ext (.bool (l.contains x))) [] M) : CallS Try.prog 46 [.ext u, .ext (.int .i64 x)] [] M [] K := by
  refine inlS (cs := []) Try.mixed Try.func46 rfl (by kernel_rfl) 0 rfl rfl ?_
  simp only [Try.f46]
  refine Go1.mk ?_; repeat' ((first | (with_reducible refine Go1.go ?_) | (refine And.intro ?_ ?_; (try simp only [sxO] at *); omega) | fail) <;> (try simp (maxSteps := 1000000) only [hu.one, hu.len, hu.sl, ↓hold_pre, awayP, runOps, regK, step1, newK, genR, appR, obl, buildR, Value.cells, closeK, keepH, outV, retK, ret1, retC, RetV, Option.getD, runD, stepD, afterK, undef, simprocAttr, sxB, ↓sxD, sxE, sxTab]))
  refine ⟨fun m z => ∃ i, i ≤ l.length ∧ (∀ y ∈ l.take i, y ≠ x) ∧ m = l.length - i ∧ z = hiSt M u x i, ⟨l.length, hiSt M u x 0, le_sub ⟨rfl, rfl, rfl, trivial⟩ trivial rfl rfl rfl (keepLt0 _), ⟨0, by omega, by simp, rfl, rfl⟩⟩, ?_⟩
  rintro m z ⟨i, hi, hno, rfl, rfl⟩
  by_cases hlt : i < l.length
  case neg =>
    have f1 := hu.fin hlt
    obtain rfl : i = l.length := by omega
    have e : l.contains x = false := by
      rw [List.take_length] at hno
      cases h : l.contains x with
      | false => rfl
      | true => exact absurd rfl (hno x (by simpa using h))
    rw [e] at hK
    refine Go1.mk ?_; repeat' ((first | (with_reducible refine Go1.go ?_) | (refine And.intro ?_ ?_; (try simp only [sxO] at *); omega) | fail) <;> (try simp (maxSteps := 1000000) only [hiSt, f1, ↓hold_pre, awayP, runOps, regK, step1, newK, genR, appR, obl, buildR, Value.cells, closeK, keepH, outV, retK, ret1, retC, RetV, Option.getD, runD, stepD, afterK, undef, simprocAttr, sxB, ↓sxD, sxE, sxTab]))
    exact hK
  have f1 := hu.idx (P := Try.prog) (T := 3) tk3 tz3 (by omega) hlt
  have htk : l.take (i + 1) = l.take i ++ [l[i]] := by rw [List.take_add_one, List.getElem?_eq_getElem hlt]; rfl
  by_cases hx : l[i] = x
  · have d1 : decide (l[i] = x) = true := decide_eq_true hx
    have e : l.contains x = true := by rw [List.contains_iff_mem]; exact hx ▸ List.getElem_mem hlt
    rw [e] at hK
    refine Go1.mk ?_; repeat' ((first | (with_reducible refine Go1.go ?_) | (refine And.intro ?_ ?_; (try simp only [sxO] at *); omega) | fail) <;> (try simp (maxSteps := 1000000) only [hiSt, f1, intV64, d1, ↓hold_pre, awayP, runOps, regK, step1, newK, genR, appR, obl, buildR, Value.cells, closeK, keepH, outV, retK, ret1, retC, RetV, Option.getD, runD, stepD, afterK, undef, simprocAttr, sxB, ↓sxD, sxE, sxTab]))
    exact hK
  · have d1 : decide (l[i] = x) = false := decide_eq_false hx
    refine Go1.mk ?_; repeat' ((first | (with_reducible refine Go1.go ?_) | (refine And.intro ?_ ?_; (try simp only [sxO] at *); omega) | fail) <;> (try simp (maxSteps := 1000000) only [hiSt, f1, intV64, d1, ↓hold_pre, awayP, runOps, regK, step1, newK, genR, appR, obl, buildR, Value.cells, closeK, keepH, outV, retK, ret1, retC, RetV, Option.getD, runD, stepD, afterK, undef, simprocAttr, sxB, ↓sxD, sxE, sxTab]))
    refine ⟨l.length - (i + 1), hiSt M u x (i + 1), by omega, le_sub ⟨rfl, rfl, rfl, trivial⟩ trivial rfl rfl rfl (keepLt0 _), i + 1, by omega, ?_, rfl, rfl⟩
    rw [htk]
    intro y hy
    rcases List.mem_append.1 hy with hy | hy
    · exact hno y hy
    · rw [List.mem_singleton.1 hy]; exact hx
def rkSt (M : Mem) (u v : Value) (i : Nat) : St := { env := [(5, .ext (.int .i64 (i : Int))), (1, .ext v), (0, .ext u)], hp := [], M := M, kb := 0, fx := [] }
theorem rcheckO_ok (hu : IsR M 5 IR.c u L) (hL : okIL M L) (hb : L.length < 1000000) (hv : IsL M intV64 v o) (hb2 : o.length < 1000000) (hK : ∀ M', Mem.le M M' → K (.ext (.int .i64 (errO L o))) [] M') : CallS Try.prog 53 [.ext u, .ext v] [] M [] K := by
  refine inlS (cs := []) Try.mixed Try.func53 rfl (by kernel_rfl) 0 rfl rfl ?_
  simp only [Try.f53]
  refine Go1.mk ?_; repeat' ((first | (with_reducible refine Go1.go ?_) | (((with_reducible refine isCall (f := 26) ?_); refine callA_nil (by kernel_rfl) ?_; refine (rcheck29_ok hu hL hb (fun M1 m1 => Stop.mk ?_)))) | (refine And.intro ?_ ?_; (try simp only [sxO] at *); omega) | fail) <;> (try simp (maxSteps := 1000000) only [hu.one, hv.one, ↓hold_pre, awayP, runOps, regK, step1, newK, genR, appR, obl, buildR, Value.cells, closeK, keepH, outV, retK, ret1, retC, RetV, Option.getD, runD, stepD, afterK, undef, simprocAttr, sxB, ↓sxD, sxE, sxTab]))
  have m1 : Mem.le M M1 := m1
  unfold errO at hK
  cases hc : chkIL L with
  | false =>
    rw [hc] at hK
    have hk := hK M1 m1
    refine Stop.go ?_
    refine Go1.mk ?_; repeat' ((first | (with_reducible refine Go1.go ?_) | (refine And.intro ?_ ?_; (try simp only [sxO] at *); omega) | fail) <;> (try simp (maxSteps := 1000000) only [↓hold_pre, awayP, runOps, regK, step1, newK, genR, appR, obl, buildR, Value.cells, closeK, keepH, outV, retK, ret1, retC, RetV, Option.getD, runD, stepD, afterK, undef, simprocAttr, sxB, ↓sxD, sxE, sxTab]))
    exact hk
  | true =>
    rw [hc] at hK
    simp only [if_true] at hK
    have hk := hK M1 m1
    have hu1 := hu.le m1
    have hv1 := hv.le m1
    by_cases hn : o.length = L.length
    case neg =>
      have d1 : decide ((o.length : Int) = (L.length : Int)) = false := by rw [decide_eq_false_iff_not]; omega
      have e : permB L.length o = false := by unfold permB; rw [decide_eq_false hn]; rfl
      rw [e] at hk
      refine Stop.go ?_
      refine Go1.mk ?_; repeat' ((first | (with_reducible refine Go1.go ?_) | (refine And.intro ?_ ?_; (try simp only [sxO] at *); omega) | fail) <;> (try simp (maxSteps := 1000000) only [hu1.one, hu1.len, hu1.sl, hv1.one, hv1.len, hv1.sl, d1, ↓hold_pre, awayP, runOps, regK, step1, newK, genR, appR, obl, buildR, Value.cells, closeK, keepH, outV, retK, ret1, retC, RetV, Option.getD, runD, stepD, afterK, undef, simprocAttr, sxB, ↓sxD, sxE, sxTab]))
      exact hk
    have d1 : decide ((o.length : Int) = (L.length : Int)) = true := by rw [decide_eq_true_eq]; omega
    refine Stop.go ?_
    refine Go1.mk ?_; repeat' ((first | (with_reducible refine Go1.go ?_) | (refine And.intro ?_ ?_; (try simp only [sxO] at *); omega) | fail) <;> (try simp (maxSteps := 1000000) only [hu1.one, hu1.len, hu1.sl, hv1.one, hv1.len, hv1.sl, d1, ↓hold_pre, awayP, runOps, regK, step1, newK, genR, appR, obl, buildR, Value.cells, closeK, keepH, outV, retK, ret1, retC, RetV, Option.getD, runD, stepD, afterK, undef, simprocAttr, sxB, ↓sxD, sxE, sxTab]))
    refine ⟨fun m z => ∃ i, m = L.length - i ∧ i ≤ L.length ∧ (∀ j : Nat, j < i → o.contains (j : Int) = true) ∧ z = rkSt M1 u v i,
      ⟨L.length, rkSt M1 u v 0, le_sub ⟨rfl, rfl, rfl, trivial⟩ trivial rfl rfl rfl (keepLt0 _), ⟨0, by omega, by omega, fun j hj => by omega, rfl⟩⟩, ?_⟩
    rintro m z ⟨i, rfl, hi, hin, rfl⟩
    by_cases hlt : i < L.length
    case neg =>
      obtain rfl : i = L.length := by omega
      have d2 : decide ((L.length : Int) < (L.length : Int)) = false := by simp
      have e : permB L.length o = true := by
        unfold permB
        rw [decide_eq_true hn, Bool.true_and, List.all_eq_true]
        intro x hx
        obtain ⟨h0, h1⟩ := mem_placesI.1 hx
        obtain ⟨j, rfl⟩ := Int.eq_ofNat_of_zero_le h0
        exact hin j (by omega)
      rw [e] at hk
      refine Go1.mk ?_; repeat' ((first | (with_reducible refine Go1.go ?_) | (refine And.intro ?_ ?_; (try simp only [sxO] at *); omega) | fail) <;> (try simp (maxSteps := 1000000) only [rkSt, hu1.one, hu1.len, hu1.sl, hv1.one, d2, ↓hold_pre, awayP, runOps, regK, step1, newK, genR, appR, obl, buildR, Value.cells, closeK, keepH, outV, retK, ret1, retC, RetV, Option.getD, runD, stepD, afterK, undef, simprocAttr, sxB, ↓sxD, sxE, sxTab]))
      exact hk
    have d2 : decide ((i : Int) < (L.length : Int)) = true := by rw [decide_eq_true_eq]; omega
    have wi : IntKind.i64.wrap ((i : Int) + 1) = ((i + 1 : Nat) : Int) := succ_i (by omega)
    cases hci : o.contains (i : Int) with
    | false =>
      have e : permB L.length o = false := by
        cases hp : permB L.length o with
        | false => rfl
        | true =>
          unfold permB at hp
          rw [Bool.and_eq_true, List.all_eq_true] at hp
          rw [hp.2 (i : Int) (mem_placesI.2 ⟨by omega, by omega⟩)] at hci
          cases hci
      rw [e] at hk
      refine Go1.mk ?_; repeat' ((first | (with_reducible refine Go1.go ?_) | (((with_reducible refine isCall (f := 46) ?_); refine callA_nil (by kernel_rfl) ?_; refine (hasInt_ok v o (i : Int) hv1 (by omega) (Stop.mk ?_)))) | (refine And.intro ?_ ?_; (try simp only [sxO] at *); omega) | fail) <;> (try simp (maxSteps := 1000000) only [rkSt, hu1.one, hu1.len, hu1.sl, hv1.one, d2, hci, ↓hold_pre, awayP, runOps, regK, step1, newK, genR, appR, obl, buildR, Value.cells, closeK, keepH, outV, retK, ret1, retC, RetV, Option.getD, runD, stepD, afterK, undef, simprocAttr, sxB, ↓sxD, sxE, sxTab]))
      refine Stop.go ?_
      refine Go1.mk ?_; repeat' ((first | (with_reducible refine Go1.go ?_) | (refine And.intro ?_ ?_; (try simp only [sxO] at *); omega) | fail) <;> (try simp (maxSteps := 1000000) only [hci, ↓hold_pre, awayP, runOps, regK, step1, newK, genR, appR, obl, buildR, Value.cells, closeK, keepH, outV, retK, ret1, retC, RetV, Option.getD, runD, stepD, afterK, undef, simprocAttr, sxB, ↓sxD, sxE, sxTab]))
      exact hk
    | true =>
      refine Go1.mk ?_; repeat' ((first | (with_reducible refine Go1.go ?_) | (((with_reducible refine isCall (f := 46) ?_); refine callA_nil (by kernel_rfl) ?_; refine (hasInt_ok v o (i : Int) hv1 (by omega) (Stop.mk ?_)))) | (refine And.intro ?_ ?_; (try simp only [sxO] at *); omega) | fail) <;> (try simp (maxSteps := 1000000) only [rkSt, hu1.one, hu1.len, hu1.sl, hv1.one, d2, hci, ↓hold_pre, awayP, runOps, regK, step1, newK, genR, appR, obl, buildR, Value.cells, closeK, keepH, outV, retK, ret1, retC, RetV, Option.getD, runD, stepD, afterK, undef, simprocAttr, sxB, ↓sxD, sxE, sxTab]))
      refine Stop.go ?_
      refine Go1.mk ?_; repeat' ((first | (with_reducible refine Go1.go ?_) | (refine And.intro ?_ ?_; (try simp only [sxO] at *); omega) | fail) <;> (try simp (maxSteps := 1000000) only [hci, wi, ↓hold_pre, awayP, runOps, regK, step1, newK, genR, appR, obl, buildR, Value.cells, closeK, keepH, outV, retK, ret1, retC, RetV, Option.getD, runD, stepD, afterK, undef, simprocAttr, sxB, ↓sxD, sxE, sxTab]))
      exact ⟨L.length - (i + 1), rkSt M1 u v (i + 1), by omega, le_sub ⟨rfl, rfl, rfl, trivial⟩ trivial rfl rfl rfl (keepLt0 _), i + 1, rfl, by omega, fun j hj => by
        by_cases e : j = i
        · rw [e]; exact hci
        · exact hin j (by omega), rfl⟩
def rpSt (M : Mem) (u v : Value) (i : Nat) (b e : Int) : St := { env := [(10, .ext (.int .i64 (i : Int))), (9, .ext (.int .i64 e)), (2, .ext (.int .i64 b)), (1, .ext v), (0, .ext u)], hp := [], M := M, kb := 0, fx := [] }
theorem rprefix_ok (b : Int) (hu : IsR M 5 IR.c u L) (hL : okIL M L) (hb : L.length < 1000000) (hv : IsL M intV64 v o) (hb2 : o.length < 1000000) (hK : ∀ M', Mem.le M M' → K (.ext (.tuple #[.int .i64 ((preN L o b : Nat) : Int), .int .i64 (errO L o)])) [] M') : CallS Try.prog 31 [.ext u, .ext v, .ext (.int .i64 b)] [] M [] K := by
  refine inlS (cs := []) Try.mixed Try.func31 rfl (by kernel_rfl) 0 rfl rfl ?_
  simp only [Try.f31]
  refine Go1.mk ?_; repeat' ((first | (with_reducible refine Go1.go ?_) | (((with_reducible refine isCall (f := 53) ?_); refine callA_nil (by kernel_rfl) ?_; refine (rcheckO_ok hu hL hb hv hb2 (fun M1 m1 => Stop.mk ?_)))) | (refine And.intro ?_ ?_; (try simp only [sxO] at *); omega) | fail) <;> (try simp (maxSteps := 1000000) only [hu.one, hv.one, ↓hold_pre, awayP, runOps, regK, step1, newK, genR, appR, obl, buildR, Value.cells, closeK, keepH, outV, retK, ret1, retC, RetV, Option.getD, runD, stepD, afterK, undef, simprocAttr, sxB, ↓sxD, sxE, sxTab]))
  have m1 : Mem.le M M1 := m1
  have hk := hK M1 m1
  have hu1 := hu.le m1
  have hv1 := hv.le m1
  unfold preN at hk
  by_cases h0 : errO L o = 0
  case neg =>
    have d1 : decide (errO L o = 0) = false := decide_eq_false h0
    rw [if_neg h0] at hk
    refine Stop.go ?_
    refine Go1.mk ?_; repeat' ((first | (with_reducible refine Go1.go ?_) | (refine And.intro ?_ ?_; (try simp only [sxO] at *); omega) | fail) <;> (try simp (maxSteps := 1000000) only [d1, ↓hold_pre, awayP, runOps, regK, step1, newK, genR, appR, obl, buildR, Value.cells, closeK, keepH, outV, retK, ret1, retC, RetV, Option.getD, runD, stepD, afterK, undef, simprocAttr, sxB, ↓sxD, sxE, sxTab]))
    exact hk
  obtain ⟨hci, h64, hol, hin⟩ := errO_zero h0
  rw [h0] at hk
  simp only [if_true] at hk
  refine Stop.go ?_
  refine Go1.mk ?_; repeat' ((first | (with_reducible refine Go1.go ?_) | (refine And.intro ?_ ?_; (try simp only [sxO] at *); omega) | fail) <;> (try simp (maxSteps := 1000000) only [h0, hv1.one, hv1.len, hv1.sl, ↓hold_pre, awayP, runOps, regK, step1, newK, genR, appR, obl, buildR, Value.cells, closeK, keepH, outV, retK, ret1, retC, RetV, Option.getD, runD, stepD, afterK, undef, simprocAttr, sxB, ↓sxD, sxE, sxTab]))
  refine ⟨fun m z => ∃ i e, m = o.length - i ∧ i ≤ o.length ∧ 0 ≤ e ∧ e ≤ (i : Int) * 1048576 ∧ preG L b (o.drop i) e i = preG L b o 0 0 ∧ z = rpSt M1 u v i b e,
    ⟨o.length, rpSt M1 u v 0 b 0, le_sub ⟨rfl, rfl, rfl, rfl, rfl, trivial⟩ trivial rfl rfl rfl (keepLt0 _), ⟨0, 0, by omega, by omega, by omega, by omega, rfl, rfl⟩⟩, ?_⟩
  rintro m z ⟨i, e, rfl, hi, e0, e1, hp, rfl⟩
  by_cases hlt : i < o.length
  case neg =>
    obtain rfl : i = o.length := by omega
    have d1 : decide ((o.length : Int) < (o.length : Int)) = false := by simp
    rw [List.drop_length] at hp
    rw [← hp] at hk
    refine Go1.mk ?_; repeat' ((first | (with_reducible refine Go1.go ?_) | (refine And.intro ?_ ?_; (try simp only [sxO] at *); omega) | fail) <;> (try simp (maxSteps := 1000000) only [rpSt, hv1.one, hv1.len, hv1.sl, d1, ↓hold_pre, awayP, runOps, regK, step1, newK, genR, appR, obl, buildR, Value.cells, closeK, keepH, outV, retK, ret1, retC, RetV, Option.getD, runD, stepD, afterK, undef, simprocAttr, sxB, ↓sxD, sxE, sxTab]))
    exact hk
  have d1 : decide ((i : Int) < (o.length : Int)) = true := by rw [decide_eq_true_eq]; omega
  have b1 : (0 : Int) ≤ (i : Int) := by omega
  have b2 : (i : Int) < (o.length : Int) := by omega
  have hnn := hv1.nn hlt
  have hat := hv1.at (P := Try.prog) (T := 3) tk3 tz3 hlt
  have wi : IntKind.i64.wrap ((i : Int) + 1) = ((i + 1 : Nat) : Int) := succ_i (by omega)
  obtain ⟨x0, x1⟩ := hin _ (List.getElem_mem hlt)
  have hdr : o.drop i = o[i] :: o.drop (i + 1) := List.drop_eq_getElem_cons hlt
  rw [hdr] at hp
  have hcb := costA_in hci x0 x1
  have hat : lookM Try.prog 3 M1 (elemP v 1 i) = some (.int .i64 o[i]) := hat
  generalize o[i] = x at *
  obtain ⟨k, rfl⟩ := Int.eq_ofNat_of_zero_le x0
  have hkl : k < L.length := by omega
  have b3 : (0 : Int) ≤ (k : Int) := by omega
  have b4 : (k : Int) < (L.length : Int) := by omega
  have p1 := hu1.pt hkl
  have hnu := hu1.nn hkl
  have hco : costA L (k : Int) = L[k].cost := by unfold costA; rw [Int.toNat_natCast, itA_in hkl]
  have hac := hu1.atF (P := Try.prog) (T := 3) (fun _ => rfl) tk3 tz3 hkl (o := 4) (v := .int .i64 L[k].cost) rfl
  rw [← hco] at hac
  rw [preG_cons] at hp
  generalize costA L (k : Int) = co at *
  have we : IntKind.i64.wrap (e + co) = e + co := wrap_id (by omega) (by omega)
  by_cases hlt2 : b < e + co
  · have d2 : decide (b < e + co) = true := decide_eq_true hlt2
    rw [if_pos hlt2] at hp
    rw [← hp] at hk
    refine Go1.mk ?_; repeat' ((first | (with_reducible refine Go1.go ?_) | (refine And.intro ?_ ?_; (try simp only [sxO] at *); omega) | fail) <;> (try simp (maxSteps := 1000000) only [rpSt, hu1.one, hu1.len, hu1.sl, hv1.one, hv1.len, hv1.sl, hnn, hnu, p1, d1, b1, b2, b3, b4, hat, hac, we, d2, ↓hold_pre, awayP, runOps, regK, step1, newK, genR, appR, obl, buildR, Value.cells, closeK, keepH, outV, retK, ret1, retC, RetV, Option.getD, runD, stepD, afterK, undef, simprocAttr, sxB, ↓sxD, sxE, sxTab]))
    exact hk
  · have d2 : decide (b < e + co) = false := decide_eq_false hlt2
    rw [if_neg hlt2] at hp
    refine Go1.mk ?_; repeat' ((first | (with_reducible refine Go1.go ?_) | (refine And.intro ?_ ?_; (try simp only [sxO] at *); omega) | fail) <;> (try simp (maxSteps := 1000000) only [rpSt, hu1.one, hu1.len, hu1.sl, hv1.one, hv1.len, hv1.sl, hnn, hnu, p1, d1, b1, b2, b3, b4, hat, hac, we, d2, wi, ↓hold_pre, awayP, runOps, regK, step1, newK, genR, appR, obl, buildR, Value.cells, closeK, keepH, outV, retK, ret1, retC, RetV, Option.getD, runD, stepD, afterK, undef, simprocAttr, sxB, ↓sxD, sxE, sxTab]))
    exact ⟨o.length - (i + 1), rpSt M1 u v (i + 1) b (e + co), by omega, le_sub ⟨rfl, rfl, rfl, rfl, rfl, trivial⟩ trivial rfl rfl rfl (keepLt0 _), i + 1, e + co, rfl, by omega, by omega, by omega, hp, rfl⟩
end
end Go.Proofs.Ytjapnklocibgaaa.Sx
namespace Go.Proofs.Ytjapnklocibgaaa.Sx
open Go Go.RowKit
set_option linter.unusedVariables false
set_option linter.unusedSimpArgs false
set_option maxRecDepth 100000
set_option maxHeartbeats 8000000
attribute [local congr] fin_congr finG_congr stepG_congr step1_congr runOps_congr brv_congr obl_congr condK_congr LoopK_congr seqK_congr CutK_congr vc_congr DrawK_congr regK_congr CallK_congr AskK_congr newK_congr retC_congr ret1_congr retK_congr outV_congr closeK_congr genR_congr appR_congr finD_congr finGD_congr stepGD_congr stepD_congr CallK0_congr runD_congr okR_congr CallS_congr vcX_congr
attribute [local congr] Stop_congr
section
variable {M : Mem} {K : AV → Hp → Mem → Prop} {u v : Value} {L : List IR} {o : List Int}
def rfSt (M : Mem) (u v w1 w2 : Value) (p i : Nat) : St := { env := [(11, .ext (.int .i64 (i : Int))), (10, .own 10 0), (8, .ext (.int .i64 (p : Int))), (6, .own 6 0), (1, .ext v), (0, .ext u)], hp := [(10, 34, [.ext w1, .ext w2]), (6, 34, [.ext (.slice none 0 0), .ext (.slice none 0 0)])], M := M, kb := 0, fx := [] }
theorem rfound_ok (b : Int) (hu : IsR M 5 IR.c u L) (hL : okIL M L) (hb : L.length < 1000000) (hv : IsL M intV64 v o) (hb2 : o.length < 1000000) (hK : FracK M K (errO L o, (fouP L o b).1, (fouP L o b).2)) : CallS Try.prog 32 [.ext u, .ext v, .ext (.int .i64 b)] [] M [] K := by
  refine inlS (cs := []) Try.mixed Try.func32 rfl (by kernel_rfl) 0 rfl rfl ?_
  simp only [Try.f32]
  refine Go1.mk ?_; repeat' ((first | (with_reducible refine Go1.go ?_) | (((with_reducible refine isCall (f := 31) ?_); refine callA_nil (by kernel_rfl) ?_; refine (rprefix_ok b hu hL hb hv hb2 (fun M1 m1 => Stop.mk ?_)))) | (refine And.intro ?_ ?_; (try simp only [sxO] at *); omega) | fail) <;> (try simp (maxSteps := 1000000) only [hu.one, hv.one, ↓hold_pre, awayP, runOps, regK, step1, newK, genR, appR, obl, buildR, Value.cells, closeK, keepH, outV, retK, ret1, retC, RetV, Option.getD, runD, stepD, afterK, undef, simprocAttr, sxB, ↓sxD, sxE, sxTab]))
  have m1 : Mem.le M M1 := m1
  have hu1 := hu.le m1
  have hL1 := hL.le m1
  have hv1 := hv.le m1
  unfold fouP at hK
  by_cases h0 : errO L o = 0
  case neg =>
    have d1 : decide (errO L o = 0) = false := decide_eq_false h0
    rw [if_neg h0] at hK
    refine Stop.go ?_
    refine Go1.mk ?_; repeat' ((first | (with_reducible refine Go1.go ?_) | (refine And.intro ?_ ?_; (try simp only [sxO] at *); omega) | fail) <;> (try simp (maxSteps := 1000000) only [d1, ↓hold_pre, awayP, runOps, regK, step1, newK, genR, appR, obl, buildR, Value.cells, closeK, keepH, outV, retK, ret1, retC, RetV, Option.getD, runD, stepD, afterK, undef, simprocAttr, sxB, ↓sxD, sxE, sxTab]))
    exact hK.err _ m1
  obtain ⟨hci, h64, hol, hin⟩ := errO_zero h0
  rw [h0] at hK
  simp only [if_true] at hK
  have hpl := preN_le L o b
  obtain ⟨p, hpp⟩ : ∃ p, p = preN L o b := ⟨_, rfl⟩
  rw [← hpp] at hK hpl
  refine Stop.go ?_
  rw [← hpp]
  refine Go1.mk ?_; repeat' ((first | (with_reducible refine Go1.go ?_) | (((with_reducible refine isCall (f := 54) ?_); refine callA_nil (by kernel_rfl) ?_; refine (rwhole_ok 0 (by decide) (fun w1 w2 M2 a1 a2 a3 a4 a5 => Stop.mk ?_)))) | (refine And.intro ?_ ?_; (try simp only [sxO] at *); omega) | fail) <;> (try simp (maxSteps := 1000000) only [h0, hv1.one, ↓hold_pre, awayP, runOps, regK, step1, newK, genR, appR, obl, buildR, Value.cells, closeK, keepH, outV, retK, ret1, retC, RetV, Option.getD, runD, stepD, afterK, undef, simprocAttr, sxB, ↓sxD, sxE, sxTab]))
  have a1 : Mem.le M1 M2 := a1
  have hv2 := hv1.le a1
  refine Stop.go ?_
  refine Go1.mk ?_; repeat' ((first | (with_reducible refine Go1.go ?_) | (refine And.intro ?_ ?_; (try simp only [sxO] at *); omega) | fail) <;> (try simp (maxSteps := 1000000) only [hv2.one, hv2.sl, hv2.len, a2.one, a3.one, ↓hold_pre, awayP, runOps, regK, step1, newK, genR, appR, obl, buildR, Value.cells, closeK, keepH, outV, retK, ret1, retC, RetV, Option.getD, runD, stepD, afterK, undef, simprocAttr, sxB, ↓sxD, sxE, sxTab]))
  obtain ⟨q, hq⟩ : ∃ q, q = o.take p := ⟨_, rfl⟩
  have hsl : q.length = p := by rw [hq, List.length_take]; omega
  rw [← hq] at hK
  refine ⟨fun m z => ∃ M' w1 w2 n d i, m = q.length - i ∧ i ≤ q.length ∧ Mem.le M2 M' ∧ IsL M' u32V w1 (ofN n) ∧ IsL M' u32V w2 (ofN d) ∧ FreshS M1 w1 ∧ FreshS M1 w2 ∧ SumOK 4294967296 i n d ∧ sumV L (q.drop i) n d = sumV L q 0 1 ∧ z = rfSt M' u v w1 w2 p i,
    ⟨q.length, rfSt M2 u v w1 w2 p 0, le_sub ⟨rfl, rfl, rfl, rfl, rfl, rfl, trivial⟩ ⟨rfl, rfl, trivial⟩ rfl rfl rfl (keepLt0 _), ⟨M2, w1, w2, 0, 1, 0, by omega, by omega, Mem.le.refl _, a2, a3, a4, a5, SumOK.zero _, rfl, rfl⟩⟩, ?_⟩
  have hqin : ∀ x ∈ q, 0 ≤ x ∧ x < (L.length : Int) := fun x hx => hin x (List.mem_of_mem_take (hq ▸ hx))
  clear a2 a3 a4 a5
  rintro m z ⟨M3, w1, w2, n, d, i, rfl, hi, hM, hw1, hw2, fw1, fw2, hS, hp, rfl⟩
  have hv3 := hv2.le hM
  have hM1 := a1.trans hM
  have hu3 := hu1.le hM1
  have hL3 := hL1.le hM1
  by_cases hlt : i < q.length
  case neg =>
    obtain rfl : i = q.length := by omega
    have d1 : decide ((q.length : Int) < (p : Int)) = false := by rw [decide_eq_false_iff_not]; omega
    rw [List.drop_length] at hp
    rw [← hp] at hK
    refine Go1.mk ?_; repeat' ((first | (with_reducible refine Go1.go ?_) | (refine And.intro ?_ ?_; (try simp only [sxO] at *); omega) | fail) <;> (try simp (maxSteps := 1000000) only [rfSt, hv3.one, hw1.one, hw2.one, d1, ↓hold_pre, awayP, runOps, regK, step1, newK, genR, appR, obl, buildR, Value.cells, closeK, keepH, outV, retK, ret1, retC, RetV, Option.getD, runD, stepD, afterK, undef, simprocAttr, sxB, ↓sxD, sxE, sxTab]))
    exact hK _ _ _ (m1.trans hM1) hw1 hw2 (fw1.le m1) (fw2.le m1)
  have d1 : decide ((i : Int) < (p : Int)) = true := by rw [decide_eq_true_eq]; omega
  have b1 : (0 : Int) ≤ (i : Int) := by omega
  have hlo : i < o.length := by omega
  have b2 : (i : Int) < (o.length : Int) := by omega
  have hnn := hv3.nn hlo
  have hat := hv3.at (P := Try.prog) (T := 3) tk3 tz3 hlo
  have hqo : q[i] = o[i] := by simp [hq]
  have wi : IntKind.i64.wrap ((i : Int) + 1) = ((i + 1 : Nat) : Int) := succ_i (by omega)
  obtain ⟨x0, x1⟩ := hqin _ (List.getElem_mem hlt)
  have hdr : q.drop i = q[i] :: q.drop (i + 1) := List.drop_eq_getElem_cons hlt
  rw [hdr, sumV_cons] at hp
  rw [hqo] at hp x0 x1
  have hat : lookM Try.prog 3 M3 (elemP v 1 i) = some (.int .i64 o[i]) := hat
  clear hqo
  generalize o[i] = x at *
  obtain ⟨k, rfl⟩ := Int.eq_ofNat_of_zero_le x0
  have hkl : k < L.length := by omega
  have b3 : (0 : Int) ≤ (k : Int) := by omega
  have b4 : (k : Int) < (L.length : Int) := by omega
  have p1 := hu3.pt hkl
  have hnu := hu3.nn hkl
  have hac := hu3.part (P := Try.prog) (fun _ => rfl) tk34 tz34 (o := 2) hkl (by decide)
  rw [Int.toNat_natCast, itA_in hkl] at hp
  have hck := hci _ (List.getElem_mem hkl)
  have hxo := hL3 _ (List.getElem_mem hkl)
  generalize L[k] = y at *
  obtain ⟨e1, e2, l1, l2, y0, yg⟩ := chkI_val hxo hck
  obtain ⟨hchk, _⟩ := chkI_parts hck
  obtain ⟨pk, ts, x1', x2', y1, y2, co⟩ := y
  have hac : lookM Try.prog 34 M3 (addP (elemP u 5 k) 2) = some (.agg #[x1', x2']) := hac
  have hF1 : IsF M3 x1' x2' y1 y2 := hxo.f
  simp only at e1 e2 l1 l2 y0 yg hchk hp
  obtain ⟨s1, s2⟩ := hS.add (by omega) fits_two (Nat.le_of_lt l1) y0 (Nat.le_of_lt l2)
  have hlen := hS.len (by omega) fits_two
  have hadd : addF (ofN n) (ofN d) y1 y2 = exF (n * valN y2 + valN y1 * d) (d * valN y2) := by
    unfold addF
    rw [hS.chk (by omega) fits_two, hchk, Bool.and_self, if_pos rfl, valN_ofN, valN_ofN]
  refine Go1.mk ?_; repeat' ((first | (with_reducible refine Go1.go ?_) | (((with_reducible refine isCall0 (f := 56) ?_); refine callA0_nil (by kernel_rfl) ?_; refine (rfadd_ok ⟨hw1, hw2, okN_ofN _, okN_ofN _, by omega, by omega⟩ hF1 (fun v1 v2 M4 f1 f2 f3 f4 f5 => Stop.mk ?_)))) | ((with_reducible refine isDraw [some 30, some 31, some 32, some 33, some 34, some 35, some 36, some 37, some 38, some 39, some 29, some 40, some 41, none] (by decide) ?_); refine draw_rule [(0, []), (1, [0]), (2, [0]), (3, [0]), (4, [0]), (5, [0]), (6, [0]), (7, [0]), (8, [0]), (9, []), (10, []), (11, []), (12, []), (13, [])] [[], [], [], [], [2, 3], [2, 3, 4], [1, 2, 3, 4, 5], [1, 2, 3, 4, 5, 6], [1, 2, 3, 4, 5, 6, 7], [0, 1, 2, 3, 4, 5, 6, 7, 8], [0, 1, 2, 3, 4, 5, 6, 7, 8, 9], [0, 1, 2, 3, 4, 5, 6, 7, 8, 9, 10], [0, 1, 2, 3, 4, 5, 6, 7, 8, 9, 10], [0, 1, 2, 3, 4, 5, 6, 7, 8, 9, 10, 11]] [30, 31, 32, 33, 34, 35, 36, 37, 38, 40, 41] [] (by kernel_rfl) (by kernel_rfl) (by kernel_rfl) (by kernel_rfl) (by exact trivial) ?_) | (refine And.intro ?_ ?_; (try simp only [sxO] at *); omega) | fail) <;> (try simp (maxSteps := 1000000) only [rfSt, hu3.one, hu3.len, hu3.sl, hv3.one, hv3.len, hv3.sl, hnn, hnu, p1, d1, b1, b2, b3, b4, hat, hac, hw1.one, hw2.one, hF1.n.one, hF1.d.one, ↓hold_pre, awayP, runOps, regK, step1, newK, genR, appR, obl, buildR, Value.cells, closeK, keepH, outV, retK, ret1, retC, RetV, Option.getD, runD, stepD, afterK, undef, simprocAttr, sxB, ↓sxD, sxE, sxTab]))
  have f1 : Mem.le M3 M4 := f1
  rw [hadd] at f2 f3
  refine Stop.go ?_
  refine Go1.mk ?_; repeat' ((first | (with_reducible refine Go1.go ?_) | ((with_reducible refine isDraw [some 30, some 31, some 32, some 33, some 34, some 35, some 36, some 37, some 38, some 39, some 29, some 40, some 41, none] (by decide) ?_); refine draw_rule [(0, []), (1, [0]), (2, [0]), (3, [0]), (4, [0]), (5, [0]), (6, [0]), (7, [0]), (8, [0]), (9, []), (10, []), (11, []), (12, []), (13, [])] [[], [], [], [], [2, 3], [2, 3, 4], [1, 2, 3, 4, 5], [1, 2, 3, 4, 5, 6], [1, 2, 3, 4, 5, 6, 7], [0, 1, 2, 3, 4, 5, 6, 7, 8], [0, 1, 2, 3, 4, 5, 6, 7, 8, 9], [0, 1, 2, 3, 4, 5, 6, 7, 8, 9, 10], [0, 1, 2, 3, 4, 5, 6, 7, 8, 9, 10], [0, 1, 2, 3, 4, 5, 6, 7, 8, 9, 10, 11]] [30, 31, 32, 33, 34, 35, 36, 37, 38, 40, 41] [] (by kernel_rfl) (by kernel_rfl) (by kernel_rfl) (by kernel_rfl) (by exact trivial) ?_) | (refine And.intro ?_ ?_; (try simp only [sxO] at *); omega) | fail) <;> (try simp (maxSteps := 1000000) only [f2.one, f3.one, wi, ↓hold_pre, awayP, runOps, regK, step1, newK, genR, appR, obl, buildR, Value.cells, closeK, keepH, outV, retK, ret1, retC, RetV, Option.getD, runD, stepD, afterK, undef, simprocAttr, sxB, ↓sxD, sxE, sxTab]))
  exact ⟨q.length - (i + 1), rfSt M4 u v v1 v2 p (i + 1), by omega, le_sub ⟨rfl, rfl, rfl, rfl, rfl, rfl, trivial⟩ ⟨rfl, rfl, trivial⟩ rfl rfl rfl (keepLt0 _), M4, v1, v2, _, _, i + 1, rfl, by omega, hM.trans f1, f2, f3, f4.le hM1, f5.le hM1, s2, hp, rfl⟩
def rlSt (M : Mem) (u v w1 w2 : Value) (n i : Nat) (e : Int) : St := { env := [(9, .ext (.int .i64 (i : Int))), (8, .ext (.int .i64 e)), (7, .own 7 0), (4, .own 4 0), (1, .ext v), (0, .ext u)], hp := [(7, 34, [.ext w1, .ext w2]), (4, 34, [.ext (.slice none 0 0), .ext (.slice none 0 0)])], M := M, kb := 0, fx := [] }
theorem rloss_ok (hu : IsR M 5 IR.c u L) (hL : okIL M L) (hb : L.length < 1000000) (hv : IsL M intV64 v o) (hb2 : o.length < 1000000) (hK : FracK M K (errO L o, (losP L o).1, (losP L o).2)) : CallS Try.prog 29 [.ext u, .ext v] [] M [] K := by
  refine inlS (cs := []) Try.mixed Try.func29 rfl (by kernel_rfl) 0 rfl rfl ?_
  simp only [Try.f29]
  refine Go1.mk ?_; repeat' ((first | (with_reducible refine Go1.go ?_) | (((with_reducible refine isCall (f := 53) ?_); refine callA_nil (by kernel_rfl) ?_; refine (rcheckO_ok hu hL hb hv hb2 (fun M1 m1 => Stop.mk ?_)))) | (refine And.intro ?_ ?_; (try simp only [sxO] at *); omega) | fail) <;> (try simp (maxSteps := 1000000) only [hu.one, hv.one, ↓hold_pre, awayP, runOps, regK, step1, newK, genR, appR, obl, buildR, Value.cells, closeK, keepH, outV, retK, ret1, retC, RetV, Option.getD, runD, stepD, afterK, undef, simprocAttr, sxB, ↓sxD, sxE, sxTab]))
  have m1 : Mem.le M M1 := m1
  have hu1 := hu.le m1
  have hL1 := hL.le m1
  have hv1 := hv.le m1
  unfold losP at hK
  by_cases h0 : errO L o = 0
  case neg =>
    have d1 : decide (errO L o = 0) = false := decide_eq_false h0
    rw [if_neg h0] at hK
    refine Stop.go ?_
    refine Go1.mk ?_; repeat' ((first | (with_reducible refine Go1.go ?_) | (refine And.intro ?_ ?_; (try simp only [sxO] at *); omega) | fail) <;> (try simp (maxSteps := 1000000) only [d1, ↓hold_pre, awayP, runOps, regK, step1, newK, genR, appR, obl, buildR, Value.cells, closeK, keepH, outV, retK, ret1, retC, RetV, Option.getD, runD, stepD, afterK, undef, simprocAttr, sxB, ↓sxD, sxE, sxTab]))
    exact hK.err _ m1
  obtain ⟨hci, h64, hol, hin⟩ := errO_zero h0
  rw [h0] at hK
  simp only [if_true] at hK
  refine Stop.go ?_
  refine Go1.mk ?_; repeat' ((first | (with_reducible refine Go1.go ?_) | ((first | ((with_reducible refine isCall (f := 54) ?_); refine callA_nil (by kernel_rfl) ?_) | ((with_reducible refine isCall0 (f := 54) ?_); refine callA0_nil (by kernel_rfl) ?_)); refine (rwhole_ok 0 (by decide) (fun w1 w2 M2 a1 a2 a3 a4 a5 => Stop.mk ?_))) | (refine And.intro ?_ ?_; (try simp only [sxO] at *); omega) | fail) <;> (try simp (maxSteps := 1000000) only [h0, hv1.one, ↓hold_pre, awayP, runOps, regK, step1, newK, genR, appR, obl, buildR, Value.cells, closeK, keepH, outV, retK, ret1, retC, RetV, Option.getD, runD, stepD, afterK, undef, simprocAttr, sxB, ↓sxD, sxE, sxTab]))
  have a1 : Mem.le M1 M2 := a1
  have hv2 := hv1.le a1
  refine Stop.go ?_
  refine Go1.mk ?_; repeat' ((first | (with_reducible refine Go1.go ?_) | (refine And.intro ?_ ?_; (try simp only [sxO] at *); omega) | fail) <;> (try simp (maxSteps := 1000000) only [hv2.one, hv2.sl, hv2.len, a2.one, a3.one, ↓hold_pre, awayP, runOps, regK, step1, newK, genR, appR, obl, buildR, Value.cells, closeK, keepH, outV, retK, ret1, retC, RetV, Option.getD, runD, stepD, afterK, undef, simprocAttr, sxB, ↓sxD, sxE, sxTab]))
  refine ⟨fun m z => ∃ M' w1 w2 n d i e, m = o.length - i ∧ i ≤ o.length ∧ Mem.le M2 M' ∧ IsL M' u32V w1 (ofN n) ∧ IsL M' u32V w2 (ofN d) ∧ FreshS M1 w1 ∧ FreshS M1 w2 ∧ SumOK bigB i n d ∧ 0 ≤ e ∧ e ≤ (i : Int) * 1048576 ∧ losV L (o.drop i) e n d = losV L o 0 0 1 ∧ z = rlSt M' u v w1 w2 o.length i e,
    ⟨o.length, rlSt M2 u v w1 w2 o.length 0 0, le_sub ⟨rfl, rfl, rfl, rfl, rfl, rfl, trivial⟩ ⟨rfl, rfl, trivial⟩ rfl rfl rfl (keepLt0 _), ⟨M2, w1, w2, 0, 1, 0, 0, by omega, by omega, Mem.le.refl _, a2, a3, a4, a5, SumOK.zero _, by omega, by omega, rfl, rfl⟩⟩, ?_⟩
  clear a2 a3 a4 a5
  rintro m z ⟨M3, w1, w2, n, d, i, e, rfl, hi, hM, hw1, hw2, fw1, fw2, hS, e0, e1, hp, rfl⟩
  have hv3 := hv2.le hM
  have hM1 := a1.trans hM
  have hu3 := hu1.le hM1
  have hL3 := hL1.le hM1
  by_cases hlt : i < o.length
  case neg =>
    obtain rfl : i = o.length := by omega
    have d1 : decide ((o.length : Int) < (o.length : Int)) = false := by simp
    rw [List.drop_length] at hp
    rw [← hp] at hK
    refine Go1.mk ?_; repeat' ((first | (with_reducible refine Go1.go ?_) | (refine And.intro ?_ ?_; (try simp only [sxO] at *); omega) | fail) <;> (try simp (maxSteps := 1000000) only [rlSt, hv3.one, hv3.len, hv3.sl, hw1.one, hw2.one, d1, ↓hold_pre, awayP, runOps, regK, step1, newK, genR, appR, obl, buildR, Value.cells, closeK, keepH, outV, retK, ret1, retC, RetV, Option.getD, runD, stepD, afterK, undef, simprocAttr, sxB, ↓sxD, sxE, sxTab]))
    exact hK _ _ _ (m1.trans hM1) hw1 hw2 (fw1.le m1) (fw2.le m1)
  have d1 : decide ((i : Int) < (o.length : Int)) = true := by rw [decide_eq_true_eq]; omega
  have b1 : (0 : Int) ≤ (i : Int) := by omega
  have b2 : (i : Int) < (o.length : Int) := by omega
  have hnn := hv3.nn hlt
  have hat := hv3.at (P := Try.prog) (T := 3) tk3 tz3 hlt
  have wi : IntKind.i64.wrap ((i : Int) + 1) = ((i + 1 : Nat) : Int) := succ_i (by omega)
  obtain ⟨x0, x1⟩ := hin _ (List.getElem_mem hlt)
  have hdr : o.drop i = o[i] :: o.drop (i + 1) := List.drop_eq_getElem_cons hlt
  rw [hdr, losV_cons] at hp
  have hcb := costA_in hci x0 x1
  have hat : lookM Try.prog 3 M3 (elemP v 1 i) = some (.int .i64 o[i]) := hat
  generalize o[i] = x at *
  obtain ⟨k, rfl⟩ := Int.eq_ofNat_of_zero_le x0
  have hkl : k < L.length := by omega
  have b3 : (0 : Int) ≤ (k : Int) := by omega
  have b4 : (k : Int) < (L.length : Int) := by omega
  have p1 := hu3.pt hkl
  have hnu := hu3.nn hkl
  have ha5 := hu3.at (P := Try.prog) (T := 46) (fun _ => rfl) tk46 tz46 hkl
  have hco : costA L (k : Int) = L[k].cost := by unfold costA; rw [Int.toNat_natCast, itA_in hkl]
  rw [Int.toNat_natCast, itA_in hkl] at hp
  generalize costA L (k : Int) = co at *
  have hck := hci _ (List.getElem_mem hkl)
  have hxo := hL3 _ (List.getElem_mem hkl)
  generalize L[k] = y at *
  obtain ⟨q1, q2, l1, l2, y0, yg⟩ := chkI_val hxo hck
  obtain ⟨hchk, _⟩ := chkI_parts hck
  obtain ⟨pk, ts, x1', x2', y1, y2, co'⟩ := y
  have ha5 : lookM Try.prog 46 M3 (elemP u 5 k) = some (.agg #[.string (bs pk), .string (bs ts), x1', x2', .int .i64 co']) := ha5
  have hco : co = co' := hco
  subst hco
  have hF1 : IsF M3 x1' x2' y1 y2 := hxo.f
  simp only at q1 q2 l1 l2 y0 yg hchk hp
  have we : IntKind.i64.wrap (e + co) = e + co := wrap_id (by omega) (by omega)
  obtain ⟨E, hE⟩ := Int.eq_ofNat_of_zero_le (show 0 ≤ e + co by omega)
  rw [hE] at we
  have hE26 : E ≤ 67108864 := by omega
  rw [hE, Int.toNat_natCast] at hp
  have hEl : (ofN E).length ≤ 1 := ofN_len_le (by rw [show wN 1 = 4294967296 from rfl]; omega)
  have h1l : (ofN 1).length ≤ 1 := by rw [ofN_u32 (by decide) (by decide)]; decide
  have hEc : chkF (ofN E) (ofN 1) = true := by
    unfold chkF
    rw [chkN_ofN (by omega), chkN_ofN (by omega), valN_ofN, valN_ofN, Nat.gcd_one_right]; rfl
  have hmul : mulF y1 y2 (ofN E) (ofN 1) = exF (valN y1 * E) (valN y2) := by
    unfold mulF
    rw [hchk, hEc, Bool.and_self, if_pos rfl, valN_ofN, valN_ofN, Nat.mul_one]
  have hml := mul_len (valN y1) E
  have hy1 : (ofN (valN y1)).length ≤ 1 := ofN_len_le (by rw [show wN 1 = 4294967296 from rfl]; exact l1)
  have hy2 : (ofN (valN y2)).length ≤ 1 := ofN_len_le (by rw [show wN 1 = 4294967296 from rfl]; exact l2)
  obtain ⟨t0, t1, t2, t3, t4⟩ := exF_small (x := valN y1 * E) (y := valN y2) y0 (by omega) (by omega)
  have hXB : valN y1 * E ≤ bigB := Nat.le_trans (Nat.mul_le_mul (Nat.le_of_lt l1) hE26) (by decide)
  rw [← hmul] at t0 t1 t2 t3 t4 hp
  have tl := mulF_len' y1 y2 (ofN E) (ofN 1)
  obtain ⟨s1, s2⟩ := hS.add (n' := (mulF y1 y2 (ofN E) (ofN 1)).2.1) (d' := (mulF y1 y2 (ofN E) (ofN 1)).2.2) (by omega) bigB_fits (Nat.le_trans t1 hXB) t3 (by omega)
  have hlen := hS.len (by omega) bigB_fits
  have hadd : addF (ofN n) (ofN d) (ofN (mulF y1 y2 (ofN E) (ofN 1)).2.1) (ofN (mulF y1 y2 (ofN E) (ofN 1)).2.2) = exF (n * (mulF y1 y2 (ofN E) (ofN 1)).2.2 + (mulF y1 y2 (ofN E) (ofN 1)).2.1 * d) (d * (mulF y1 y2 (ofN E) (ofN 1)).2.2) := addF_of (hS.chk (by omega) bigB_fits) t4
  clear hmul hml hXB q1 q2 t1 t2
  refine Go1.mk ?_; repeat' ((first | (with_reducible refine Go1.go ?_) | ((first | ((with_reducible refine isCall (f := 54) ?_); refine callA_nil (by kernel_rfl) ?_) | ((with_reducible refine isCall0 (f := 54) ?_); refine callA0_nil (by kernel_rfl) ?_)); refine (rwhole_ok E (by omega) (fun w3 w4 M4 c1 c2 c3 c4 c5 => Stop.mk ?_))) | ((with_reducible refine isDraw [some 39, some 40, some 41, some 42, some 43, some 38, some 44, some 45, some 11, none, some 12] (by decide) ?_); refine draw_rule [(0, []), (1, []), (2, [1]), (8, [1]), (3, [1]), (4, []), (5, []), (6, []), (7, []), (9, []), (10, [])] [[], [0], [], [2], [0, 1, 2, 3], [0, 1, 2, 3, 4], [0, 1, 2, 3, 4, 5], [0, 1, 2, 3, 4, 5], [], [0, 1, 2, 3, 4, 5, 6, 8], [0, 1, 2, 3, 4, 5, 6, 7, 8, 9]] [39, 40, 41, 42, 43, 38, 44, 45, 11] [] (by kernel_rfl) (by kernel_rfl) (by kernel_rfl) (by kernel_rfl) (by exact trivial) ?_) | (refine And.intro ?_ ?_; (try simp only [sxO] at *); omega) | fail) <;> (try simp (maxSteps := 1000000) only [rlSt, hu3.one, hu3.len, hu3.sl, hv3.one, hv3.len, hv3.sl, hnn, hnu, p1, d1, b1, b2, b3, b4, hat, ha5, bs_mk, bs_app, bs_ext, bs_size, bs_toList, bs_at, bs_cells, List.take_length, imp_ga, guard_pk, guard_pk2, hE, we, hw1.one, hw2.one, hF1.n.one, hF1.d.one, ↓hold_pre, awayP, runOps, regK, step1, newK, genR, appR, obl, buildR, Value.cells, closeK, keepH, outV, retK, ret1, retC, RetV, Option.getD, runD, stepD, afterK, undef, simprocAttr, sxB, ↓sxD, sxE, sxTab]))
  have c1 : Mem.le M3 M4 := c1
  have hF4 := hF1.le c1
  have hw1' := hw1.le c1
  have hw2' := hw2.le c1
  refine Stop.go ?_
  refine Go1.mk ?_; repeat' ((first | (with_reducible refine Go1.go ?_) | (((with_reducible refine isCall0 (f := 55) ?_); refine callA0_nil (by kernel_rfl) ?_; refine (rfmul_ok hF4 ⟨c2, c3, okN_ofN _, okN_ofN _, by omega, by omega⟩ (fun v1 v2 M5 f1 f2 f3 f4 f5 => Stop.mk ?_)))) | ((with_reducible refine isDraw [some 39, some 40, some 41, some 42, some 43, some 38, some 44, some 45, some 11, none, some 12] (by decide) ?_); refine draw_rule [(0, []), (1, []), (2, [1]), (8, [1]), (3, [1]), (4, []), (5, []), (6, []), (7, []), (9, []), (10, [])] [[], [0], [], [2], [0, 1, 2, 3], [0, 1, 2, 3, 4], [0, 1, 2, 3, 4, 5], [0, 1, 2, 3, 4, 5], [], [0, 1, 2, 3, 4, 5, 6, 8], [0, 1, 2, 3, 4, 5, 6, 7, 8, 9]] [39, 40, 41, 42, 43, 38, 44, 45, 11] [] (by kernel_rfl) (by kernel_rfl) (by kernel_rfl) (by kernel_rfl) (by exact trivial) ?_) | (refine And.intro ?_ ?_; (try simp only [sxO] at *); omega) | fail) <;> (try simp (maxSteps := 1000000) only [hF4.n.one, hF4.d.one, c2.one, c3.one, ↓hold_pre, awayP, runOps, regK, step1, newK, genR, appR, obl, buildR, Value.cells, closeK, keepH, outV, retK, ret1, retC, RetV, Option.getD, runD, stepD, afterK, undef, simprocAttr, sxB, ↓sxD, sxE, sxTab]))
  have f1 : Mem.le M4 M5 := f1
  have hw1' := hw1'.le f1
  have hw2' := hw2'.le f1
  have d2 : decide ((mulF y1 y2 (ofN E) (ofN 1)).1 = 0) = true := decide_eq_true t0
  refine Stop.go ?_
  refine Go1.mk ?_; repeat' ((first | (with_reducible refine Go1.go ?_) | (((with_reducible refine isCall (f := 56) ?_); refine callA_nil (by kernel_rfl) ?_; refine (rfadd_ok ⟨hw1', hw2', okN_ofN _, okN_ofN _, by omega, by omega⟩ ⟨f2, f3, okN_ofN _, okN_ofN _, by omega, by omega⟩ (fun v3 v4 M6 g1 g2 g3 g4 g5 => Stop.mk ?_)))) | ((with_reducible refine isDraw [some 39, some 40, some 41, some 42, some 43, some 38, some 44, some 45, some 11, none, some 12] (by decide) ?_); refine draw_rule [(0, []), (1, []), (2, [1]), (8, [1]), (3, [1]), (4, []), (5, []), (6, []), (7, []), (9, []), (10, [])] [[], [0], [], [2], [0, 1, 2, 3], [0, 1, 2, 3, 4], [0, 1, 2, 3, 4, 5], [0, 1, 2, 3, 4, 5], [], [0, 1, 2, 3, 4, 5, 6, 8], [0, 1, 2, 3, 4, 5, 6, 7, 8, 9]] [39, 40, 41, 42, 43, 38, 44, 45, 11] [] (by kernel_rfl) (by kernel_rfl) (by kernel_rfl) (by kernel_rfl) (by exact trivial) ?_) | (refine And.intro ?_ ?_; (try simp only [sxO] at *); omega) | fail) <;> (try simp (maxSteps := 1000000) only [f2.one, f3.one, hw1'.one, hw2'.one, d2, ↓hold_pre, awayP, runOps, regK, step1, newK, genR, appR, obl, buildR, Value.cells, closeK, keepH, outV, retK, ret1, retC, RetV, Option.getD, runD, stepD, afterK, undef, simprocAttr, sxB, ↓sxD, sxE, sxTab]))
  have g1 : Mem.le M5 M6 := g1
  rw [hadd] at g2 g3
  have d3 : decide ((addF (ofN n) (ofN d) (ofN (mulF y1 y2 (ofN E) (ofN 1)).2.1) (ofN (mulF y1 y2 (ofN E) (ofN 1)).2.2)).1 = 0) = true := by rw [hadd]; exact decide_eq_true s1
  refine Stop.go ?_
  refine Go1.mk ?_; repeat' ((first | (with_reducible refine Go1.go ?_) | ((with_reducible refine isDraw [some 39, some 40, some 41, some 42, some 43, some 38, some 44, some 45, some 11, none, some 12] (by decide) ?_); refine draw_rule [(0, []), (1, []), (2, [1]), (8, [1]), (3, [1]), (4, []), (5, []), (6, []), (7, []), (9, []), (10, [])] [[], [0], [], [2], [0, 1, 2, 3], [0, 1, 2, 3, 4], [0, 1, 2, 3, 4, 5], [0, 1, 2, 3, 4, 5], [], [0, 1, 2, 3, 4, 5, 6, 8], [0, 1, 2, 3, 4, 5, 6, 7, 8, 9]] [39, 40, 41, 42, 43, 38, 44, 45, 11] [] (by kernel_rfl) (by kernel_rfl) (by kernel_rfl) (by kernel_rfl) (by exact trivial) ?_) | (refine And.intro ?_ ?_; (try simp only [sxO] at *); omega) | fail) <;> (try simp (maxSteps := 1000000) only [g2.one, g3.one, d3, wi, ↓hold_pre, awayP, runOps, regK, step1, newK, genR, appR, obl, buildR, Value.cells, closeK, keepH, outV, retK, ret1, retC, RetV, Option.getD, runD, stepD, afterK, undef, simprocAttr, sxB, ↓sxD, sxE, sxTab]))
  have hMM := (c1.trans f1).trans g1
  exact ⟨o.length - (i + 1), rlSt M6 u v v3 v4 o.length (i + 1) (E : Int), by omega, le_sub ⟨rfl, rfl, rfl, rfl, rfl, rfl, trivial⟩ ⟨rfl, rfl, trivial⟩ rfl rfl rfl (keepLt0 _), M6, v3, v4, _, _, i + 1, (E : Int), rfl, by omega, hM.trans hMM, g2, g3, g4.le (hM1.trans (c1.trans f1)), g5.le (hM1.trans (c1.trans f1)), s2, by omega, by omega, hp, rfl⟩
end
end Go.Proofs.Ytjapnklocibgaaa.Sx
namespace Go.Proofs.Ytjapnklocibgaaa.Sx
open Go
set_option maxRecDepth 100000
set_option linter.unusedVariables false
def sumW (L : List IR) : List Int → Nat
  | [] => 0
  | x :: r => wA L x + sumW L r
theorem sumV_sum {M : Mem} {L : List IR} (hL : okIL M L) (hc : ∀ x ∈ L, chkI x = true) (o : List Int) : ∀ (i n d S : Nat), (∀ x ∈ o, 0 ≤ x ∧ x < (L.length : Int)) → i + o.length ≤ 64 → SumOK 4294967296 i n d → n * denL L = S * d →
    SumOK 4294967296 (i + o.length) (sumV L o n d).1 (sumV L o n d).2 ∧ (sumV L o n d).1 * denL L = (S + sumW L o) * (sumV L o n d).2 := by
  induction o with
  | nil =>
    intro i n d S _ _ hS h
    refine ⟨hS, ?_⟩
    show n * denL L = (S + 0) * d
    rw [Nat.add_zero]; exact h
  | cons x r ih =>
    intro i n d S ho hi hS h
    obtain ⟨x0, x1⟩ := ho x List.mem_cons_self
    have hi2 : i + (r.length + 1) ≤ 64 := hi
    have hck := itA_chk hc x0 x1
    have hok := itA_ok hL x0 x1
    have hw := wA_eq x0 x1
    obtain ⟨q1, q2, l1, l2, y0, yg⟩ := chkI_val hok hck
    rw [sumV_cons]
    obtain ⟨s1, s2⟩ := hS.add (n' := valN (itA L x.toNat).l1) (d' := valN (itA L x.toNat).l2) (by omega) fits_two (Nat.le_of_lt l1) y0 (Nat.le_of_lt l2)
    have s3 := exF_mul s1
    obtain ⟨s, hs⟩ : ∃ s, s = exF (n * valN (itA L x.toNat).l2 + valN (itA L x.toNat).l1 * d) (d * valN (itA L x.toNat).l2) := ⟨_, rfl⟩
    rw [← hs] at s1 s2 s3 ⊢
    clear hs
    obtain ⟨ss, v1, v2⟩ := s
    simp only at s1 s2 s3 ⊢
    have key := sum_alg (E := 1) hS.pos y0 y0 s3 (by rw [Nat.mul_one]) h hw
    rw [Nat.mul_one] at key
    obtain ⟨r1, r2⟩ := ih (i + 1) v1 v2 (S + wA L x) (fun y hy => ho y (List.mem_cons_of_mem _ hy)) (by omega) s2 key
    refine ⟨by rw [List.length_cons, show i + (r.length + 1) = i + 1 + r.length by omega]; exact r1, ?_⟩
    rw [r2]
    simp only [sumW]
    rw [Nat.add_assoc]
theorem fouP_sum {M : Mem} {L : List IR} {o : List Int} (b : Int) (hL : okIL M L) (h : errO L o = 0) : SumOK 4294967296 (o.take (preN L o b)).length (fouP L o b).1 (fouP L o b).2 ∧ (fouP L o b).1 * denL L = sumW L (o.take (preN L o b)) * (fouP L o b).2 := by
  obtain ⟨hc, h64, hol, hin⟩ := errO_zero h
  unfold fouP
  rw [if_pos h]
  have hlt : (o.take (preN L o b)).length ≤ o.length := by rw [List.length_take]; omega
  have := sumV_sum hL hc (o.take (preN L o b)) 0 0 1 0 (fun x hx => hin x (List.mem_of_mem_take hx)) (by omega) (SumOK.zero _) (by simp)
  rw [Nat.zero_add, Nat.zero_add] at this
  exact this
theorem fouP_len {M : Mem} {L : List IR} {o : List Int} (b : Int) (hL : okIL M L) (h : errO L o = 0) : (ofN (fouP L o b).1).length ≤ 128 ∧ (ofN (fouP L o b).2).length ≤ 128 := by
  obtain ⟨hc, h64, hol, hin⟩ := errO_zero h
  have hlt : (o.take (preN L o b)).length ≤ o.length := by rw [List.length_take]; omega
  exact (fouP_sum b hL h).1.len (by omega) fits_two
end Go.Proofs.Ytjapnklocibgaaa.Sx
namespace Go.Proofs.Ytjapnklocibgaaa.Sx
open Go Go.RowKit
set_option linter.unusedVariables false
set_option linter.unusedSimpArgs false
set_option maxRecDepth 100000
set_option maxHeartbeats 8000000
attribute [local congr] fin_congr finG_congr stepG_congr step1_congr runOps_congr brv_congr obl_congr condK_congr LoopK_congr seqK_congr CutK_congr vc_congr DrawK_congr regK_congr CallK_congr AskK_congr newK_congr retC_congr ret1_congr retK_congr outV_congr closeK_congr genR_congr appR_congr finD_congr finGD_congr stepGD_congr stepD_congr CallK0_congr runD_congr okR_congr CallS_congr vcX_congr
attribute [local congr] Stop_congr
theorem losP_bd {M : Mem} {L : List IR} (o : List Int) (hL : okIL M L) : (ofN (losP L o).1).length < 1000000000 ∧ (ofN (losP L o).2).length < 1000000000 := by
  by_cases h : errO L o = 0
  · obtain ⟨h1, h2⟩ := losP_len hL h
    omega
  · unfold losP
    rw [if_neg h, ofN_zero]; simp
theorem fouP_bd {M : Mem} {L : List IR} (o : List Int) (b : Int) (hL : okIL M L) : (ofN (fouP L o b).1).length < 1000000000 ∧ (ofN (fouP L o b).2).length < 1000000000 := by
  by_cases h : errO L o = 0
  · obtain ⟨h1, h2⟩ := fouP_len b hL h
    omega
  · unfold fouP
    rw [if_neg h, ofN_zero]; simp
def idV (v : Value) : Value := v
section
variable {M : Mem} {K : AV → Hp → Mem → Prop}
def cnSt (M : Mem) (v : Value) (us : List Value) (b : Int) (i : Nat) : St := { env := [(48, .ext (.int .i64 (i : Int))), (47, .ext (.int .i64 3)), (46, .slo 46 0 3 1), (8, .ext v), (2, .ext (.int .i64 b))], hp := [(46, 22, cE idV us)], M := M, kb := 0, fx := [] }
def cqSt (M : Mem) (v : Value) (us : List Value) (b : Int) (i : Nat) (w : Value) (bs : List Int) (j : Nat) : St := { env := [(57, .ext (.int .i64 (j : Int))), (56, .ext (.int .i64 2)), (55, .slo 55 0 2 1), (10, .ext w), (48, .ext (.int .i64 (i : Int))), (47, .ext (.int .i64 3)), (46, .slo 46 0 3 1), (8, .ext v), (2, .ext (.int .i64 b))], hp := [(55, 3, cE intV64 bs), (46, 22, cE idV us)], M := M, kb := 0, fx := [] }
theorem counts29_ok (u ur : Value) (l lr : List Int) (b : Int) (hu : IsL M intV64 u l) (hr : IsL M intV64 ur lr) (hK : ∀ M', Mem.le M M' → K (.ext (.bool true)) [] M') : CallS Try.prog 8 [.ext u, .ext ur, .ext (.int .i64 b)] [] M [] K := by
  refine inlS (cs := []) Try.mixed Try.func8 rfl (by kernel_rfl) 0 rfl rfl ?_
  simp only [Try.f8]
  by_cases h100 : lr.length ≤ 100
  case neg =>
    have d1 : decide ((100 : Int) < (lr.length : Int)) = true := by rw [decide_eq_true_eq]; omega
    refine Go1.mk ?_; repeat' ((first | (with_reducible refine Go1.go ?_) | (((with_reducible refine isCall (f := 15) ?_); refine callA_nil (by kernel_rfl) ?_; refine (known29_ok (fun M5 c5 => Stop.mk ?_)))) | (refine And.intro ?_ ?_; (try simp only [sxO] at *); omega) | fail) <;> (try simp (maxSteps := 1000000) only [hu.one, hr.one, hr.len, hr.sl, d1, hasK_nil, ↓hold_pre, awayP, runOps, regK, step1, newK, genR, appR, obl, buildR, Value.cells, closeK, keepH, outV, retK, ret1, retC, RetV, Option.getD, runD, stepD, afterK, undef, simprocAttr, sxB, ↓sxD, sxE, sxTab]))
    have hk := hK M5 c5
    refine Stop.go ?_
    refine Go1.mk ?_; repeat' ((first | (with_reducible refine Go1.go ?_) | (refine And.intro ?_ ?_; (try simp only [sxO] at *); omega) | fail) <;> (try simp (maxSteps := 1000000) only [hasK_nil, ↓hold_pre, awayP, runOps, regK, step1, newK, genR, appR, obl, buildR, Value.cells, closeK, keepH, outV, retK, ret1, retC, RetV, Option.getD, runD, stepD, afterK, undef, simprocAttr, sxB, ↓sxD, sxE, sxTab]))
    exact hk
  have d1 : decide ((100 : Int) < (lr.length : Int)) = false := by rw [decide_eq_false_iff_not]; omega
  refine Go1.mk ?_; repeat' ((first | (with_reducible refine Go1.go ?_) | ((with_reducible refine isCall (f := 10) ?_); refine callA ?_) | ((with_reducible refine isCallS (f := 10) ?_); refine (items31_ok u l 0 10 hu (by omega) (by omega) (fun v L M1 p1 m1 hv hL fv ll lp => Stop.mk ?_))) | (refine And.intro ?_ ?_; (try simp only [sxO] at *); omega) | fail) <;> (try simp (maxSteps := 1000000) only [hu.one, hr.one, hr.len, hr.sl, d1, hasK_nil, ↓hold_pre, awayP, runOps, regK, step1, newK, genR, appR, obl, buildR, Value.cells, closeK, keepH, outV, retK, ret1, retC, RetV, Option.getD, runD, stepD, afterK, undef, simprocAttr, sxB, ↓sxD, sxE, sxTab]))
  have m1 : Mem.le M M1 := m1
  have okL : okIL M1 L := fun x hx => (hL x hx).ok
  have hu1 := hu.le m1
  have hr1 := hr.le m1
  refine Stop.go ?_
  refine Go1.mk ?_; repeat' ((first | (with_reducible refine Go1.go ?_) | ((with_reducible refine isCall (f := 13) ?_); refine callA ?_) | ((with_reducible refine isCallS (f := 13) ?_); refine (shuf31_ok u l p1 L.length hu1 (by omega) (by omega) (fun w1 Z1 M2 n1 n2 n3 n4 => Stop.mk ?_))) | (refine And.intro ?_ ?_; (try simp only [sxO] at *); omega) | fail) <;> (try simp (maxSteps := 1000000) only [hu1.one, hr1.one, hv.one, hv.len, hv.sl, hasK_nil, ↓hold_pre, awayP, runOps, regK, step1, newK, genR, appR, obl, buildR, Value.cells, closeK, keepH, outV, retK, ret1, retC, RetV, Option.getD, runD, stepD, afterK, undef, simprocAttr, sxB, ↓sxD, sxE, sxTab]))
  have n1 : Mem.le M1 M2 := n1
  have hu2 := hu1.le n1
  have hv2 := hv.le n1
  have hl1 : (toI Z1).length ≤ 100 := by rw [toI_len, n2.length_eq, List.length_range]; omega
  refine Stop.go ?_
  refine Go1.mk ?_; repeat' ((first | (with_reducible refine Go1.go ?_) | ((with_reducible refine isCall (f := 18) ?_); refine callA ?_) | ((with_reducible refine isCallS (f := 18) ?_); refine (nextI_ok 31 u l (p1 + L.length) 2 hu2 (by omega) (by omega) (by omega) (fun x hx0 hx1 => Stop.mk ?_))) | (refine And.intro ?_ ?_; (try simp only [sxO] at *); omega) | fail) <;> (try simp (maxSteps := 1000000) only [hu2.one, hr1.one, n3.one, hv2.one, hv2.len, hv2.sl, hasK_nil, ↓hold_pre, awayP, runOps, regK, step1, newK, genR, appR, obl, buildR, Value.cells, closeK, keepH, outV, retK, ret1, retC, RetV, Option.getD, runD, stepD, afterK, undef, simprocAttr, sxB, ↓sxD, sxE, sxTab]))
  obtain ⟨a, rfl⟩ := Int.eq_ofNat_of_zero_le hx0
  obtain ⟨NN, hNN⟩ : ∃ NN, NN = L.length + a := ⟨_, rfl⟩
  have wn : IntKind.i64.wrap ((L.length : Int) + (a : Int)) = (NN : Int) := by rw [wrap_id (by omega) (by omega)]; omega
  refine Stop.go ?_
  refine Go1.mk ?_; repeat' ((first | (with_reducible refine Go1.go ?_) | ((with_reducible refine isCall (f := 13) ?_); refine callA ?_) | ((with_reducible refine isCallS (f := 13) ?_); refine (shuf31_ok u l (p1 + L.length + 1) NN hu2 (by omega) (by omega) (fun w2 Z2 M3 q1 q2 q3 q4 => Stop.mk ?_))) | (refine And.intro ?_ ?_; (try simp only [sxO] at *); omega) | fail) <;> (try simp (maxSteps := 1000000) only [wn, hu2.one, hr1.one, n3.one, hv2.one, hv2.len, hv2.sl, hasK_nil, ↓hold_pre, awayP, runOps, regK, step1, newK, genR, appR, obl, buildR, Value.cells, closeK, keepH, outV, retK, ret1, retC, RetV, Option.getD, runD, stepD, afterK, undef, simprocAttr, sxB, ↓sxD, sxE, sxTab]))
  have q1 : Mem.le M2 M3 := q1
  have m3 := m1.trans (n1.trans q1)
  have hv3 := hv2.le q1
  have okL3 := okL.le (n1.trans q1)
  have hl2 : (toI Z2).length ≤ 100 := by rw [toI_len, q2.length_eq, List.length_range]; omega
  have hus : ∀ w ∈ [ur, w1, w2], ∃ o, IsL M3 intV64 w o ∧ o.length ≤ 100 := fun w hw => by
    simp only [List.mem_cons, List.not_mem_nil, or_false] at hw
    rcases hw with rfl | rfl | rfl
    · exact ⟨_, hr1.le (n1.trans q1), h100⟩
    · exact ⟨_, n3.le q1, hl1⟩
    · exact ⟨_, q3, hl2⟩
  have n3 := n3.le q1
  have hr3 := hr1.le (n1.trans q1)
  have hlL : L.length < 1000000 := by omega
  refine Stop.go ?_
  refine Go1.mk ?_; repeat' ((first | (with_reducible refine Go1.go ?_) | (refine And.intro ?_ ?_; (try simp only [sxO] at *); omega) | fail) <;> (try simp (maxSteps := 1000000) only [hr3.one, n3.one, q3.one, hv3.one, hasK_nil, ↓hold_pre, awayP, runOps, regK, step1, newK, genR, appR, obl, buildR, Value.cells, closeK, keepH, outV, retK, ret1, retC, RetV, Option.getD, runD, stepD, afterK, undef, simprocAttr, sxB, ↓sxD, sxE, sxTab]))
  have husl : [ur, w1, w2].length = 3 := rfl
  refine ⟨fun m z => ∃ M' i, m = 3 - i ∧ i ≤ 3 ∧ Mem.le M3 M' ∧ z = cnSt M' v [ur, w1, w2] b i,
    ⟨3, cnSt M3 v [ur, w1, w2] b 0, le_sub ⟨rfl, rfl, rfl, rfl, rfl, trivial⟩ ⟨rfl, trivial⟩ rfl rfl rfl (keepLt_of rfl), ⟨M3, 0, rfl, by omega, Mem.le.refl _, rfl⟩⟩, ?_⟩
  generalize [ur, w1, w2] = us at *
  clear hv2 okL hL fv hu1 hu2 hr1 n2 q2 q4 n4 hr3 n3 q3 hl1 hl2
  rintro m z ⟨M4, i, rfl, hi, hM, rfl⟩
  by_cases hlt : i < 3
  case neg =>
    obtain rfl : i = 3 := by omega
    have d2 : decide (((3 : Nat) : Int) < 3) = false := by decide
    refine Go1.mk ?_; repeat' ((first | (with_reducible refine Go1.go ?_) | (((with_reducible refine isCall (f := 15) ?_); refine callA_nil (by kernel_rfl) ?_; refine (known29_ok (fun M5 c5 => Stop.mk ?_)))) | (refine And.intro ?_ ?_; (try simp only [sxO] at *); omega) | fail) <;> (try simp (maxSteps := 1000000) only [cnSt, d2, cE_ment, cE_kill, hasK_nil, ↓hold_pre, awayP, runOps, regK, step1, newK, genR, appR, obl, buildR, Value.cells, closeK, keepH, outV, retK, ret1, retC, RetV, Option.getD, runD, stepD, afterK, undef, simprocAttr, sxB, ↓sxD, sxE, sxTab]))
    have hk := hK M5 (m3.trans (hM.trans c5))
    refine Stop.go ?_
    refine Go1.mk ?_; repeat' ((first | (with_reducible refine Go1.go ?_) | (refine And.intro ?_ ?_; (try simp only [sxO] at *); omega) | fail) <;> (try simp (maxSteps := 1000000) only [cE_ment, cE_kill, hasK_nil, ↓hold_pre, awayP, runOps, regK, step1, newK, genR, appR, obl, buildR, Value.cells, closeK, keepH, outV, retK, ret1, retC, RetV, Option.getD, runD, stepD, afterK, undef, simprocAttr, sxB, ↓sxD, sxE, sxTab]))
    exact hk
  have d2 : decide ((i : Int) < 3) = true := by rw [decide_eq_true_eq]; omega
  have b1 : (0 : Int) ≤ (i : Int) := by omega
  have b2 : (i : Int) < 3 := by omega
  have b3 : (i : Int) < ((3 : Nat) : Int) := by omega
  have wi : IntKind.i64.wrap ((i : Int) + 1) = ((i + 1 : Nat) : Int) := succ_i (by omega)
  have hiu : i < us.length := by omega
  have hat := cE_at idV hiu
  obtain ⟨o, ho, hol⟩ := hus _ (List.getElem_mem hiu)
  have hlo : o.length < 1000000 := by omega
  have hat : (cE idV us)[i]? = some (.ext us[i]) := hat
  generalize us[i] = w at *
  refine Go1.mk ?_; repeat' ((first | (with_reducible refine Go1.go ?_) | (((with_reducible refine isCall (f := 20) ?_); refine callA_nil (by kernel_rfl) ?_; refine (fold_ok _ _ (Stop.mk ?_)))) | (refine And.intro ?_ ?_; (try simp only [sxO] at *); omega) | fail) <;> (try simp (maxSteps := 1000000) only [cnSt, d2, b1, b2, b3, hat, Nat.mul_one, Nat.zero_add, cE_ment, cE_kill, hasK_nil, ↓hold_pre, awayP, runOps, regK, step1, newK, genR, appR, obl, buildR, Value.cells, closeK, keepH, outV, retK, ret1, retC, RetV, Option.getD, runD, stepD, afterK, undef, simprocAttr, sxB, ↓sxD, sxE, sxTab]))
  obtain ⟨B, hB⟩ : ∃ B, B = foldI b 60 := ⟨_, rfl⟩
  rw [← hB]
  refine Stop.go ?_
  refine Go1.mk ?_; repeat' ((first | (with_reducible refine Go1.go ?_) | (refine And.intro ?_ ?_; (try simp only [sxO] at *); omega) | fail) <;> (try simp (maxSteps := 1000000) only [cE_ment, cE_kill, hasK_nil, ↓hold_pre, awayP, runOps, regK, step1, newK, genR, appR, obl, buildR, Value.cells, closeK, keepH, outV, retK, ret1, retC, RetV, Option.getD, runD, stepD, afterK, undef, simprocAttr, sxB, ↓sxD, sxE, sxTab]))
  refine ⟨fun m z => ∃ M' j, m = 2 - j ∧ j ≤ 2 ∧ Mem.le M3 M' ∧ z = cqSt M' v us b i w [b, B] j,
    ⟨2, cqSt M4 v us b i w [b, B] 0, le_sub ⟨rfl, rfl, rfl, rfl, rfl, rfl, rfl, rfl, rfl, trivial⟩ ⟨rfl, rfl, trivial⟩ rfl rfl rfl (keepLt_of rfl), ⟨M4, 0, rfl, by omega, hM, rfl⟩⟩, ?_⟩
  have hbl : [b, B].length = 2 := rfl
  generalize [b, B] = bs at *
  clear hM
  rintro m z ⟨M5, j, rfl, hj, hM, rfl⟩
  by_cases hlj : j < 2
  case neg =>
    obtain rfl : j = 2 := by omega
    have e2 : decide (((2 : Nat) : Int) < 2) = false := by decide
    refine Go1.mk ?_; repeat' ((first | (with_reducible refine Go1.go ?_) | (refine And.intro ?_ ?_; (try simp only [sxO] at *); omega) | fail) <;> (try simp (maxSteps := 1000000) only [cqSt, e2, wi, cE_ment, cE_kill, hasK_nil, ↓hold_pre, awayP, runOps, regK, step1, newK, genR, appR, obl, buildR, Value.cells, closeK, keepH, outV, retK, ret1, retC, RetV, Option.getD, runD, stepD, afterK, undef, simprocAttr, sxB, ↓sxD, sxE, sxTab]))
    exact ⟨3 - (i + 1), cnSt M5 v us b (i + 1), by omega, le_sub ⟨rfl, rfl, rfl, rfl, rfl, trivial⟩ ⟨rfl, trivial⟩ rfl rfl rfl (keepLt_of rfl), M5, i + 1, rfl, by omega, hM, rfl⟩
  have e2 : decide ((j : Int) < 2) = true := by rw [decide_eq_true_eq]; omega
  have f1 : (0 : Int) ≤ (j : Int) := by omega
  have f2 : (j : Int) < 2 := by omega
  have f3 : (j : Int) < ((2 : Nat) : Int) := by omega
  have wj : IntKind.i64.wrap ((j : Int) + 1) = ((j + 1 : Nat) : Int) := succ_i (by omega)
  have hjb : j < bs.length := by omega
  have hab := cE_at intV64 hjb
  have hab : (cE intV64 bs)[j]? = some (.ext (.int .i64 bs[j])) := hab
  generalize bs[j] = n at *
  have hv5 := hv3.le hM
  have okL5 := okL3.le hM
  have ho5 := ho.le hM
  obtain ⟨g1, g2⟩ := losP_bd o okL5
  obtain ⟨g3, g4⟩ := fouP_bd o n okL5
  refine Go1.mk ?_; repeat' ((first | (with_reducible refine Go1.go ?_) | (((with_reducible refine isCall (f := 12) ?_); refine callA_nil (by kernel_rfl) ?_; refine (oloss_ok hv5 okL5 hlL ho5 hlo (fun w3 w4 M6 c6 x1 x2 _ _ => Stop.mk ?_)))) | (refine And.intro ?_ ?_; (try simp only [sxO] at *); omega) | fail) <;> (try simp (maxSteps := 1000000) only [cqSt, e2, f1, f2, f3, hab, hv5.one, ho5.one, Nat.mul_one, Nat.zero_add, cE_ment, cE_kill, hasK_nil, ↓hold_pre, awayP, runOps, regK, step1, newK, genR, appR, obl, buildR, Value.cells, closeK, keepH, outV, retK, ret1, retC, RetV, Option.getD, runD, stepD, afterK, undef, simprocAttr, sxB, ↓sxD, sxE, sxTab]))
  have c6 : Mem.le M5 M6 := c6
  have hv6 := hv5.le c6
  have okL6 := okL5.le c6
  have ho6 := ho5.le c6
  refine Stop.go ?_
  refine Go1.mk ?_; repeat' ((first | (with_reducible refine Go1.go ?_) | (((with_reducible refine isCall (f := 29) ?_); refine callA_nil (by kernel_rfl) ?_; refine (rloss_ok hv6 okL6 hlL ho6 hlo (fun w5 w6 M7 c7 y1 y2 _ _ => Stop.mk ?_)))) | (refine And.intro ?_ ?_; (try simp only [sxO] at *); omega) | fail) <;> (try simp (maxSteps := 1000000) only [x1.one, x2.one, hv6.one, ho6.one, cE_ment, cE_kill, hasK_nil, ↓hold_pre, awayP, runOps, regK, step1, newK, genR, appR, obl, buildR, Value.cells, closeK, keepH, outV, retK, ret1, retC, RetV, Option.getD, runD, stepD, afterK, undef, simprocAttr, sxB, ↓sxD, sxE, sxTab]))
  have c7 : Mem.le M6 M7 := c7
  have hv7 := hv6.le c7
  have okL7 := okL6.le c7
  have ho7 := ho6.le c7
  refine Stop.go ?_
  refine Go1.mk ?_; repeat' ((first | (with_reducible refine Go1.go ?_) | (((with_reducible refine isCall (f := 30) ?_); refine callA_nil (by kernel_rfl) ?_; refine (oprefix_ok n hv7 okL7 hlL ho7 hlo (fun M8 c8 => Stop.mk ?_)))) | (refine And.intro ?_ ?_; (try simp only [sxO] at *); omega) | fail) <;> (try simp (maxSteps := 1000000) only [x1.one, x2.one, y1.one, y2.one, hv7.one, ho7.one, cE_ment, cE_kill, hasK_nil, ↓hold_pre, awayP, runOps, regK, step1, newK, genR, appR, obl, buildR, Value.cells, closeK, keepH, outV, retK, ret1, retC, RetV, Option.getD, runD, stepD, afterK, undef, simprocAttr, sxB, ↓sxD, sxE, sxTab]))
  have c8 : Mem.le M7 M8 := c8
  have hv8 := hv7.le c8
  have okL8 := okL7.le c8
  have ho8 := ho7.le c8
  refine Stop.go ?_
  refine Go1.mk ?_; repeat' ((first | (with_reducible refine Go1.go ?_) | (((with_reducible refine isCall (f := 31) ?_); refine callA_nil (by kernel_rfl) ?_; refine (rprefix_ok n hv8 okL8 hlL ho8 hlo (fun M9 c9 => Stop.mk ?_)))) | (refine And.intro ?_ ?_; (try simp only [sxO] at *); omega) | fail) <;> (try simp (maxSteps := 1000000) only [x1.one, x2.one, y1.one, y2.one, hv8.one, ho8.one, cE_ment, cE_kill, hasK_nil, ↓hold_pre, awayP, runOps, regK, step1, newK, genR, appR, obl, buildR, Value.cells, closeK, keepH, outV, retK, ret1, retC, RetV, Option.getD, runD, stepD, afterK, undef, simprocAttr, sxB, ↓sxD, sxE, sxTab]))
  have c9 : Mem.le M8 M9 := c9
  have hv9 := hv8.le c9
  have okL9 := okL8.le c9
  have ho9 := ho8.le c9
  refine Stop.go ?_
  refine Go1.mk ?_; repeat' ((first | (with_reducible refine Go1.go ?_) | (((with_reducible refine isCall (f := 27) ?_); refine callA_nil (by kernel_rfl) ?_; refine (ofound_ok n hv9 okL9 hlL ho9 hlo (fun w7 w8 Ma ca z1 z2 _ _ => Stop.mk ?_)))) | (refine And.intro ?_ ?_; (try simp only [sxO] at *); omega) | fail) <;> (try simp (maxSteps := 1000000) only [x1.one, x2.one, y1.one, y2.one, hv9.one, ho9.one, cE_ment, cE_kill, hasK_nil, ↓hold_pre, awayP, runOps, regK, step1, newK, genR, appR, obl, buildR, Value.cells, closeK, keepH, outV, retK, ret1, retC, RetV, Option.getD, runD, stepD, afterK, undef, simprocAttr, sxB, ↓sxD, sxE, sxTab]))
  have ca : Mem.le M9 Ma := ca
  have hva := hv9.le ca
  have okLa := okL9.le ca
  have hoa := ho9.le ca
  refine Stop.go ?_
  refine Go1.mk ?_; repeat' ((first | (with_reducible refine Go1.go ?_) | (((with_reducible refine isCall (f := 32) ?_); refine callA_nil (by kernel_rfl) ?_; refine (rfound_ok n hva okLa hlL hoa hlo (fun w9 wa Mb cb t1 t2 _ _ => Stop.mk ?_)))) | (refine And.intro ?_ ?_; (try simp only [sxO] at *); omega) | fail) <;> (try simp (maxSteps := 1000000) only [x1.one, x2.one, y1.one, y2.one, z1.one, z2.one, hva.one, hoa.one, cE_ment, cE_kill, hasK_nil, ↓hold_pre, awayP, runOps, regK, step1, newK, genR, appR, obl, buildR, Value.cells, closeK, keepH, outV, retK, ret1, retC, RetV, Option.getD, runD, stepD, afterK, undef, simprocAttr, sxB, ↓sxD, sxE, sxTab]))
  have cb : Mem.le Ma Mb := cb
  have k6 := c7.trans (c8.trans (c9.trans (ca.trans cb)))
  have k7 := c8.trans (c9.trans (ca.trans cb))
  have x1 : IsL Mb u32V w3 (ofN (losP L o).1) := x1.le k6
  have x2 : IsL Mb u32V w4 (ofN (losP L o).2) := x2.le k6
  have y1 : IsL Mb u32V w5 (ofN (losP L o).1) := y1.le k7
  have y2 : IsL Mb u32V w6 (ofN (losP L o).2) := y2.le k7
  have z1 : IsL Mb u32V w7 (ofN (fouP L o n).1) := z1.le cb
  have z2 : IsL Mb u32V w8 (ofN (fouP L o n).2) := z2.le cb
  have t1 : IsL Mb u32V w9 (ofN (fouP L o n).1) := t1
  have t2 : IsL Mb u32V wa (ofN (fouP L o n).2) := t2
  refine Stop.go ?_
  refine Go1.mk ?_; repeat' ((first | (with_reducible refine Go1.go ?_) | (((with_reducible refine isCall (f := 33) ?_); refine callA_nil (by kernel_rfl) ?_; refine (sameFrac_ok x1 x2 y1 y2 g1 g2 ?_))) | (((with_reducible refine isCall (f := 33) ?_); refine callA_nil (by kernel_rfl) ?_; refine (sameFrac_ok z1 z2 t1 t2 g3 g4 ?_))) | (refine And.intro ?_ ?_; (try simp only [sxO] at *); omega) | fail) <;> (try simp (maxSteps := 1000000) only [wj, x1.one, x2.one, y1.one, y2.one, z1.one, z2.one, t1.one, t2.one, cE_ment, cE_kill, hasK_nil, ↓hold_pre, awayP, runOps, regK, step1, newK, genR, appR, obl, buildR, Value.cells, closeK, keepH, outV, retK, ret1, retC, RetV, Option.getD, runD, stepD, afterK, undef, simprocAttr, sxB, ↓sxD, sxE, sxTab]))
  exact ⟨2 - (j + 1), cqSt Mb v us b i w bs (j + 1), by omega, le_sub ⟨rfl, rfl, rfl, rfl, rfl, rfl, rfl, rfl, rfl, trivial⟩ ⟨rfl, rfl, trivial⟩ rfl rfl rfl (keepLt_of rfl), Mb, j + 1, rfl, by omega, hM.trans (c6.trans k6), rfl⟩
end
end Go.Proofs.Ytjapnklocibgaaa.Sx
