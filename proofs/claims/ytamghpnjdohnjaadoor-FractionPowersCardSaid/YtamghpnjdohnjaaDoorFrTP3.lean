/- Part 3 of the texts of this claim: a symbolic executor and contracts of functions. -/
import Derived.Test.YtamghpnjdohnjaaDoorFrTP2
import Derived.Test.YtamghpnjdohnjaaDoorLimB
namespace Go.Proofs.YtamghpnjdohnjaaDoor.Sx
open Go Go.RowKit
set_option linter.unusedVariables false
set_option linter.unusedSimpArgs false
set_option maxRecDepth 100000
set_option maxHeartbeats 8000000
attribute [local congr] fin_congr finG_congr stepG_congr step1_congr runOps_congr brv_congr obl_congr condK_congr LoopK_congr seqK_congr CutK_congr vc_congr DrawK_congr regK_congr CallK_congr AskK_congr newK_congr retC_congr ret1_congr retK_congr outV_congr closeK_congr genR_congr appR_congr finD_congr finGD_congr stepGD_congr stepD_congr CallK0_congr runD_congr okR_congr CallS_congr vcX_congr
attribute [local congr] Stop_congr
section
variable {M : Mem} {K : AV → Hp → Mem → Prop} {u1 u2 : Value} {l1 l2 : List Nat}
def t2St (M : Mem) (w : Value) : St := { env := [(0, .ext w)], hp := [], M := M, kb := 0, fx := [] }
theorem trim02_ok (u : Value) (l : List Nat) (hu : IsL M u32V u l) (ho : okN l) (hK : ∀ w n, IsL M u32V w (ofN n) → (ofN n).length ≤ 8 → K (.ext w) [] M) : CallS Tryd.prog 59 [.ext u] [] M [] K := by
  refine inlS (cs := []) Tryd.mixed Tryd.func59 rfl (by kernel_rfl) 0 rfl rfl ?_
  simp only [Tryd.f59]
  (replace hb0 := true_and True); refine Go1.mk ?_; repeat' ((first | (with_reducible refine Go1.go ?_) | ((with_reducible first | refine brv_mk ?_ ?_ | refine gsplitD ?_ ?_ | refine gsplitG ?_ ?_) <;> intro h <;> (try simp only [Bool.not_eq_true', Bool.not_eq_false'] at h) <;> replace hb0 := h) | ((first | (with_reducible refine isCall (f := 11) ?_; refine callA_nil (by kernel_rfl) ?_) | (with_reducible refine isCall0 (f := 11) ?_; refine callA0_nil (by kernel_rfl) ?_)); refine (cut8_ok u l hu (fun u hu => Stop.mk ?_))) | (refine And.intro ?ob ?_; case ob => ((try simp only [sxO, ne_eq, maxLen] at *); omega)) | fail) <;> (try simp (config := { maxSteps := 1000000 }) only [hb0, hu.one, ↓hold_pre, awayP, runOps, regK, step1, newK, genR, appR, obl, buildR, Value.cells, closeK, keepH, outV, retK, ret1, retC, RetV, Option.getD, runD, stepD, afterK, undef, simprocAttr, sxB, ↓sxD, sxE, sxTab]))
  have ho := okN_take ho 8
  have hl : (l.take 8).length ≤ 8 := by rw [List.length_take]; omega
  generalize l.take 8 = l at *
  refine Stop.go ?_
  (replace hb0 := true_and True); refine Go1.mk ?_; repeat' ((first | (with_reducible refine Go1.go ?_) | ((with_reducible first | refine brv_mk ?_ ?_ | refine gsplitD ?_ ?_ | refine gsplitG ?_ ?_) <;> intro h <;> (try simp only [Bool.not_eq_true', Bool.not_eq_false'] at h) <;> replace hb0 := h) | (refine And.intro ?ob ?_; case ob => ((try simp only [sxO, ne_eq, maxLen] at *); omega)) | fail) <;> (try simp (config := { maxSteps := 1000000 }) only [hb0, hu.one, ↓hold_pre, awayP, runOps, regK, step1, newK, genR, appR, obl, buildR, Value.cells, closeK, keepH, outV, retK, ret1, retC, RetV, Option.getD, runD, stepD, afterK, undef, simprocAttr, sxB, ↓sxD, sxE, sxTab]))
  refine ⟨fun d z => ∃ j w, j = d ∧ j ≤ l.length ∧ (∀ i (h : i < l.length), j ≤ i → l[i] = 0) ∧ IsL M u32V w (l.take j) ∧ z = t2St M w, ⟨l.length, t2St M u, le_sub ⟨rfl, trivial⟩ trivial rfl rfl rfl (keepLt0 _), ⟨_, u, rfl, Nat.le_refl _, fun i h hi => by omega, by rw [List.take_length]; exact hu, rfl⟩⟩, ?_⟩
  clear hu
  rintro d z ⟨j, w, rfl, hj, hz, hw, rfl⟩
  have key : (∀ h : 0 < j, l[j - 1] ≠ 0) → K (.ext w) [] M := fun h => by
    have e := take_canon ho hj hz h
    rw [e] at hw
    exact hK w (valN l) hw (by rw [← e, List.length_take]; omega)
  have hlw : (l.take j).length = j := by rw [List.length_take]; omega
  have hwl := hw.len
  rw [hlw] at hwl
  by_cases hlt : 0 < j
  case neg =>
    obtain rfl : j = 0 := by omega
    have d1 : decide ((0 : Int) < ((0 : Nat) : Int)) = false := by decide
    (replace hb0 := true_and True); refine Go1.mk ?_; repeat' ((first | (with_reducible refine Go1.go ?_) | ((with_reducible first | refine brv_mk ?_ ?_ | refine gsplitD ?_ ?_ | refine gsplitG ?_ ?_) <;> intro h <;> (try simp only [Bool.not_eq_true', Bool.not_eq_false'] at h) <;> replace hb0 := h) | (refine And.intro ?ob ?_; case ob => ((try simp only [sxO, ne_eq, maxLen] at *); omega)) | fail) <;> (try simp (config := { maxSteps := 1000000 }) only [hb0, t2St, hw.one, hw.sl, hwl, d1, ↓hold_pre, awayP, runOps, regK, step1, newK, genR, appR, obl, buildR, Value.cells, closeK, keepH, outV, retK, ret1, retC, RetV, Option.getD, runD, stepD, afterK, undef, simprocAttr, sxB, ↓sxD, sxE, sxTab]))
    exact key (fun h => by omega)
  have d1 : decide ((0 : Int) < (j : Int)) = true := by simp; omega
  have w1 := pred_i hlt (by omega)
  have hi : j - 1 < (l.take j).length := by omega
  have hxi := hw.idx (P := Tryd.prog) (T := 70) tk70 tz70 (by omega) hi
  rw [hlw, List.getElem_take] at hxi
  by_cases h0 : l[j - 1] = 0
  · have d4 : decide ((l[j - 1] : Int) = 0) = true := by simp; omega
    have hs := hw.sub (Nat.zero_le (j - 1)) (by omega)
    rw [List.drop_zero, Nat.sub_zero, List.take_take, Nat.min_eq_left (by omega)] at hs
    have hcap := hw.cap
    have d5 : ((j - 1 : Nat) : Int) ≤ (scap w : Int) := by omega
    have d6 : (0 : Int) ≤ ((j - 1 : Nat) : Int) := by omega
    (replace hb0 := true_and True); refine Go1.mk ?_; repeat' ((first | (with_reducible refine Go1.go ?_) | ((with_reducible first | refine brv_mk ?_ ?_ | refine gsplitD ?_ ?_ | refine gsplitG ?_ ?_) <;> intro h <;> (try simp only [Bool.not_eq_true', Bool.not_eq_false'] at h) <;> replace hb0 := h) | (refine And.intro ?ob ?_; case ob => ((try simp only [sxO, ne_eq, maxLen] at *); omega)) | fail) <;> (try simp (config := { maxSteps := 1000000 }) only [hb0, t2St, u32V, hw.one, hw.sl, hwl, d1, w1, hxi, d4, d5, d6, hs.one, ↓hold_pre, awayP, runOps, regK, step1, newK, genR, appR, obl, buildR, Value.cells, closeK, keepH, outV, retK, ret1, retC, RetV, Option.getD, runD, stepD, afterK, undef, simprocAttr, sxB, ↓sxD, sxE, sxTab]))
    exact ⟨j - 1, t2St M _, by omega, le_sub ⟨rfl, trivial⟩ trivial rfl rfl rfl (keepLt0 _), j - 1, _, rfl, by omega, fun i h hi => by
      rcases Nat.lt_or_ge i j with h1 | h1
      · obtain rfl : i = j - 1 := by omega
        exact h0
      · exact hz i h h1, hs, rfl⟩
  · have d4 : decide ((l[j - 1] : Int) = 0) = false := by simp; omega
    (replace hb0 := true_and True); refine Go1.mk ?_; repeat' ((first | (with_reducible refine Go1.go ?_) | ((with_reducible first | refine brv_mk ?_ ?_ | refine gsplitD ?_ ?_ | refine gsplitG ?_ ?_) <;> intro h <;> (try simp only [Bool.not_eq_true', Bool.not_eq_false'] at h) <;> replace hb0 := h) | (refine And.intro ?ob ?_; case ob => ((try simp only [sxO, ne_eq, maxLen] at *); omega)) | fail) <;> (try simp (config := { maxSteps := 1000000 }) only [hb0, t2St, u32V, hw.one, hw.sl, hwl, d1, w1, hxi, d4, ↓hold_pre, awayP, runOps, regK, step1, newK, genR, appR, obl, buildR, Value.cells, closeK, keepH, outV, retK, ret1, retC, RetV, Option.getD, runD, stepD, afterK, undef, simprocAttr, sxB, ↓sxD, sxE, sxTab]))
    exact key (fun h => h0)
theorem rfmake_bor2 (k n : Nat) (T : TypeId) (L : List Nat) (hn : n = L.length) (h1 : IsL M u32V u1 l1) (o1 : okN l1) (o2 : okN L) (b1 : l1.length < 1000000) (b2 : L.length < 1000000) (hK : ∀ w1 w2 M', Mem.le M M' → IsL M' u32V w1 (ofN (makF l1 L).2.1) → IsL M' u32V w2 (ofN (makF l1 L).2.2) → FreshS M w1 → FreshS M w2 → K (.ext (.tuple #[.agg #[w1, w2], .int .i64 (makF l1 L).1])) [(k, T, cE u32V L)] M') :
    CallS Tryd.prog 12 [.ext u1, .slo k 0 n 1] [(k, T, cE u32V L)] M [] K := by
  refine CallS.bor ⟨⟨_, rfl⟩, trivial⟩ fun us M' hM hb' => ?_
  obtain ⟨v1, _, rfl, e1, v2, _, rfl, e2, rfl⟩ := hb'
  have e1 : v1 = u1 := e1
  subst e1
  have g1 := e2.isL (g := u32V) (L := L) (T := T) (by simp [lkH]) hn
  refine rfmake_ok (h1.le hM) g1 o1 o2 b1 b2 fun w1 w2 M2 a1 a2 a3 a4 a5 => ?_
  exact ⟨fun j hj => rfl, fun M3 h5 h6 _ => hK w1 w2 M3 h5 (a2.move a4 h6) (a3.move a5 h6) (a4.le hM) (a5.le hM)⟩
theorem chkF_low {n d : Nat} (h1 : (ofN n).length ≤ 128) (h2 : (ofN d).length ≤ 128) (h0 : 0 < d) : chkF (ofN (n / Nat.gcd n d)) (ofN (d / Nat.gcd n d)) = true := by
  have hg : 0 < Nat.gcd n d := Nat.gcd_pos_of_pos_right _ h0
  have a := len_mono (Nat.div_le_self n (Nat.gcd n d))
  have b := len_mono (Nat.div_le_self d (Nat.gcd n d))
  have c : d / Nat.gcd n d ≠ 0 := by
    have := Nat.div_pos (Nat.gcd_le_right n h0) hg
    omega
  have e : Nat.gcd (n / Nat.gcd n d) (d / Nat.gcd n d) = 1 := Nat.gcd_div_gcd_div_gcd_of_pos_right h0
  unfold chkF
  rw [chkN_ofN (by omega), chkN_ofN (by omega), valN_ofN, valN_ofN, decide_eq_false c, e]
  rfl
def GivK (M : Mem) (K : AV → Hp → Mem → Prop) (z : Int) : Prop := ∀ w1 w2 M' l1 l2, Mem.le M M' → IsF M' w1 w2 l1 l2 → l1.length ≤ 8 → l2.length ≤ 8 → (z.tmod 7 ≠ 3 → chkF l1 l2 = true) → K (.ext (.agg #[w1, w2])) [] M'
theorem GivK.made {z : Int} (hK : GivK M K z) {n d : Nat} {w1 w2 : Value} {M' : Mem} (hM : Mem.le M M') (h1 : (ofN n).length ≤ 8) (h2 : (ofN d).length ≤ 8) (h0 : 0 < d) (a1 : IsL M' u32V w1 (ofN (makF (ofN n) (ofN d)).2.1)) (a2 : IsL M' u32V w2 (ofN (makF (ofN n) (ofN d)).2.2)) : K (.ext (.agg #[w1, w2])) [] M' := by
  have e : makF (ofN n) (ofN d) = (0, n / Nat.gcd n d, d / Nat.gcd n d) := by
    unfold makF
    rw [chkN_ofN (by omega), chkN_ofN (by omega), Bool.and_self, if_pos rfl, valN_ofN, valN_ofN, if_neg (by omega), exF_is (by omega) (by omega)]
  rw [e] at a1 a2
  have a := len_mono (Nat.div_le_self n (Nat.gcd n d))
  have b := len_mono (Nat.div_le_self d (Nat.gcd n d))
  exact hK w1 w2 M' _ _ hM ⟨a1, a2, okN_ofN _, okN_ofN _, by simp only; omega, by simp only; omega⟩ (by simp only; omega) (by simp only; omega) (fun _ => chkF_low (by omega) (by omega) h0)
def gvSt (M : Mem) (u w : Value) : St := { env := [(7, .ext w), (6, .own 6 0), (0, .ext u)], hp := [(6, 25, [.ext (.slice none 0 0), .ext (.slice none 0 0)])], M := M, kb := 0, fx := [] }
def gwSt (M : Mem) (u : Value) : St := { env := [(7, .slo 23 0 1 1), (6, .own 6 0), (0, .ext u)], hp := [(23, 70, cE u32V [1]), (6, 25, [.ext (.slice none 0 0), .ext (.slice none 0 0)])], M := M, kb := 0, fx := [] }
theorem frac_ok (u v : Value) (x y : List Nat) (z : Int) (hu : IsL M u32V u x) (hv : IsL M u32V v y) (ox : okN x) (oy : okN y) (hK : GivK M K z) : CallS Tryd.prog 19 [.ext u, .ext v, .ext (.int .i64 z)] [] M [] K := by
  refine inlS (cs := [6]) Tryd.mixed Tryd.func19 rfl (by kernel_rfl) 0 rfl rfl ?_
  simp only [Tryd.f19]
  by_cases h3 : z.tmod 7 = 3
  · have d1 : decide (z.tmod 7 = 3) = true := by rw [decide_eq_true_eq]; exact h3
    (replace hb0 := true_and True); refine Go1.mk ?_; repeat' ((first | (with_reducible refine Go1.go ?_) | ((with_reducible first | refine brv_mk ?_ ?_ | refine gsplitD ?_ ?_ | refine gsplitG ?_ ?_) <;> intro h <;> (try simp only [Bool.not_eq_true', Bool.not_eq_false'] at h) <;> replace hb0 := h) | ((first | (with_reducible refine isCall (f := 11) ?_; refine callA_nil (by kernel_rfl) ?_) | (with_reducible refine isCall0 (f := 11) ?_; refine callA0_nil (by kernel_rfl) ?_)); refine (cut8_ok u x hu (fun a ha => Stop.mk ?_))) | (refine And.intro ?ob ?_; case ob => ((try simp only [sxO, ne_eq, maxLen] at *); omega)) | fail) <;> (try simp (config := { maxSteps := 1000000 }) only [hb0, hu.one, hv.one, d1, ↓hold_pre, awayP, runOps, regK, step1, newK, genR, appR, obl, buildR, Value.cells, closeK, keepH, outV, retK, ret1, retC, RetV, Option.getD, runD, stepD, afterK, undef, simprocAttr, sxB, ↓sxD, sxE, sxTab]))
    refine Stop.go ?_
    (replace hb0 := true_and True); refine Go1.mk ?_; repeat' ((first | (with_reducible refine Go1.go ?_) | ((with_reducible first | refine brv_mk ?_ ?_ | refine gsplitD ?_ ?_ | refine gsplitG ?_ ?_) <;> intro h <;> (try simp only [Bool.not_eq_true', Bool.not_eq_false'] at h) <;> replace hb0 := h) | ((first | (with_reducible refine isCall (f := 11) ?_; refine callA_nil (by kernel_rfl) ?_) | (with_reducible refine isCall0 (f := 11) ?_; refine callA0_nil (by kernel_rfl) ?_)); refine (cut8_ok v y hv (fun b hb => Stop.mk ?_))) | (refine And.intro ?ob ?_; case ob => ((try simp only [sxO, ne_eq, maxLen] at *); omega)) | fail) <;> (try simp (config := { maxSteps := 1000000 }) only [hb0, hu.one, hv.one, ha.one, d1, ↓hold_pre, awayP, runOps, regK, step1, newK, genR, appR, obl, buildR, Value.cells, closeK, keepH, outV, retK, ret1, retC, RetV, Option.getD, runD, stepD, afterK, undef, simprocAttr, sxB, ↓sxD, sxE, sxTab]))
    have e1 : (x.take 8).length ≤ 8 := by rw [List.length_take]; omega
    have e2 : (y.take 8).length ≤ 8 := by rw [List.length_take]; omega
    refine Stop.go ?_
    (replace hb0 := true_and True); refine Go1.mk ?_; repeat' ((first | (with_reducible refine Go1.go ?_) | ((with_reducible first | refine brv_mk ?_ ?_ | refine gsplitD ?_ ?_ | refine gsplitG ?_ ?_) <;> intro h <;> (try simp only [Bool.not_eq_true', Bool.not_eq_false'] at h) <;> replace hb0 := h) | (refine And.intro ?ob ?_; case ob => ((try simp only [sxO, ne_eq, maxLen] at *); omega)) | fail) <;> (try simp (config := { maxSteps := 1000000 }) only [hb0, hu.one, hv.one, ha.one, hb.one, d1, ↓hold_pre, awayP, runOps, regK, step1, newK, genR, appR, obl, buildR, Value.cells, closeK, keepH, outV, retK, ret1, retC, RetV, Option.getD, runD, stepD, afterK, undef, simprocAttr, sxB, ↓sxD, sxE, sxTab]))
    exact hK _ _ _ _ _ (Mem.le.refl _) ⟨ha, hb, okN_take ox 8, okN_take oy 8, by omega, by omega⟩ e1 e2 (fun h => absurd h3 h)
  have d1 : decide (z.tmod 7 = 3) = false := by rw [decide_eq_false_iff_not]; exact h3
  (replace hb0 := true_and True); refine Go1.mk ?_; repeat' ((first | (with_reducible refine Go1.go ?_) | ((with_reducible first | refine brv_mk ?_ ?_ | refine gsplitD ?_ ?_ | refine gsplitG ?_ ?_) <;> intro h <;> (try simp only [Bool.not_eq_true', Bool.not_eq_false'] at h) <;> replace hb0 := h) | ((first | (with_reducible refine isCall (f := 59) ?_; refine callA_nil (by kernel_rfl) ?_) | (with_reducible refine isCall0 (f := 59) ?_; refine callA0_nil (by kernel_rfl) ?_)); refine (trim02_ok v y hv oy (fun w d hw hwl => Stop.mk ?_))) | (refine And.intro ?ob ?_; case ob => ((try simp only [sxO, ne_eq, maxLen] at *); omega)) | fail) <;> (try simp (config := { maxSteps := 1000000 }) only [hb0, hu.one, hv.one, d1, ↓hold_pre, awayP, runOps, regK, step1, newK, genR, appR, obl, buildR, Value.cells, closeK, keepH, outV, retK, ret1, retC, RetV, Option.getD, runD, stepD, afterK, undef, simprocAttr, sxB, ↓sxD, sxE, sxTab]))
  refine Stop.go ?_
  (replace hb0 := true_and True); refine Go1.mk ?_; repeat' ((first | (with_reducible refine Go1.go ?_) | ((with_reducible first | refine brv_mk ?_ ?_ | refine gsplitD ?_ ?_ | refine gsplitG ?_ ?_) <;> intro h <;> (try simp only [Bool.not_eq_true', Bool.not_eq_false'] at h) <;> replace hb0 := h) | (refine And.intro ?ob ?_; case ob => ((try simp only [sxO, ne_eq, maxLen] at *); omega)) | fail) <;> (try simp (config := { maxSteps := 1000000 }) only [hb0, hu.one, hv.one, hw.one, ↓hold_pre, awayP, runOps, regK, step1, newK, genR, appR, obl, buildR, Value.cells, closeK, keepH, outV, retK, ret1, retC, RetV, Option.getD, runD, stepD, afterK, undef, simprocAttr, sxB, ↓sxD, sxE, sxTab]))
  refine ⟨fun s => (∃ w d, IsL M u32V w (ofN d) ∧ 0 < d ∧ (ofN d).length ≤ 8 ∧ s = gvSt M u w) ∨ s = gwSt M u, ?_, ?_⟩
  · by_cases h0 : (ofN d).length = 0
    · have d2 : decide (((ofN d).length : Int) = 0) = true := by rw [decide_eq_true_eq]; omega
      (replace hb0 := true_and True); refine Go1.mk ?_; repeat' ((first | (with_reducible refine Go1.go ?_) | ((with_reducible first | refine brv_mk ?_ ?_ | refine gsplitD ?_ ?_ | refine gsplitG ?_ ?_) <;> intro h <;> (try simp only [Bool.not_eq_true', Bool.not_eq_false'] at h) <;> replace hb0 := h) | (refine And.intro ?ob ?_; case ob => ((try simp only [sxO, ne_eq, maxLen] at *); omega)) | fail) <;> (try simp (config := { maxSteps := 1000000 }) only [hb0, hu.one, hw.one, hw.len, hw.sl, d2, ↓hold_pre, awayP, runOps, regK, step1, newK, genR, appR, obl, buildR, Value.cells, closeK, keepH, outV, retK, ret1, retC, RetV, Option.getD, runD, stepD, afterK, undef, simprocAttr, sxB, ↓sxD, sxE, sxTab]))
      exact ⟨gwSt M u, le_sub ⟨rfl, rfl, rfl, trivial⟩ ⟨rfl, rfl, trivial⟩ rfl rfl rfl (keepLt0 _), .inr rfl⟩
    · have d2 : decide (((ofN d).length : Int) = 0) = false := by rw [decide_eq_false_iff_not]; omega
      have hd0 : 0 < d := by
        rcases Nat.eq_zero_or_pos d with h | h
        · rw [h, ofN_zero] at h0; exact absurd rfl h0
        · exact h
      (replace hb0 := true_and True); refine Go1.mk ?_; repeat' ((first | (with_reducible refine Go1.go ?_) | ((with_reducible first | refine brv_mk ?_ ?_ | refine gsplitD ?_ ?_ | refine gsplitG ?_ ?_) <;> intro h <;> (try simp only [Bool.not_eq_true', Bool.not_eq_false'] at h) <;> replace hb0 := h) | (refine And.intro ?ob ?_; case ob => ((try simp only [sxO, ne_eq, maxLen] at *); omega)) | fail) <;> (try simp (config := { maxSteps := 1000000 }) only [hb0, hu.one, hw.one, hw.len, hw.sl, d2, ↓hold_pre, awayP, runOps, regK, step1, newK, genR, appR, obl, buildR, Value.cells, closeK, keepH, outV, retK, ret1, retC, RetV, Option.getD, runD, stepD, afterK, undef, simprocAttr, sxB, ↓sxD, sxE, sxTab]))
      exact ⟨gvSt M u w, le_sub ⟨rfl, rfl, rfl, trivial⟩ ⟨rfl, trivial⟩ rfl rfl rfl (keepLt0 _), .inl ⟨w, d, hw, hd0, hwl, rfl⟩⟩
  clear hw hwl
  rintro s (⟨w, d, hw, hd0, hwl, rfl⟩ | rfl)
  · (replace hb0 := true_and True); refine Go1.mk ?_; repeat' ((first | (with_reducible refine Go1.go ?_) | ((with_reducible first | refine brv_mk ?_ ?_ | refine gsplitD ?_ ?_ | refine gsplitG ?_ ?_) <;> intro h <;> (try simp only [Bool.not_eq_true', Bool.not_eq_false'] at h) <;> replace hb0 := h) | ((first | (with_reducible refine isCall (f := 59) ?_; refine callA_nil (by kernel_rfl) ?_) | (with_reducible refine isCall0 (f := 59) ?_; refine callA0_nil (by kernel_rfl) ?_)); refine (trim02_ok u x hu ox (fun w3 n hn hnl => Stop.mk ?_))) | (refine And.intro ?ob ?_; case ob => ((try simp only [sxO, ne_eq, maxLen] at *); omega)) | fail) <;> (try simp (config := { maxSteps := 1000000 }) only [hb0, gvSt, hu.one, hw.one, ↓hold_pre, awayP, runOps, regK, step1, newK, genR, appR, obl, buildR, Value.cells, closeK, keepH, outV, retK, ret1, retC, RetV, Option.getD, runD, stepD, afterK, undef, simprocAttr, sxB, ↓sxD, sxE, sxTab]))
    refine Stop.go ?_
    (replace hb0 := true_and True); refine Go1.mk ?_; repeat' ((first | (with_reducible refine Go1.go ?_) | ((with_reducible first | refine brv_mk ?_ ?_ | refine gsplitD ?_ ?_ | refine gsplitG ?_ ?_) <;> intro h <;> (try simp only [Bool.not_eq_true', Bool.not_eq_false'] at h) <;> replace hb0 := h) | ((first | (with_reducible refine isCall (f := 12) ?_; refine callA_nil (by kernel_rfl) ?_) | (with_reducible refine isCall0 (f := 12) ?_; refine callA0_nil (by kernel_rfl) ?_)); refine (rfmake_ok hn hw (okN_ofN _) (okN_ofN _) (by omega) (by omega) (fun w1 w2 M1 a1 a2 a3 a4 a5 => Stop.mk ?_))) | (refine And.intro ?ob ?_; case ob => ((try simp only [sxO, ne_eq, maxLen] at *); omega)) | fail) <;> (try simp (config := { maxSteps := 1000000 }) only [hb0, hu.one, hw.one, hn.one, ↓hold_pre, awayP, runOps, regK, step1, newK, genR, appR, obl, buildR, Value.cells, closeK, keepH, outV, retK, ret1, retC, RetV, Option.getD, runD, stepD, afterK, undef, simprocAttr, sxB, ↓sxD, sxE, sxTab]))
    refine Stop.go ?_
    (replace hb0 := true_and True); refine Go1.mk ?_; repeat' ((first | (with_reducible refine Go1.go ?_) | ((with_reducible first | refine brv_mk ?_ ?_ | refine gsplitD ?_ ?_ | refine gsplitG ?_ ?_) <;> intro h <;> (try simp only [Bool.not_eq_true', Bool.not_eq_false'] at h) <;> replace hb0 := h) | (refine And.intro ?ob ?_; case ob => ((try simp only [sxO, ne_eq, maxLen] at *); omega)) | fail) <;> (try simp (config := { maxSteps := 1000000 }) only [hb0, a2.one, a3.one, ↓hold_pre, awayP, runOps, regK, step1, newK, genR, appR, obl, buildR, Value.cells, closeK, keepH, outV, retK, ret1, retC, RetV, Option.getD, runD, stepD, afterK, undef, simprocAttr, sxB, ↓sxD, sxE, sxTab]))
    exact hK.made a1 hnl hwl hd0 a2 a3
  · (replace hb0 := true_and True); refine Go1.mk ?_; repeat' ((first | (with_reducible refine Go1.go ?_) | ((with_reducible first | refine brv_mk ?_ ?_ | refine gsplitD ?_ ?_ | refine gsplitG ?_ ?_) <;> intro h <;> (try simp only [Bool.not_eq_true', Bool.not_eq_false'] at h) <;> replace hb0 := h) | ((first | (with_reducible refine isCall (f := 59) ?_; refine callA_nil (by kernel_rfl) ?_) | (with_reducible refine isCall0 (f := 59) ?_; refine callA0_nil (by kernel_rfl) ?_)); refine (trim02_ok u x hu ox (fun w3 n hn hnl => Stop.mk ?_))) | (refine And.intro ?ob ?_; case ob => ((try simp only [sxO, ne_eq, maxLen] at *); omega)) | fail) <;> (try simp (config := { maxSteps := 1000000 }) only [hb0, gwSt, cE_ment, hasK_nil, cE_kill, cE_len, u32_one, u32_app1, u32_set, Nat.mul_one, hu.one, ↓hold_pre, awayP, runOps, regK, step1, newK, genR, appR, obl, buildR, Value.cells, closeK, keepH, outV, retK, ret1, retC, RetV, Option.getD, runD, stepD, afterK, undef, simprocAttr, sxB, ↓sxD, sxE, sxTab]))
    refine Stop.go ?_
    (replace hb0 := true_and True); refine Go1.mk ?_; repeat' ((first | (with_reducible refine Go1.go ?_) | ((with_reducible first | refine brv_mk ?_ ?_ | refine gsplitD ?_ ?_ | refine gsplitG ?_ ?_) <;> intro h <;> (try simp only [Bool.not_eq_true', Bool.not_eq_false'] at h) <;> replace hb0 := h) | ((with_reducible refine isCall (f := 12) ?_); refine callA ?_) | ((with_reducible refine isCall0 (f := 12) ?_); refine callA0 ?_) | ((with_reducible refine isCallS (f := 12) ?_); refine (rfmake_bor2 23 1 _ [1] rfl hn (okN_ofN _) (by simp [okN]) (by omega) (by simp) (fun w1 w2 M1 a1 a2 a3 a4 a5 => Stop.mk ?_))) | (refine And.intro ?ob ?_; case ob => ((try simp only [sxO, ne_eq, maxLen] at *); omega)) | fail) <;> (try simp (config := { maxSteps := 1000000 }) only [hb0, cE_ment, hasK_nil, cE_kill, cE_len, u32_one, u32_app1, u32_set, Nat.mul_one, hu.one, hn.one, ↓hold_pre, awayP, runOps, regK, step1, newK, genR, appR, obl, buildR, Value.cells, closeK, keepH, outV, retK, ret1, retC, RetV, Option.getD, runD, stepD, afterK, undef, simprocAttr, sxB, ↓sxD, sxE, sxTab]))
    rw [← ofN_1] at a2 a3
    refine Stop.go ?_
    (replace hb0 := true_and True); refine Go1.mk ?_; repeat' ((first | (with_reducible refine Go1.go ?_) | ((with_reducible first | refine brv_mk ?_ ?_ | refine gsplitD ?_ ?_ | refine gsplitG ?_ ?_) <;> intro h <;> (try simp only [Bool.not_eq_true', Bool.not_eq_false'] at h) <;> replace hb0 := h) | (refine And.intro ?ob ?_; case ob => ((try simp only [sxO, ne_eq, maxLen] at *); omega)) | fail) <;> (try simp (config := { maxSteps := 1000000 }) only [hb0, cE_ment, hasK_nil, cE_kill, cE_len, u32_one, u32_app1, u32_set, Nat.mul_one, a2.one, a3.one, ↓hold_pre, awayP, runOps, regK, step1, newK, genR, appR, obl, buildR, Value.cells, closeK, keepH, outV, retK, ret1, retC, RetV, Option.getD, runD, stepD, afterK, undef, simprocAttr, sxB, ↓sxD, sxE, sxTab]))
    exact hK.made a1 hnl (by rw [ofN_1]; decide) (by decide) a2 a3
end
end Go.Proofs.YtamghpnjdohnjaaDoor.Sx
namespace Go.Proofs.YtamghpnjdohnjaaDoor.Sx
open Go Go.RowKit
set_option linter.unusedVariables false
set_option linter.unusedSimpArgs false
set_option maxRecDepth 100000
set_option maxHeartbeats 8000000
attribute [local congr] fin_congr finG_congr stepG_congr step1_congr runOps_congr brv_congr obl_congr condK_congr LoopK_congr seqK_congr CutK_congr vc_congr DrawK_congr regK_congr CallK_congr AskK_congr newK_congr retC_congr ret1_congr retK_congr outV_congr closeK_congr genR_congr appR_congr finD_congr finGD_congr stepGD_congr stepD_congr CallK0_congr runD_congr okR_congr CallS_congr vcX_congr
attribute [local congr] Stop_congr
section
variable {M : Mem} {K : AV → Hp → Mem → Prop} {u1 u2 v1 v2 : Value} {l1 l2 k1 k2 : List Nat}
theorem rfadd_ok (ha : IsF M u1 u2 l1 l2) (hb : IsF M v1 v2 k1 k2) (hK : FracK M K (addF l1 l2 k1 k2)) : CallS Tryd.prog 23 [.ext (.agg #[u1, u2]), .ext (.agg #[v1, v2])] [] M [] K := by
  refine inlS (cs := []) Tryd.mixed Tryd.func23 rfl (by kernel_rfl) 0 rfl rfl ?_
  simp only [Tryd.f23]
  unfold addF at hK
  (replace hb0 := true_and True); refine Go1.mk ?_; repeat' ((first | (with_reducible refine Go1.go ?_) | ((with_reducible first | refine brv_mk ?_ ?_ | refine gsplitD ?_ ?_ | refine gsplitG ?_ ?_) <;> intro h <;> (try simp only [Bool.not_eq_true', Bool.not_eq_false'] at h) <;> replace hb0 := h) | ((first | (with_reducible refine isCall (f := 17) ?_; refine callA_nil (by kernel_rfl) ?_) | (with_reducible refine isCall0 (f := 17) ?_; refine callA0_nil (by kernel_rfl) ?_)); refine (rfcheck_ok ha.n ha.d ha.on ha.od ha.bn ha.bd (fun M1 m1 => Stop.mk ?_))) | (refine And.intro ?ob ?_; case ob => ((try simp only [sxO, ne_eq, maxLen] at *); omega)) | fail) <;> (try simp (config := { maxSteps := 1000000 }) only [hb0, ha.n.one, ha.d.one, hb.n.one, hb.d.one, ↓hold_pre, awayP, runOps, regK, step1, newK, genR, appR, obl, buildR, Value.cells, closeK, keepH, outV, retK, ret1, retC, RetV, Option.getD, runD, stepD, afterK, undef, simprocAttr, sxB, ↓sxD, sxE, sxTab]))
  have m1 : Mem.le M M1 := m1
  have ha1 := ha.le m1
  have hb1 := hb.le m1
  refine Stop.go ?_
  cases hc1 : chkF l1 l2 with
  | false =>
    rw [hc1] at hK
    (replace hb0 := true_and True); refine Go1.mk ?_; repeat' ((first | (with_reducible refine Go1.go ?_) | ((with_reducible first | refine brv_mk ?_ ?_ | refine gsplitD ?_ ?_ | refine gsplitG ?_ ?_) <;> intro h <;> (try simp only [Bool.not_eq_true', Bool.not_eq_false'] at h) <;> replace hb0 := h) | (refine And.intro ?ob ?_; case ob => ((try simp only [sxO, ne_eq, maxLen] at *); omega)) | fail) <;> (try simp (config := { maxSteps := 1000000 }) only [hb0, ha1.n.one, ha1.d.one, hb1.n.one, hb1.d.one, ↓hold_pre, awayP, runOps, regK, step1, newK, genR, appR, obl, buildR, Value.cells, closeK, keepH, outV, retK, ret1, retC, RetV, Option.getD, runD, stepD, afterK, undef, simprocAttr, sxB, ↓sxD, sxE, sxTab]))
    exact hK.err _ m1
  | true =>
  (replace hb0 := true_and True); refine Go1.mk ?_; repeat' ((first | (with_reducible refine Go1.go ?_) | ((with_reducible first | refine brv_mk ?_ ?_ | refine gsplitD ?_ ?_ | refine gsplitG ?_ ?_) <;> intro h <;> (try simp only [Bool.not_eq_true', Bool.not_eq_false'] at h) <;> replace hb0 := h) | ((first | (with_reducible refine isCall (f := 17) ?_; refine callA_nil (by kernel_rfl) ?_) | (with_reducible refine isCall0 (f := 17) ?_; refine callA0_nil (by kernel_rfl) ?_)); refine (rfcheck_ok hb1.n hb1.d hb1.on hb1.od hb1.bn hb1.bd (fun M2 m2 => Stop.mk ?_))) | (refine And.intro ?ob ?_; case ob => ((try simp only [sxO, ne_eq, maxLen] at *); omega)) | fail) <;> (try simp (config := { maxSteps := 1000000 }) only [hb0, ha1.n.one, ha1.d.one, hb1.n.one, hb1.d.one, ↓hold_pre, awayP, runOps, regK, step1, newK, genR, appR, obl, buildR, Value.cells, closeK, keepH, outV, retK, ret1, retC, RetV, Option.getD, runD, stepD, afterK, undef, simprocAttr, sxB, ↓sxD, sxE, sxTab]))
  have m2 : Mem.le M1 M2 := m2
  have ha2 := ha1.le m2
  have hb2 := hb1.le m2
  have hm := m1.trans m2
  refine Stop.go ?_
  cases hc2 : chkF k1 k2 with
  | false =>
    rw [hc1, hc2] at hK
    (replace hb0 := true_and True); refine Go1.mk ?_; repeat' ((first | (with_reducible refine Go1.go ?_) | ((with_reducible first | refine brv_mk ?_ ?_ | refine gsplitD ?_ ?_ | refine gsplitG ?_ ?_) <;> intro h <;> (try simp only [Bool.not_eq_true', Bool.not_eq_false'] at h) <;> replace hb0 := h) | (refine And.intro ?ob ?_; case ob => ((try simp only [sxO, ne_eq, maxLen] at *); omega)) | fail) <;> (try simp (config := { maxSteps := 1000000 }) only [hb0, ha2.n.one, ha2.d.one, hb2.n.one, hb2.d.one, ↓hold_pre, awayP, runOps, regK, step1, newK, genR, appR, obl, buildR, Value.cells, closeK, keepH, outV, retK, ret1, retC, RetV, Option.getD, runD, stepD, afterK, undef, simprocAttr, sxB, ↓sxD, sxE, sxTab]))
    exact hK.err _ hm
  | true =>
  rw [hc1, hc2, Bool.and_self, if_pos rfl] at hK
  obtain ⟨n1, d1, hn1, hd1, e1, e2, q1, q2, q3⟩ := ha2.num hc1
  obtain ⟨n2, d2, hn2, hd2, e3, e4, r1, r2, r3⟩ := hb2.num hc2
  rw [e1, e2, e3, e4] at hK
  have t1 := mul_len n1 d2
  have t2 := mul_len n2 d1
  have t3 := mul_len d1 d2
  have t4 := mul_len n1 n2
  have t0 : 0 < d1 * d2 := Nat.mul_pos q3 r3
  (replace hb0 := true_and True); refine Go1.mk ?_; repeat' ((first | (with_reducible refine Go1.go ?_) | ((with_reducible first | refine brv_mk ?_ ?_ | refine gsplitD ?_ ?_ | refine gsplitG ?_ ?_) <;> intro h <;> (try simp only [Bool.not_eq_true', Bool.not_eq_false'] at h) <;> replace hb0 := h) | ((first | (with_reducible refine isCall (f := 66) ?_; refine callA_nil (by kernel_rfl) ?_) | (with_reducible refine isCall0 (f := 66) ?_; refine callA0_nil (by kernel_rfl) ?_)); refine (rfplus_ok hn1 hd1 hn2 hd2 (by omega) (by omega) (by omega) (by omega) q3 r3 (fun w1 w2 M3 m3 h1 h2 f1 f2 => Stop.mk ?_))) | (refine And.intro ?ob ?_; case ob => ((try simp only [sxO, ne_eq, maxLen] at *); omega)) | fail) <;> (try simp (config := { maxSteps := 1000000 }) only [hb0, hn1.one, hd1.one, hn2.one, hd2.one, ↓hold_pre, awayP, runOps, regK, step1, newK, genR, appR, obl, buildR, Value.cells, closeK, keepH, outV, retK, ret1, retC, RetV, Option.getD, runD, stepD, afterK, undef, simprocAttr, sxB, ↓sxD, sxE, sxTab]))
  have m3 : Mem.le M2 M3 := m3
  have hn1 := hn1.le m3
  have hd1 := hd1.le m3
  have hn2 := hn2.le m3
  have hd2 := hd2.le m3
  have f1 := f1.le hm
  have f2 := f2.le hm
  have hm := hm.trans m3
  refine Stop.go ?_
  by_cases hl1 : (ofN ((n1 * d2 + n2 * d1) / Nat.gcd ((n1 * d2 + n2 * d1)) ((d1 * d2)))).length ≤ 128
  · by_cases hl2 : (ofN ((d1 * d2) / Nat.gcd ((n1 * d2 + n2 * d1)) ((d1 * d2)))).length ≤ 128
    · unfold exF at hK
      rw [if_pos ⟨hl1, hl2⟩] at hK
      (replace hb0 := true_and True); refine Go1.mk ?_; repeat' ((first | (with_reducible refine Go1.go ?_) | ((with_reducible first | refine brv_mk ?_ ?_ | refine gsplitD ?_ ?_ | refine gsplitG ?_ ?_) <;> intro h <;> (try simp only [Bool.not_eq_true', Bool.not_eq_false'] at h) <;> replace hb0 := h) | ((first | (with_reducible refine isCall (f := 65) ?_; refine callA_nil (by kernel_rfl) ?_) | (with_reducible refine isCall0 (f := 65) ?_; refine callA0_nil (by kernel_rfl) ?_)); refine (rflimited_ok h1 h2 (fun _ _ => ?_) (fun h => absurd h (fun h => h.elim (fun h => by omega) (fun h => by omega))))) | (refine And.intro ?ob ?_; case ob => ((try simp only [sxO, ne_eq, maxLen] at *); omega)) | fail) <;> (try simp (config := { maxSteps := 1000000 }) only [hb0, h1.one, h2.one, ↓hold_pre, awayP, runOps, regK, step1, newK, genR, appR, obl, buildR, Value.cells, closeK, keepH, outV, retK, ret1, retC, RetV, Option.getD, runD, stepD, afterK, undef, simprocAttr, sxB, ↓sxD, sxE, sxTab]))
      exact hK _ _ _ hm h1 h2 f1 f2
    · unfold exF at hK
      rw [if_neg (fun h => hl2 h.2)] at hK
      (replace hb0 := true_and True); refine Go1.mk ?_; repeat' ((first | (with_reducible refine Go1.go ?_) | ((with_reducible first | refine brv_mk ?_ ?_ | refine gsplitD ?_ ?_ | refine gsplitG ?_ ?_) <;> intro h <;> (try simp only [Bool.not_eq_true', Bool.not_eq_false'] at h) <;> replace hb0 := h) | ((first | (with_reducible refine isCall (f := 65) ?_; refine callA_nil (by kernel_rfl) ?_) | (with_reducible refine isCall0 (f := 65) ?_; refine callA0_nil (by kernel_rfl) ?_)); refine (rflimited_ok h1 h2 (fun _ h => absurd h hl2) (fun _ => ?_))) | (refine And.intro ?ob ?_; case ob => ((try simp only [sxO, ne_eq, maxLen] at *); omega)) | fail) <;> (try simp (config := { maxSteps := 1000000 }) only [hb0, h1.one, h2.one, ↓hold_pre, awayP, runOps, regK, step1, newK, genR, appR, obl, buildR, Value.cells, closeK, keepH, outV, retK, ret1, retC, RetV, Option.getD, runD, stepD, afterK, undef, simprocAttr, sxB, ↓sxD, sxE, sxTab]))
      exact hK.err _ hm
  · unfold exF at hK
    rw [if_neg (fun h => hl1 h.1)] at hK
    (replace hb0 := true_and True); refine Go1.mk ?_; repeat' ((first | (with_reducible refine Go1.go ?_) | ((with_reducible first | refine brv_mk ?_ ?_ | refine gsplitD ?_ ?_ | refine gsplitG ?_ ?_) <;> intro h <;> (try simp only [Bool.not_eq_true', Bool.not_eq_false'] at h) <;> replace hb0 := h) | ((first | (with_reducible refine isCall (f := 65) ?_; refine callA_nil (by kernel_rfl) ?_) | (with_reducible refine isCall0 (f := 65) ?_; refine callA0_nil (by kernel_rfl) ?_)); refine (rflimited_ok h1 h2 (fun h _ => absurd h hl1) (fun _ => ?_))) | (refine And.intro ?ob ?_; case ob => ((try simp only [sxO, ne_eq, maxLen] at *); omega)) | fail) <;> (try simp (config := { maxSteps := 1000000 }) only [hb0, h1.one, h2.one, ↓hold_pre, awayP, runOps, regK, step1, newK, genR, appR, obl, buildR, Value.cells, closeK, keepH, outV, retK, ret1, retC, RetV, Option.getD, runD, stepD, afterK, undef, simprocAttr, sxB, ↓sxD, sxE, sxTab]))
    exact hK.err _ hm
end
end Go.Proofs.YtamghpnjdohnjaaDoor.Sx
namespace Go.Proofs.YtamghpnjdohnjaaDoor.Sx
open Go Go.RowKit
set_option linter.unusedVariables false
set_option linter.unusedSimpArgs false
set_option maxRecDepth 100000
set_option maxHeartbeats 8000000
attribute [local congr] fin_congr finG_congr stepG_congr step1_congr runOps_congr brv_congr obl_congr condK_congr LoopK_congr seqK_congr CutK_congr vc_congr DrawK_congr regK_congr CallK_congr AskK_congr newK_congr retC_congr ret1_congr retK_congr outV_congr closeK_congr genR_congr appR_congr finD_congr finGD_congr stepGD_congr stepD_congr CallK0_congr runD_congr okR_congr CallS_congr vcX_congr
attribute [local congr] Stop_congr
section
variable {M : Mem} {K : AV → Hp → Mem → Prop}
end
end Go.Proofs.YtamghpnjdohnjaaDoor.Sx
namespace Go.Proofs.YtamghpnjdohnjaaDoor.Sx
open Go Go.RowKit
set_option linter.unusedVariables false
set_option linter.unusedSimpArgs false
set_option maxRecDepth 100000
set_option maxHeartbeats 8000000
attribute [local congr] fin_congr finG_congr stepG_congr step1_congr runOps_congr brv_congr obl_congr condK_congr LoopK_congr seqK_congr CutK_congr vc_congr DrawK_congr regK_congr CallK_congr AskK_congr newK_congr retC_congr ret1_congr retK_congr outV_congr closeK_congr genR_congr appR_congr finD_congr finGD_congr stepGD_congr stepD_congr CallK0_congr runD_congr okR_congr CallS_congr vcX_congr
attribute [local congr] Stop_congr
section
variable {M : Mem} {K : AV → Hp → Mem → Prop}
end
end Go.Proofs.YtamghpnjdohnjaaDoor.Sx
namespace Go.Proofs.YtamghpnjdohnjaaDoor.Sx
open Go Go.RowKit
set_option linter.unusedVariables false
set_option linter.unusedSimpArgs false
set_option maxRecDepth 100000
set_option maxHeartbeats 8000000
attribute [local congr] fin_congr finG_congr stepG_congr step1_congr runOps_congr brv_congr obl_congr condK_congr LoopK_congr seqK_congr CutK_congr vc_congr DrawK_congr regK_congr CallK_congr AskK_congr newK_congr retC_congr ret1_congr retK_congr outV_congr closeK_congr genR_congr appR_congr finD_congr finGD_congr stepGD_congr stepD_congr CallK0_congr runD_congr okR_congr CallS_congr vcX_congr
attribute [local congr] Stop_congr
section
variable {M : Mem} {K : AV → Hp → Mem → Prop} {u v : Value} {l1 l2 : List Nat}
end
end Go.Proofs.YtamghpnjdohnjaaDoor.Sx
namespace Go.Proofs.YtamghpnjdohnjaaDoor.Sx
open Go Go.RowKit
set_option linter.unusedVariables false
set_option linter.unusedSimpArgs false
set_option maxRecDepth 100000
set_option maxHeartbeats 8000000
attribute [local congr] fin_congr finG_congr stepG_congr step1_congr runOps_congr brv_congr obl_congr condK_congr LoopK_congr seqK_congr CutK_congr vc_congr DrawK_congr regK_congr CallK_congr AskK_congr newK_congr retC_congr ret1_congr retK_congr outV_congr closeK_congr genR_congr appR_congr finD_congr finGD_congr stepGD_congr stepD_congr CallK0_congr runD_congr okR_congr CallS_congr vcX_congr
attribute [local congr] Stop_congr
section
variable {M : Mem} {K : AV → Hp → Mem → Prop} {u v : Value} {l1 l2 : List Nat}
theorem times_bor1 (k n : Nat) (T : TypeId) (v : Value) (x y : Nat) (hn : n = (ofN x).length) (hv : IsL M u32V v (ofN y)) (hx : (ofN x).length < 100000000) (hy : (ofN y).length < 100000000) (hK : ∀ w M', Mem.le M M' → IsL M' u32V w (ofN (x * y)) → FreshS M w → K (.ext w) [(k, T, cE u32V (ofN x))] M') :
    CallS Tryd.prog 69 [.slo k 0 n 1, .ext v] [(k, T, cE u32V (ofN x))] M [] K := by
  refine CallS.bor ⟨⟨_, rfl⟩, trivial⟩ fun us M' hM hb' => ?_
  obtain ⟨v1, _, rfl, h1, v2, _, rfl, h2, rfl⟩ := hb'
  have h2 : v2 = v := h2
  subst h2
  have g1 := h1.isL (g := u32V) (L := ofN x) (T := T) (by simp [lkH]) hn
  refine times_ok v1 v2 x y g1 (hv.le hM) hx hy fun w M2 h2 h3 h4 => ?_
  exact ⟨fun j hj => rfl, fun M3 h5 h6 _ => hK w M3 h5 (h3.move h4 h6) (h4.le hM)⟩
def rpS (M : Mem) (u : Value) (n : Nat) : St := { env := [(0, .ext u), (1, .ext (.int .i64 (n : Int)))], hp := [], M := M, kb := 0, fx := [] }
def rp0 (M : Mem) (u : Value) (n : Nat) : St := { env := [(7, .ext (.int .i64 ((0 : Nat) : Int))), (6, .slo 37 0 1 1), (0, .ext u), (1, .ext (.int .i64 (n : Int)))], hp := [(37, 70, cE u32V (ofN 1))], M := M, kb := 0, fx := [] }
def rp1 (M : Mem) (u w : Value) (i n : Nat) : St := { env := [(7, .ext (.int .i64 (i : Int))), (6, .ext w), (0, .ext u), (1, .ext (.int .i64 (n : Int)))], hp := [], M := M, kb := 0, fx := [] }
def rpI (M : Mem) (u : Value) (x n : Nat) (d : Nat) (z : St) : Prop := (d = n ∧ z = rp0 M u n) ∨ ∃ M' w i, d = n - i ∧ 0 < i ∧ i ≤ n ∧ Mem.le M M' ∧ IsL M' u32V w (ofN (x ^ i)) ∧ FreshS M w ∧ (ofN (x ^ i)).length ≤ 128 ∧ z = rp1 M' u w i n
theorem ofN_one : ofN 1 = [1] := by rw [ofN_pos (by decide), show 1 / 4294967296 = 0 from rfl, ofN_zero]
theorem rpow_ok (n : Int) (hu : IsL M u32V u l1) (h1 : okN l1) (hb1 : l1.length < 1000000) (hK : NatR M K (powR l1 n)) : CallS Tryd.prog 73 [.ext u, .ext (.int .i64 n)] [] M [] K := by
  refine CallS.frzF ?_
  refine inlS (cs := [7]) Tryd.mixed Tryd.func73 rfl (by kernel_rfl) 0 rfl rfl ?_
  simp only [Tryd.f73]
  unfold powR at hK
  cases hc : chkN l1 with
  | false =>
    rw [hc] at hK
    (replace hb0 := true_and True); refine Go1.mk ?_; repeat' ((first | (with_reducible refine Go1.go ?_) | ((with_reducible first | refine brv_mk ?_ ?_ | refine gsplitD ?_ ?_ | refine gsplitG ?_ ?_) <;> intro h <;> (try simp only [Bool.not_eq_true', Bool.not_eq_false'] at h) <;> replace hb0 := h) | ((first | (with_reducible refine isCall (f := 52) ?_; refine callA_nil (by kernel_rfl) ?_) | (with_reducible refine isCall0 (f := 52) ?_; refine callA0_nil (by kernel_rfl) ?_)); refine (rcheck_ok u l1 hu (by omega) ?_)) | (refine And.intro ?ob ?_; case ob => ((try simp only [sxO, ne_eq, maxLen] at *); omega)) | fail) <;> (try simp (config := { maxSteps := 1000000 }) only [hb0, cE_ment, hasK_nil, cE_kill, cE_len, u32_one, u32_app1, u32_set, Nat.mul_one, hu.one, hc, ↓hold_pre, awayP, runOps, regK, step1, newK, genR, appR, obl, buildR, Value.cells, closeK, keepH, outV, retK, ret1, retC, RetV, Option.getD, runD, stepD, afterK, undef, Int.reduceAdd, Int.reduceEq, Int.reduceGE, Int.reduceGT, Int.reduceLE, Int.reduceLT, Int.reduceMul, Int.reduceNe, Int.reduceNeg, Int.reduceSub, Int.reduceToNat, Nat.reduceAdd, Nat.reduceBEq, Nat.reduceBeqDiff, Nat.reduceEqDiff, Nat.reduceLT, Nat.reduceLeDiff, Nat.reduceMul, Nat.reduceSub, reduceCtorEq, ↓reduceIte, sxB, ↓sxD, sxE, sxTab]))
    exact .inl (NatR.err _ hK)
  | true =>
    rw [hc, if_pos rfl] at hK
    by_cases hr : n < 0 ∨ 65536 < n
    · rw [if_pos hr] at hK
      have d1 : (decide (n < 0) || decide (65536 < n)) = true := by rw [Bool.or_eq_true, decide_eq_true_eq, decide_eq_true_eq]; exact hr
      have hd : decide (n < 0) = true ∨ decide (n < 0) = false := by cases decide (n < 0) <;> simp
      rcases hd with hd | hd
      · (replace hb0 := true_and True); refine Go1.mk ?_; repeat' ((first | (with_reducible refine Go1.go ?_) | ((with_reducible first | refine brv_mk ?_ ?_ | refine gsplitD ?_ ?_ | refine gsplitG ?_ ?_) <;> intro h <;> (try simp only [Bool.not_eq_true', Bool.not_eq_false'] at h) <;> replace hb0 := h) | ((first | (with_reducible refine isCall (f := 52) ?_; refine callA_nil (by kernel_rfl) ?_) | (with_reducible refine isCall0 (f := 52) ?_; refine callA0_nil (by kernel_rfl) ?_)); refine (rcheck_ok u l1 hu (by omega) ?_)) | (refine And.intro ?ob ?_; case ob => ((try simp only [sxO, ne_eq, maxLen] at *); omega)) | fail) <;> (try simp (config := { maxSteps := 1000000 }) only [hb0, cE_ment, hasK_nil, cE_kill, cE_len, u32_one, u32_app1, u32_set, Nat.mul_one, hu.one, hc, hd, ↓hold_pre, awayP, runOps, regK, step1, newK, genR, appR, obl, buildR, Value.cells, closeK, keepH, outV, retK, ret1, retC, RetV, Option.getD, runD, stepD, afterK, undef, Int.reduceAdd, Int.reduceEq, Int.reduceGE, Int.reduceGT, Int.reduceLE, Int.reduceLT, Int.reduceMul, Int.reduceNe, Int.reduceNeg, Int.reduceSub, Int.reduceToNat, Nat.reduceAdd, Nat.reduceBEq, Nat.reduceBeqDiff, Nat.reduceEqDiff, Nat.reduceLT, Nat.reduceLeDiff, Nat.reduceMul, Nat.reduceSub, reduceCtorEq, ↓reduceIte, sxB, ↓sxD, sxE, sxTab]))
        exact .inl (NatR.err _ hK)
      · have d2 : decide (65536 < n) = true := by rw [hd, Bool.false_or] at d1; exact d1
        (replace hb0 := true_and True); refine Go1.mk ?_; repeat' ((first | (with_reducible refine Go1.go ?_) | ((with_reducible first | refine brv_mk ?_ ?_ | refine gsplitD ?_ ?_ | refine gsplitG ?_ ?_) <;> intro h <;> (try simp only [Bool.not_eq_true', Bool.not_eq_false'] at h) <;> replace hb0 := h) | ((first | (with_reducible refine isCall (f := 52) ?_; refine callA_nil (by kernel_rfl) ?_) | (with_reducible refine isCall0 (f := 52) ?_; refine callA0_nil (by kernel_rfl) ?_)); refine (rcheck_ok u l1 hu (by omega) ?_)) | (refine And.intro ?ob ?_; case ob => ((try simp only [sxO, ne_eq, maxLen] at *); omega)) | fail) <;> (try simp (config := { maxSteps := 1000000 }) only [hb0, cE_ment, hasK_nil, cE_kill, cE_len, u32_one, u32_app1, u32_set, Nat.mul_one, hu.one, hc, hd, d2, ↓hold_pre, awayP, runOps, regK, step1, newK, genR, appR, obl, buildR, Value.cells, closeK, keepH, outV, retK, ret1, retC, RetV, Option.getD, runD, stepD, afterK, undef, Int.reduceAdd, Int.reduceEq, Int.reduceGE, Int.reduceGT, Int.reduceLE, Int.reduceLT, Int.reduceMul, Int.reduceNe, Int.reduceNeg, Int.reduceSub, Int.reduceToNat, Nat.reduceAdd, Nat.reduceBEq, Nat.reduceBeqDiff, Nat.reduceEqDiff, Nat.reduceLT, Nat.reduceLeDiff, Nat.reduceMul, Nat.reduceSub, reduceCtorEq, ↓reduceIte, sxB, ↓sxD, sxE, sxTab]))
        exact .inl (NatR.err _ hK)
    rw [if_neg hr] at hK
    obtain ⟨m, rfl⟩ := Int.eq_ofNat_of_zero_le (show 0 ≤ n by omega)
    have d1 : decide ((m : Int) < 0) = false := by rw [decide_eq_false_iff_not]; omega
    have d2 : decide ((65536 : Int) < (m : Int)) = false := by rw [decide_eq_false_iff_not]; omega
    obtain ⟨e1, b1⟩ := chkN_ok h1 hc
    have hu' := hu
    rw [e1] at hu'
    rw [Int.toNat_natCast] at hK
    have hz := valN_nil_iff e1
    (replace hb0 := true_and True); refine Go1.mk ?_; repeat' ((first | (with_reducible refine Go1.go ?_) | ((with_reducible first | refine brv_mk ?_ ?_ | refine gsplitD ?_ ?_ | refine gsplitG ?_ ?_) <;> intro h <;> (try simp only [Bool.not_eq_true', Bool.not_eq_false'] at h) <;> replace hb0 := h) | ((first | (with_reducible refine isCall (f := 52) ?_; refine callA_nil (by kernel_rfl) ?_) | (with_reducible refine isCall0 (f := 52) ?_; refine callA0_nil (by kernel_rfl) ?_)); refine (rcheck_ok u l1 hu (by omega) ?_)) | (refine And.intro ?ob ?_; case ob => ((try simp only [sxO, ne_eq, maxLen] at *); omega)) | fail) <;> (try simp (config := { maxSteps := 1000000 }) only [hb0, cE_ment, hasK_nil, cE_kill, cE_len, u32_one, u32_app1, u32_set, Nat.mul_one, hu.one, hu.len, hu.sl, hc, d1, d2, ↓hold_pre, awayP, runOps, regK, step1, newK, genR, appR, obl, buildR, Value.cells, closeK, keepH, outV, retK, ret1, retC, RetV, Option.getD, runD, stepD, afterK, undef, Int.reduceAdd, Int.reduceEq, Int.reduceGE, Int.reduceGT, Int.reduceLE, Int.reduceLT, Int.reduceMul, Int.reduceNe, Int.reduceNeg, Int.reduceSub, Int.reduceToNat, Nat.reduceAdd, Nat.reduceBEq, Nat.reduceBeqDiff, Nat.reduceEqDiff, Nat.reduceLT, Nat.reduceLeDiff, Nat.reduceMul, Nat.reduceSub, reduceCtorEq, ↓reduceIte, sxB, ↓sxD, sxE, sxTab]))
    refine ⟨fun z => z = rpS M u m ∧ (valN l1 = 0 → m = 0), ?_, ?_⟩
    · have copy : limR (valN l1 ^ m) = (0, l1) → FrzF K [] (.ag true [.slo 36 0 l1.length 1, .ext (.int .i64 0)]) [(36, 70, cE u32V l1)] M := fun e => by
        rw [e] at hK
        exact FrzF.tup [] [.int .i64 0] (l1.map u32V) rfl (by simp) (fun w M' g1 g2 g3 => hK w M' g1 (by unfold IsL; exact g2) g3)
      have hrow := hu.row
      have hmp : List.map AV.ext (List.map u32V l1) = cE u32V l1 := rfl
      by_cases hl0 : l1.length = 0
      · have e0 := hz.1 hl0
        have d3 : decide ((l1.length : Int) = 0) = true := by rw [hl0]; rfl
        have hnil : l1 = [] := List.length_eq_zero_iff.1 hl0
        by_cases hm0 : 0 < m
        · have d4 : decide ((0 : Int) < (m : Int)) = true := by rw [decide_eq_true_eq]; omega
          (replace hb0 := true_and True); refine Go1.mk ?_; repeat' ((first | (with_reducible refine Go1.go ?_) | ((with_reducible first | refine brv_mk ?_ ?_ | refine gsplitD ?_ ?_ | refine gsplitG ?_ ?_) <;> intro h <;> (try simp only [Bool.not_eq_true', Bool.not_eq_false'] at h) <;> replace hb0 := h) | (refine And.intro ?ob ?_; case ob => ((try simp only [sxO, ne_eq, maxLen] at *); omega)) | fail) <;> (try simp (config := { maxSteps := 1000000 }) only [hb0, cE_ment, hasK_nil, cE_kill, cE_len, u32_one, u32_app1, u32_set, Nat.mul_one, hu.one, hu.len, hu.sl, hc, d1, d2, d3, d4, hrow, hmp, ↓hold_pre, awayP, runOps, regK, step1, newK, genR, appR, obl, buildR, Value.cells, closeK, keepH, outV, retK, ret1, retC, RetV, Option.getD, runD, stepD, afterK, undef, Int.reduceAdd, Int.reduceEq, Int.reduceGE, Int.reduceGT, Int.reduceLE, Int.reduceLT, Int.reduceMul, Int.reduceNe, Int.reduceNeg, Int.reduceSub, Int.reduceToNat, Nat.reduceAdd, Nat.reduceBEq, Nat.reduceBeqDiff, Nat.reduceEqDiff, Nat.reduceLT, Nat.reduceLeDiff, Nat.reduceMul, Nat.reduceSub, reduceCtorEq, ↓reduceIte, sxB, ↓sxD, sxE, sxTab]))
          exact copy (by rw [e0, Nat.zero_pow hm0]; unfold limR; rw [ofN_zero, hnil]; rfl)
        · obtain rfl : m = 0 := by omega
          have d4 : decide ((0 : Int) < ((0 : Nat) : Int)) = false := by decide
          have d5 : decide ((l1.length : Int) = 1) = false := by rw [hl0]; rfl
          (replace hb0 := true_and True); refine Go1.mk ?_; repeat' ((first | (with_reducible refine Go1.go ?_) | ((with_reducible first | refine brv_mk ?_ ?_ | refine gsplitD ?_ ?_ | refine gsplitG ?_ ?_) <;> intro h <;> (try simp only [Bool.not_eq_true', Bool.not_eq_false'] at h) <;> replace hb0 := h) | (refine And.intro ?ob ?_; case ob => ((try simp only [sxO, ne_eq, maxLen] at *); omega)) | fail) <;> (try simp (config := { maxSteps := 1000000 }) only [hb0, cE_ment, hasK_nil, cE_kill, cE_len, u32_one, u32_app1, u32_set, Nat.mul_one, hu.one, hu.len, hu.sl, hc, d1, d2, d3, d4, d5, ↓hold_pre, awayP, runOps, regK, step1, newK, genR, appR, obl, buildR, Value.cells, closeK, keepH, outV, retK, ret1, retC, RetV, Option.getD, runD, stepD, afterK, undef, Int.reduceAdd, Int.reduceEq, Int.reduceGE, Int.reduceGT, Int.reduceLE, Int.reduceLT, Int.reduceMul, Int.reduceNe, Int.reduceNeg, Int.reduceSub, Int.reduceToNat, Nat.reduceAdd, Nat.reduceBEq, Nat.reduceBeqDiff, Nat.reduceEqDiff, Nat.reduceLT, Nat.reduceLeDiff, Nat.reduceMul, Nat.reduceSub, reduceCtorEq, ↓reduceIte, sxB, ↓sxD, sxE, sxTab]))
          exact ⟨rpS M u 0, le_sub ⟨rfl, rfl, trivial⟩ trivial rfl rfl rfl (keepLt0 _), rfl⟩
      have d3 : decide ((l1.length : Int) = 0) = false := by rw [decide_eq_false_iff_not]; omega
      have hnz : valN l1 = 0 → m = 0 := fun h => absurd (hz.2 h) hl0
      by_cases hl1 : l1.length = 1
      · have d4 : decide ((l1.length : Int) = 1) = true := by rw [hl1]; rfl
        have hyi := hu.idx (P := Tryd.prog) (T := 70) tk70 tz70 (by omega) (show 0 < l1.length by omega)
        have i1 : ((0 : Nat) : Int) = 0 := rfl
        have hv0 : valN l1 = l1[0]'(by omega) := by
          match l1, hl1 with
          | [a], _ => simp [valN]
        have d7 : (0 : Int) < (l1.length : Int) := by omega
        by_cases ha : l1[0]'(by omega) = 1
        · rw [ha] at hv0
          have hg : lookM Tryd.prog 70 M (elemP u 1 0) = some (.int .u32 1) := by have := hyi.1; rw [ha] at this; exact this
          have hnn := hyi.2.1
          (replace hb0 := true_and True); refine Go1.mk ?_; repeat' ((first | (with_reducible refine Go1.go ?_) | ((with_reducible first | refine brv_mk ?_ ?_ | refine gsplitD ?_ ?_ | refine gsplitG ?_ ?_) <;> intro h <;> (try simp only [Bool.not_eq_true', Bool.not_eq_false'] at h) <;> replace hb0 := h) | (refine And.intro ?ob ?_; case ob => ((try simp only [sxO, ne_eq, maxLen] at *); omega)) | fail) <;> (try simp (config := { maxSteps := 1000000 }) only [hb0, cE_ment, hasK_nil, cE_kill, cE_len, u32_one, u32_app1, u32_set, Nat.mul_one, u32V, hu.one, hu.len, hu.sl, hg, hnn, d7, hc, d1, d2, d3, d4, hrow, hmp, ↓hold_pre, awayP, runOps, regK, step1, newK, genR, appR, obl, buildR, Value.cells, closeK, keepH, outV, retK, ret1, retC, RetV, Option.getD, runD, stepD, afterK, undef, Int.reduceAdd, Int.reduceEq, Int.reduceGE, Int.reduceGT, Int.reduceLE, Int.reduceLT, Int.reduceMul, Int.reduceNe, Int.reduceNeg, Int.reduceSub, Int.reduceToNat, Nat.reduceAdd, Nat.reduceBEq, Nat.reduceBeqDiff, Nat.reduceEqDiff, Nat.reduceLT, Nat.reduceLeDiff, Nat.reduceMul, Nat.reduceSub, reduceCtorEq, ↓reduceIte, sxB, ↓sxD, sxE, sxTab]))
          exact copy (by
            rw [hv0, Nat.one_pow]; unfold limR
            rw [if_pos (by rw [ofN_one]; decide), e1, hv0])
        · have d5 : decide ((l1[0]'(by omega) : Int) = 1) = false := by rw [decide_eq_false_iff_not]; omega
          have hg := hyi.1
          have hnn := hyi.2.1
          (replace hb0 := true_and True); refine Go1.mk ?_; repeat' ((first | (with_reducible refine Go1.go ?_) | ((with_reducible first | refine brv_mk ?_ ?_ | refine gsplitD ?_ ?_ | refine gsplitG ?_ ?_) <;> intro h <;> (try simp only [Bool.not_eq_true', Bool.not_eq_false'] at h) <;> replace hb0 := h) | (refine And.intro ?ob ?_; case ob => ((try simp only [sxO, ne_eq, maxLen] at *); omega)) | fail) <;> (try simp (config := { maxSteps := 1000000 }) only [hb0, cE_ment, hasK_nil, cE_kill, cE_len, u32_one, u32_app1, u32_set, Nat.mul_one, u32V, hu.one, hu.len, hu.sl, hg, hnn, d7, hc, d1, d2, d3, d4, d5, ↓hold_pre, awayP, runOps, regK, step1, newK, genR, appR, obl, buildR, Value.cells, closeK, keepH, outV, retK, ret1, retC, RetV, Option.getD, runD, stepD, afterK, undef, Int.reduceAdd, Int.reduceEq, Int.reduceGE, Int.reduceGT, Int.reduceLE, Int.reduceLT, Int.reduceMul, Int.reduceNe, Int.reduceNeg, Int.reduceSub, Int.reduceToNat, Nat.reduceAdd, Nat.reduceBEq, Nat.reduceBeqDiff, Nat.reduceEqDiff, Nat.reduceLT, Nat.reduceLeDiff, Nat.reduceMul, Nat.reduceSub, reduceCtorEq, ↓reduceIte, sxB, ↓sxD, sxE, sxTab]))
          exact ⟨rpS M u m, le_sub ⟨rfl, rfl, trivial⟩ trivial rfl rfl rfl (keepLt0 _), rfl, hnz⟩
      · have d4 : decide ((l1.length : Int) = 1) = false := by rw [decide_eq_false_iff_not]; omega
        (replace hb0 := true_and True); refine Go1.mk ?_; repeat' ((first | (with_reducible refine Go1.go ?_) | ((with_reducible first | refine brv_mk ?_ ?_ | refine gsplitD ?_ ?_ | refine gsplitG ?_ ?_) <;> intro h <;> (try simp only [Bool.not_eq_true', Bool.not_eq_false'] at h) <;> replace hb0 := h) | (refine And.intro ?ob ?_; case ob => ((try simp only [sxO, ne_eq, maxLen] at *); omega)) | fail) <;> (try simp (config := { maxSteps := 1000000 }) only [hb0, cE_ment, hasK_nil, cE_kill, cE_len, u32_one, u32_app1, u32_set, Nat.mul_one, u32V, hu.one, hu.len, hu.sl, hc, d1, d2, d3, d4, ↓hold_pre, awayP, runOps, regK, step1, newK, genR, appR, obl, buildR, Value.cells, closeK, keepH, outV, retK, ret1, retC, RetV, Option.getD, runD, stepD, afterK, undef, Int.reduceAdd, Int.reduceEq, Int.reduceGE, Int.reduceGT, Int.reduceLE, Int.reduceLT, Int.reduceMul, Int.reduceNe, Int.reduceNeg, Int.reduceSub, Int.reduceToNat, Nat.reduceAdd, Nat.reduceBEq, Nat.reduceBeqDiff, Nat.reduceEqDiff, Nat.reduceLT, Nat.reduceLeDiff, Nat.reduceMul, Nat.reduceSub, reduceCtorEq, ↓reduceIte, sxB, ↓sxD, sxE, sxTab]))
        exact ⟨rpS M u m, le_sub ⟨rfl, rfl, trivial⟩ trivial rfl rfl rfl (keepLt0 _), rfl, hnz⟩
    rintro z ⟨rfl, hxm⟩
    have hxl : (ofN (valN l1)).length ≤ 128 := by rw [← e1]; exact b1
    clear hz e1 hu hc hb1 h1
    generalize valN l1 = x at *
    (replace hb0 := true_and True); refine Go1.mk ?_; repeat' ((first | (with_reducible refine Go1.go ?_) | ((with_reducible first | refine brv_mk ?_ ?_ | refine gsplitD ?_ ?_ | refine gsplitG ?_ ?_) <;> intro h <;> (try simp only [Bool.not_eq_true', Bool.not_eq_false'] at h) <;> replace hb0 := h) | (refine And.intro ?ob ?_; case ob => ((try simp only [sxO, ne_eq, maxLen] at *); omega)) | fail) <;> (try simp (config := { maxSteps := 1000000 }) only [hb0, cE_ment, hasK_nil, cE_kill, cE_len, u32_one, u32_app1, u32_set, Nat.mul_one, rpS, hu'.one, ↓hold_pre, awayP, runOps, regK, step1, newK, genR, appR, obl, buildR, Value.cells, closeK, keepH, outV, retK, ret1, retC, RetV, Option.getD, runD, stepD, afterK, undef, Int.reduceAdd, Int.reduceEq, Int.reduceGE, Int.reduceGT, Int.reduceLE, Int.reduceLT, Int.reduceMul, Int.reduceNe, Int.reduceNeg, Int.reduceSub, Int.reduceToNat, Nat.reduceAdd, Nat.reduceBEq, Nat.reduceBeqDiff, Nat.reduceEqDiff, Nat.reduceLT, Nat.reduceLeDiff, Nat.reduceMul, Nat.reduceSub, reduceCtorEq, ↓reduceIte, sxB, ↓sxD, sxE, sxTab]))
    have hone : (ofN 1).length = 1 := by rw [ofN_one]; rfl
    refine ⟨rpI M u x m, ⟨m, rp0 M u m, le_sub ⟨rfl, rfl, rfl, rfl, trivial⟩ ⟨by rw [ofN_one]; rfl, trivial⟩ rfl rfl rfl (keepLt0 _), .inl ⟨rfl, rfl⟩⟩, ?_⟩
    have leaf : ∀ (M3 : Mem) (wv : Value) (i : Nat) (s : St), i < m → Mem.le M M3 → IsL M3 u32V wv (ofN (x ^ (i + 1))) → FreshS M wv → (ofN (x ^ (i + 1))).length ≤ 128 → lk s.env 7 = .ext (.int .i64 ((i + 1 : Nat) : Int)) → lk s.env 6 = .ext wv → lk s.env 0 = .ext u → lk s.env 1 = .ext (.int .i64 (m : Int)) → s.M = M3 → s.kb = 0 → s.fx = [] →
        ∃ m' z, m' < m - i ∧ Le s z ∧ rpI M u x m m' z := fun M3 wv i s hi a1 a2 a3 a4 e7 e6 e0 e1 eM ek ef =>
      ⟨m - (i + 1), rp1 M3 u wv (i + 1) m, by omega, le_sub ⟨e7, e6, e0, e1, trivial⟩ trivial eM.symm ek.symm ef.symm (by rw [ek]; exact keepLt0 _), .inr ⟨M3, wv, i + 1, rfl, by omega, by omega, a1, a2, a3, a4, rfl⟩⟩
    have too : ∀ i, i < m → 128 < (ofN (x ^ (i + 1))).length → ∀ M', Mem.le M M' → K (.ext (.tuple #[.slice none 0 0, .int .i64 2])) [] M' := fun i hi h M' hM' => by
      have h2 := pow_long (k := i + 1) (n := m) (by omega) (by omega) 128 h
      unfold limR at hK
      rw [if_neg (by omega)] at hK
      exact hK _ _ hM' (isL_nil _ _ _) (freshS_nil _ _)
    rintro d z (⟨rfl, rfl⟩ | ⟨M1, w, i, rfl, hi0, hi, hM1, hw, hf, hwl, rfl⟩)
    · by_cases hm0 : 0 < d
      · have d6 : decide (((0 : Nat) : Int) < (d : Int)) = true := by rw [decide_eq_true_eq]; omega
        have wi : IntKind.i64.wrap (((0 : Nat) : Int) + 1) = ((0 + 1 : Nat) : Int) := rfl
        (replace hb0 := true_and True); refine Go1.mk ?_; repeat' ((first | (with_reducible refine Go1.go ?_) | ((with_reducible first | refine brv_mk ?_ ?_ | refine gsplitD ?_ ?_ | refine gsplitG ?_ ?_) <;> intro h <;> (try simp only [Bool.not_eq_true', Bool.not_eq_false'] at h) <;> replace hb0 := h) | ((with_reducible refine isCall (f := 69) ?_); refine callA ?_) | ((with_reducible refine isCall0 (f := 69) ?_); refine callA0 ?_) | ((with_reducible refine isCallS (f := 69) ?_); refine (times_bor1 37 1 _ u 1 x hone.symm hu' (by rw [hone]; decide) (by omega) (fun w M' g1 g2 g3 => Stop.mk ?_))) | (refine And.intro ?ob ?_; case ob => ((try simp only [sxO, ne_eq, maxLen] at *); omega)) | fail) <;> (try simp (config := { maxSteps := 1000000 }) only [hb0, cE_ment, hasK_nil, cE_kill, cE_len, u32_one, u32_app1, u32_set, Nat.mul_one, rp0, hu'.one, d6, ↓hold_pre, awayP, runOps, regK, step1, newK, genR, appR, obl, buildR, Value.cells, closeK, keepH, outV, retK, ret1, retC, RetV, Option.getD, runD, stepD, afterK, undef, Int.reduceAdd, Int.reduceEq, Int.reduceGE, Int.reduceGT, Int.reduceLE, Int.reduceLT, Int.reduceMul, Int.reduceNe, Int.reduceNeg, Int.reduceSub, Int.reduceToNat, Nat.reduceAdd, Nat.reduceBEq, Nat.reduceBeqDiff, Nat.reduceEqDiff, Nat.reduceLT, Nat.reduceLeDiff, Nat.reduceMul, Nat.reduceSub, reduceCtorEq, ↓reduceIte, sxB, ↓sxD, sxE, sxTab]))
        rw [Nat.one_mul, ← Nat.pow_one x, show (1 : Nat) = 0 + 1 from rfl] at g2
        refine Stop.go ?_
        by_cases hle : (ofN (x ^ (0 + 1))).length ≤ 128
        · have d2 : decide ((128 : Int) < ((ofN (x ^ (0 + 1))).length : Int)) = false := by rw [decide_eq_false_iff_not]; omega
          (replace hb0 := true_and True); refine Go1.mk ?_; repeat' ((first | (with_reducible refine Go1.go ?_) | ((with_reducible first | refine brv_mk ?_ ?_ | refine gsplitD ?_ ?_ | refine gsplitG ?_ ?_) <;> intro h <;> (try simp only [Bool.not_eq_true', Bool.not_eq_false'] at h) <;> replace hb0 := h) | (refine And.intro ?ob ?_; case ob => ((try simp only [sxO, ne_eq, maxLen] at *); omega)) | fail) <;> (try simp (config := { maxSteps := 1000000 }) only [hb0, cE_ment, hasK_nil, cE_kill, cE_len, u32_one, u32_app1, u32_set, Nat.mul_one, hu'.one, g2.one, g2.len, g2.sl, d2, wi, ↓hold_pre, awayP, runOps, regK, step1, newK, genR, appR, obl, buildR, Value.cells, closeK, keepH, outV, retK, ret1, retC, RetV, Option.getD, runD, stepD, afterK, undef, Int.reduceAdd, Int.reduceEq, Int.reduceGE, Int.reduceGT, Int.reduceLE, Int.reduceLT, Int.reduceMul, Int.reduceNe, Int.reduceNeg, Int.reduceSub, Int.reduceToNat, Nat.reduceAdd, Nat.reduceBEq, Nat.reduceBeqDiff, Nat.reduceEqDiff, Nat.reduceLT, Nat.reduceLeDiff, Nat.reduceMul, Nat.reduceSub, reduceCtorEq, ↓reduceIte, sxB, ↓sxD, sxE, sxTab]))
          exact leaf M' w 0 _ hm0 g1 g2 g3 hle rfl rfl rfl rfl rfl rfl rfl
        · have d2 : decide ((128 : Int) < ((ofN (x ^ (0 + 1))).length : Int)) = true := by rw [decide_eq_true_eq]; omega
          (replace hb0 := true_and True); refine Go1.mk ?_; repeat' ((first | (with_reducible refine Go1.go ?_) | ((with_reducible first | refine brv_mk ?_ ?_ | refine gsplitD ?_ ?_ | refine gsplitG ?_ ?_) <;> intro h <;> (try simp only [Bool.not_eq_true', Bool.not_eq_false'] at h) <;> replace hb0 := h) | (refine And.intro ?ob ?_; case ob => ((try simp only [sxO, ne_eq, maxLen] at *); omega)) | fail) <;> (try simp (config := { maxSteps := 1000000 }) only [hb0, cE_ment, hasK_nil, cE_kill, cE_len, u32_one, u32_app1, u32_set, Nat.mul_one, hu'.one, g2.one, g2.len, g2.sl, d2, wi, ↓hold_pre, awayP, runOps, regK, step1, newK, genR, appR, obl, buildR, Value.cells, closeK, keepH, outV, retK, ret1, retC, RetV, Option.getD, runD, stepD, afterK, undef, Int.reduceAdd, Int.reduceEq, Int.reduceGE, Int.reduceGT, Int.reduceLE, Int.reduceLT, Int.reduceMul, Int.reduceNe, Int.reduceNeg, Int.reduceSub, Int.reduceToNat, Nat.reduceAdd, Nat.reduceBEq, Nat.reduceBeqDiff, Nat.reduceEqDiff, Nat.reduceLT, Nat.reduceLeDiff, Nat.reduceMul, Nat.reduceSub, reduceCtorEq, ↓reduceIte, sxB, ↓sxD, sxE, sxTab]))
          exact .inl (too 0 hm0 (by omega) _ g1)
      · obtain rfl : d = 0 := by omega
        have d6 : decide (((0 : Nat) : Int) < ((0 : Nat) : Int)) = false := by decide
        (replace hb0 := true_and True); refine Go1.mk ?_; repeat' ((first | (with_reducible refine Go1.go ?_) | ((with_reducible first | refine brv_mk ?_ ?_ | refine gsplitD ?_ ?_ | refine gsplitG ?_ ?_) <;> intro h <;> (try simp only [Bool.not_eq_true', Bool.not_eq_false'] at h) <;> replace hb0 := h) | (refine And.intro ?ob ?_; case ob => ((try simp only [sxO, ne_eq, maxLen] at *); omega)) | fail) <;> (try simp (config := { maxSteps := 1000000 }) only [hb0, cE_ment, hasK_nil, cE_kill, cE_len, u32_one, u32_app1, u32_set, Nat.mul_one, rp0, d6, ↓hold_pre, awayP, runOps, regK, step1, newK, genR, appR, obl, buildR, Value.cells, closeK, keepH, outV, retK, ret1, retC, RetV, Option.getD, runD, stepD, afterK, undef, Int.reduceAdd, Int.reduceEq, Int.reduceGE, Int.reduceGT, Int.reduceLE, Int.reduceLT, Int.reduceMul, Int.reduceNe, Int.reduceNeg, Int.reduceSub, Int.reduceToNat, Nat.reduceAdd, Nat.reduceBEq, Nat.reduceBeqDiff, Nat.reduceEqDiff, Nat.reduceLT, Nat.reduceLeDiff, Nat.reduceMul, Nat.reduceSub, reduceCtorEq, ↓reduceIte, sxB, ↓sxD, sxE, sxTab]))
        rw [Nat.pow_zero] at hK
        exact FrzF.tup [] [.int .i64 0] ((ofN 1).map u32V) rfl (by simp [hone]) (fun w M' g1 g2 g3 => by
          have := hK w M' g1
          unfold limR at this
          rw [if_pos (by omega)] at this
          exact this (by unfold IsL; rw [hone]; exact g2) g3)
    · by_cases him : i < m
      · have d6 : decide ((i : Int) < (m : Int)) = true := by rw [decide_eq_true_eq]; omega
        have wi : IntKind.i64.wrap ((i : Int) + 1) = ((i + 1 : Nat) : Int) := succ_i (by omega)
        (replace hb0 := true_and True); refine Go1.mk ?_; repeat' ((first | (with_reducible refine Go1.go ?_) | ((with_reducible first | refine brv_mk ?_ ?_ | refine gsplitD ?_ ?_ | refine gsplitG ?_ ?_) <;> intro h <;> (try simp only [Bool.not_eq_true', Bool.not_eq_false'] at h) <;> replace hb0 := h) | ((first | (with_reducible refine isCall (f := 69) ?_; refine callA_nil (by kernel_rfl) ?_) | (with_reducible refine isCall0 (f := 69) ?_; refine callA0_nil (by kernel_rfl) ?_)); refine (times_ok w u _ x hw (hu'.le hM1) (by omega) (by omega) (fun wv M' g1 g2 g3 => Stop.mk ?_))) | (refine And.intro ?ob ?_; case ob => ((try simp only [sxO, ne_eq, maxLen] at *); omega)) | fail) <;> (try simp (config := { maxSteps := 1000000 }) only [hb0, cE_ment, hasK_nil, cE_kill, cE_len, u32_one, u32_app1, u32_set, Nat.mul_one, rp1, hu'.one, hw.one, d6, ↓hold_pre, awayP, runOps, regK, step1, newK, genR, appR, obl, buildR, Value.cells, closeK, keepH, outV, retK, ret1, retC, RetV, Option.getD, runD, stepD, afterK, undef, Int.reduceAdd, Int.reduceEq, Int.reduceGE, Int.reduceGT, Int.reduceLE, Int.reduceLT, Int.reduceMul, Int.reduceNe, Int.reduceNeg, Int.reduceSub, Int.reduceToNat, Nat.reduceAdd, Nat.reduceBEq, Nat.reduceBeqDiff, Nat.reduceEqDiff, Nat.reduceLT, Nat.reduceLeDiff, Nat.reduceMul, Nat.reduceSub, reduceCtorEq, ↓reduceIte, sxB, ↓sxD, sxE, sxTab]))
        rw [← Nat.pow_succ] at g2
        have g1 : Mem.le M1 M' := g1
        have g2 : IsL M' u32V wv (ofN (x ^ (i + 1))) := g2
        refine Stop.go ?_
        by_cases hle : (ofN (x ^ (i + 1))).length ≤ 128
        · have d2 : decide ((128 : Int) < ((ofN (x ^ (i + 1))).length : Int)) = false := by simp; omega
          (replace hb0 := true_and True); refine Go1.mk ?_; repeat' ((first | (with_reducible refine Go1.go ?_) | ((with_reducible first | refine brv_mk ?_ ?_ | refine gsplitD ?_ ?_ | refine gsplitG ?_ ?_) <;> intro h <;> (try simp only [Bool.not_eq_true', Bool.not_eq_false'] at h) <;> replace hb0 := h) | (refine And.intro ?ob ?_; case ob => ((try simp only [sxO, ne_eq, maxLen] at *); omega)) | fail) <;> (try simp (config := { maxSteps := 1000000 }) only [hb0, cE_ment, hasK_nil, cE_kill, cE_len, u32_one, u32_app1, u32_set, Nat.mul_one, hu'.one, g2.one, g2.len, g2.sl, d2, wi, ↓hold_pre, awayP, runOps, regK, step1, newK, genR, appR, obl, buildR, Value.cells, closeK, keepH, outV, retK, ret1, retC, RetV, Option.getD, runD, stepD, afterK, undef, Int.reduceAdd, Int.reduceEq, Int.reduceGE, Int.reduceGT, Int.reduceLE, Int.reduceLT, Int.reduceMul, Int.reduceNe, Int.reduceNeg, Int.reduceSub, Int.reduceToNat, Nat.reduceAdd, Nat.reduceBEq, Nat.reduceBeqDiff, Nat.reduceEqDiff, Nat.reduceLT, Nat.reduceLeDiff, Nat.reduceMul, Nat.reduceSub, reduceCtorEq, ↓reduceIte, sxB, ↓sxD, sxE, sxTab]))
          exact leaf M' wv i _ him (hM1.trans g1) g2 (g3.le hM1) hle rfl rfl rfl rfl rfl rfl rfl
        · have d2 : decide ((128 : Int) < ((ofN (x ^ (i + 1))).length : Int)) = true := by simp; omega
          (replace hb0 := true_and True); refine Go1.mk ?_; repeat' ((first | (with_reducible refine Go1.go ?_) | ((with_reducible first | refine brv_mk ?_ ?_ | refine gsplitD ?_ ?_ | refine gsplitG ?_ ?_) <;> intro h <;> (try simp only [Bool.not_eq_true', Bool.not_eq_false'] at h) <;> replace hb0 := h) | (refine And.intro ?ob ?_; case ob => ((try simp only [sxO, ne_eq, maxLen] at *); omega)) | fail) <;> (try simp (config := { maxSteps := 1000000 }) only [hb0, cE_ment, hasK_nil, cE_kill, cE_len, u32_one, u32_app1, u32_set, Nat.mul_one, hu'.one, g2.one, g2.len, g2.sl, d2, wi, ↓hold_pre, awayP, runOps, regK, step1, newK, genR, appR, obl, buildR, Value.cells, closeK, keepH, outV, retK, ret1, retC, RetV, Option.getD, runD, stepD, afterK, undef, Int.reduceAdd, Int.reduceEq, Int.reduceGE, Int.reduceGT, Int.reduceLE, Int.reduceLT, Int.reduceMul, Int.reduceNe, Int.reduceNeg, Int.reduceSub, Int.reduceToNat, Nat.reduceAdd, Nat.reduceBEq, Nat.reduceBeqDiff, Nat.reduceEqDiff, Nat.reduceLT, Nat.reduceLeDiff, Nat.reduceMul, Nat.reduceSub, reduceCtorEq, ↓reduceIte, sxB, ↓sxD, sxE, sxTab]))
          exact .inl (too i him (by omega) _ (hM1.trans g1))
      · obtain rfl : i = m := by omega
        have d6 : decide ((i : Int) < (i : Int)) = false := by simp
        (replace hb0 := true_and True); refine Go1.mk ?_; repeat' ((first | (with_reducible refine Go1.go ?_) | ((with_reducible first | refine brv_mk ?_ ?_ | refine gsplitD ?_ ?_ | refine gsplitG ?_ ?_) <;> intro h <;> (try simp only [Bool.not_eq_true', Bool.not_eq_false'] at h) <;> replace hb0 := h) | (refine And.intro ?ob ?_; case ob => ((try simp only [sxO, ne_eq, maxLen] at *); omega)) | fail) <;> (try simp (config := { maxSteps := 1000000 }) only [hb0, cE_ment, hasK_nil, cE_kill, cE_len, u32_one, u32_app1, u32_set, Nat.mul_one, rp1, hu'.one, hw.one, d6, ↓hold_pre, awayP, runOps, regK, step1, newK, genR, appR, obl, buildR, Value.cells, closeK, keepH, outV, retK, ret1, retC, RetV, Option.getD, runD, stepD, afterK, undef, Int.reduceAdd, Int.reduceEq, Int.reduceGE, Int.reduceGT, Int.reduceLE, Int.reduceLT, Int.reduceMul, Int.reduceNe, Int.reduceNeg, Int.reduceSub, Int.reduceToNat, Nat.reduceAdd, Nat.reduceBEq, Nat.reduceBeqDiff, Nat.reduceEqDiff, Nat.reduceLT, Nat.reduceLeDiff, Nat.reduceMul, Nat.reduceSub, reduceCtorEq, ↓reduceIte, sxB, ↓sxD, sxE, sxTab]))
        unfold limR at hK
        rw [if_pos hwl] at hK
        exact .inl (hK _ _ hM1 hw hf)
end
end Go.Proofs.YtamghpnjdohnjaaDoor.Sx
namespace Go.Proofs.YtamghpnjdohnjaaDoor.Sx
open Go Go.RowKit
set_option linter.unusedVariables false
set_option linter.unusedSimpArgs false
set_option maxRecDepth 100000
set_option maxHeartbeats 8000000
attribute [local congr] fin_congr finG_congr stepG_congr step1_congr runOps_congr brv_congr obl_congr condK_congr LoopK_congr seqK_congr CutK_congr vc_congr DrawK_congr regK_congr CallK_congr AskK_congr newK_congr retC_congr ret1_congr retK_congr outV_congr closeK_congr genR_congr appR_congr finD_congr finGD_congr stepGD_congr stepD_congr CallK0_congr runD_congr okR_congr CallS_congr vcX_congr
attribute [local congr] Stop_congr
def powF (a b : List Nat) (k : Int) : Int × Nat × Nat := if chkF a b then (if k < 0 ∨ 65536 < k then (3, 0, 0) else if (ofN (valN a ^ k.toNat)).length ≤ 128 ∧ (ofN (valN b ^ k.toNat)).length ≤ 128 then (0, valN a ^ k.toNat, valN b ^ k.toNat) else (2, 0, 0)) else (1, 0, 0)
theorem powF_len (a b : List Nat) (k : Int) : (ofN (powF a b k).2.1).length ≤ 128 ∧ (ofN (powF a b k).2.2).length ≤ 128 := by
  unfold powF
  split
  · split
    · simp only [ofN_zero]; simp
    · split
      · assumption
      · simp only [ofN_zero]; simp
  · simp only [ofN_zero]; simp
section
variable {M : Mem} {K : AV → Hp → Mem → Prop} {u1 u2 : Value} {l1 l2 : List Nat}
theorem fpow_ok (k : Int) (ha : IsF M u1 u2 l1 l2) (hK : FracK M K (powF l1 l2 k)) : CallS Tryd.prog 34 [.ext (.agg #[u1, u2]), .ext (.int .i64 k)] [] M [] K := by
  refine inlS (cs := []) Tryd.mixed Tryd.func34 rfl (by kernel_rfl) 0 rfl rfl ?_
  simp only [Tryd.f34]
  unfold powF at hK
  (replace hb0 := true_and True); refine Go1.mk ?_; repeat' ((first | (with_reducible refine Go1.go ?_) | ((with_reducible first | refine brv_mk ?_ ?_ | refine gsplitD ?_ ?_ | refine gsplitG ?_ ?_) <;> intro h <;> (try simp only [Bool.not_eq_true', Bool.not_eq_false'] at h) <;> replace hb0 := h) | ((first | (with_reducible refine isCall (f := 16) ?_; refine callA_nil (by kernel_rfl) ?_) | (with_reducible refine isCall0 (f := 16) ?_; refine callA0_nil (by kernel_rfl) ?_)); refine (fcheck_ok ha.n ha.d ha.on ha.od ha.bn ha.bd (fun M1 m1 => Stop.mk ?_))) | (refine And.intro ?ob ?_; case ob => ((try simp only [sxO, ne_eq, maxLen] at *); omega)) | fail) <;> (try simp (config := { maxSteps := 1000000 }) only [hb0, ha.n.one, ha.d.one, ↓hold_pre, awayP, runOps, regK, step1, newK, genR, appR, obl, buildR, Value.cells, closeK, keepH, outV, retK, ret1, retC, RetV, Option.getD, runD, stepD, afterK, undef, simprocAttr, sxB, ↓sxD, sxE, sxTab]))
  have m1 : Mem.le M M1 := m1
  have ha1 := ha.le m1
  refine Stop.go ?_
  cases hc : chkF l1 l2 with
  | false =>
    rw [hc] at hK
    (replace hb0 := true_and True); refine Go1.mk ?_; repeat' ((first | (with_reducible refine Go1.go ?_) | ((with_reducible first | refine brv_mk ?_ ?_ | refine gsplitD ?_ ?_ | refine gsplitG ?_ ?_) <;> intro h <;> (try simp only [Bool.not_eq_true', Bool.not_eq_false'] at h) <;> replace hb0 := h) | (refine And.intro ?ob ?_; case ob => ((try simp only [sxO, ne_eq, maxLen] at *); omega)) | fail) <;> (try simp (config := { maxSteps := 1000000 }) only [hb0, ha1.n.one, ha1.d.one, ↓hold_pre, awayP, runOps, regK, step1, newK, genR, appR, obl, buildR, Value.cells, closeK, keepH, outV, retK, ret1, retC, RetV, Option.getD, runD, stepD, afterK, undef, simprocAttr, sxB, ↓sxD, sxE, sxTab]))
    exact hK.err _ m1
  | true =>
  rw [hc, if_pos rfl] at hK
  obtain ⟨n, d, hn, hd, e1, e2, q1, q2, q3⟩ := ha1.num hc
  rw [e1, e2] at hK
  by_cases hr : k < 0 ∨ 65536 < k
  · rw [if_pos hr] at hK
    by_cases h0 : k < 0
    · have d1 : decide (k < 0) = true := by rw [decide_eq_true_eq]; exact h0
      (replace hb0 := true_and True); refine Go1.mk ?_; repeat' ((first | (with_reducible refine Go1.go ?_) | ((with_reducible first | refine brv_mk ?_ ?_ | refine gsplitD ?_ ?_ | refine gsplitG ?_ ?_) <;> intro h <;> (try simp only [Bool.not_eq_true', Bool.not_eq_false'] at h) <;> replace hb0 := h) | (refine And.intro ?ob ?_; case ob => ((try simp only [sxO, ne_eq, maxLen] at *); omega)) | fail) <;> (try simp (config := { maxSteps := 1000000 }) only [hb0, hn.one, hd.one, d1, ↓hold_pre, awayP, runOps, regK, step1, newK, genR, appR, obl, buildR, Value.cells, closeK, keepH, outV, retK, ret1, retC, RetV, Option.getD, runD, stepD, afterK, undef, simprocAttr, sxB, ↓sxD, sxE, sxTab]))
      exact hK.err _ m1
    · have d1 : decide (k < 0) = false := by rw [decide_eq_false_iff_not]; exact h0
      have d2 : decide (65536 < k) = true := by rw [decide_eq_true_eq]; omega
      (replace hb0 := true_and True); refine Go1.mk ?_; repeat' ((first | (with_reducible refine Go1.go ?_) | ((with_reducible first | refine brv_mk ?_ ?_ | refine gsplitD ?_ ?_ | refine gsplitG ?_ ?_) <;> intro h <;> (try simp only [Bool.not_eq_true', Bool.not_eq_false'] at h) <;> replace hb0 := h) | (refine And.intro ?ob ?_; case ob => ((try simp only [sxO, ne_eq, maxLen] at *); omega)) | fail) <;> (try simp (config := { maxSteps := 1000000 }) only [hb0, hn.one, hd.one, d1, d2, ↓hold_pre, awayP, runOps, regK, step1, newK, genR, appR, obl, buildR, Value.cells, closeK, keepH, outV, retK, ret1, retC, RetV, Option.getD, runD, stepD, afterK, undef, simprocAttr, sxB, ↓sxD, sxE, sxTab]))
      exact hK.err _ m1
  rw [if_neg hr] at hK
  have d1 : decide (k < 0) = false := by rw [decide_eq_false_iff_not]; omega
  have d2 : decide (65536 < k) = false := by rw [decide_eq_false_iff_not]; omega
  obtain ⟨j, rfl⟩ := Int.eq_ofNat_of_zero_le (show 0 ≤ k by omega)
  rw [Int.toNat_natCast] at hK
  by_cases h1 : (ofN (n ^ j)).length ≤ 128
  · (replace hb0 := true_and True); refine Go1.mk ?_; repeat' ((first | (with_reducible refine Go1.go ?_) | ((with_reducible first | refine brv_mk ?_ ?_ | refine gsplitD ?_ ?_ | refine gsplitG ?_ ?_) <;> intro h <;> (try simp only [Bool.not_eq_true', Bool.not_eq_false'] at h) <;> replace hb0 := h) | ((first | (with_reducible refine isCall (f := 72) ?_; refine callA_nil (by kernel_rfl) ?_) | (with_reducible refine isCall0 (f := 72) ?_; refine callA0_nil (by kernel_rfl) ?_)); refine (pow_ok u1 n j 128 hn (by omega) (by omega) (by decide) (by decide) (fun _ w1 M2 a1 a2 a3 => Stop.mk ?_) (fun h => absurd h1 (by omega)))) | (refine And.intro ?ob ?_; case ob => ((try simp only [sxO, ne_eq, maxLen] at *); omega)) | fail) <;> (try simp (config := { maxSteps := 1000000 }) only [hb0, hn.one, hd.one, d1, d2, ↓hold_pre, awayP, runOps, regK, step1, newK, genR, appR, obl, buildR, Value.cells, closeK, keepH, outV, retK, ret1, retC, RetV, Option.getD, runD, stepD, afterK, undef, simprocAttr, sxB, ↓sxD, sxE, sxTab]))
    have a1 : Mem.le M1 M2 := a1
    have hn := hn.le a1
    have hd := hd.le a1
    refine Stop.go ?_
    by_cases h2 : (ofN (d ^ j)).length ≤ 128
    · rw [if_pos ⟨h1, h2⟩] at hK
      (replace hb0 := true_and True); refine Go1.mk ?_; repeat' ((first | (with_reducible refine Go1.go ?_) | ((with_reducible first | refine brv_mk ?_ ?_ | refine gsplitD ?_ ?_ | refine gsplitG ?_ ?_) <;> intro h <;> (try simp only [Bool.not_eq_true', Bool.not_eq_false'] at h) <;> replace hb0 := h) | ((first | (with_reducible refine isCall (f := 72) ?_; refine callA_nil (by kernel_rfl) ?_) | (with_reducible refine isCall0 (f := 72) ?_; refine callA0_nil (by kernel_rfl) ?_)); refine (pow_ok u2 d j 128 hd (by omega) (by omega) (by decide) (by decide) (fun _ w2 M3 b1 b2 b3 => Stop.mk ?_) (fun h => absurd h2 (by omega)))) | (refine And.intro ?ob ?_; case ob => ((try simp only [sxO, ne_eq, maxLen] at *); omega)) | fail) <;> (try simp (config := { maxSteps := 1000000 }) only [hb0, hn.one, hd.one, a2.one, ↓hold_pre, awayP, runOps, regK, step1, newK, genR, appR, obl, buildR, Value.cells, closeK, keepH, outV, retK, ret1, retC, RetV, Option.getD, runD, stepD, afterK, undef, simprocAttr, sxB, ↓sxD, sxE, sxTab]))
      have b1 : Mem.le M2 M3 := b1
      have a2 := a2.le b1
      refine Stop.go ?_
      (replace hb0 := true_and True); refine Go1.mk ?_; repeat' ((first | (with_reducible refine Go1.go ?_) | ((with_reducible first | refine brv_mk ?_ ?_ | refine gsplitD ?_ ?_ | refine gsplitG ?_ ?_) <;> intro h <;> (try simp only [Bool.not_eq_true', Bool.not_eq_false'] at h) <;> replace hb0 := h) | (refine And.intro ?ob ?_; case ob => ((try simp only [sxO, ne_eq, maxLen] at *); omega)) | fail) <;> (try simp (config := { maxSteps := 1000000 }) only [hb0, a2.one, b2.one, ↓hold_pre, awayP, runOps, regK, step1, newK, genR, appR, obl, buildR, Value.cells, closeK, keepH, outV, retK, ret1, retC, RetV, Option.getD, runD, stepD, afterK, undef, simprocAttr, sxB, ↓sxD, sxE, sxTab]))
      exact hK _ _ _ ((m1.trans a1).trans b1) a2 b2 (a3.le m1) (b3.le (m1.trans a1))
    · rw [if_neg (fun h => h2 h.2)] at hK
      (replace hb0 := true_and True); refine Go1.mk ?_; repeat' ((first | (with_reducible refine Go1.go ?_) | ((with_reducible first | refine brv_mk ?_ ?_ | refine gsplitD ?_ ?_ | refine gsplitG ?_ ?_) <;> intro h <;> (try simp only [Bool.not_eq_true', Bool.not_eq_false'] at h) <;> replace hb0 := h) | ((first | (with_reducible refine isCall (f := 72) ?_; refine callA_nil (by kernel_rfl) ?_) | (with_reducible refine isCall0 (f := 72) ?_; refine callA0_nil (by kernel_rfl) ?_)); refine (pow_ok u2 d j 128 hd (by omega) (by omega) (by decide) (by decide) (fun h => absurd h h2) (fun _ M3 b1 => Stop.mk ?_))) | (refine And.intro ?ob ?_; case ob => ((try simp only [sxO, ne_eq, maxLen] at *); omega)) | fail) <;> (try simp (config := { maxSteps := 1000000 }) only [hb0, hn.one, hd.one, a2.one, ↓hold_pre, awayP, runOps, regK, step1, newK, genR, appR, obl, buildR, Value.cells, closeK, keepH, outV, retK, ret1, retC, RetV, Option.getD, runD, stepD, afterK, undef, simprocAttr, sxB, ↓sxD, sxE, sxTab]))
      have b1 : Mem.le M2 M3 := b1
      have a2 := a2.le b1
      refine Stop.go ?_
      (replace hb0 := true_and True); refine Go1.mk ?_; repeat' ((first | (with_reducible refine Go1.go ?_) | ((with_reducible first | refine brv_mk ?_ ?_ | refine gsplitD ?_ ?_ | refine gsplitG ?_ ?_) <;> intro h <;> (try simp only [Bool.not_eq_true', Bool.not_eq_false'] at h) <;> replace hb0 := h) | (refine And.intro ?ob ?_; case ob => ((try simp only [sxO, ne_eq, maxLen] at *); omega)) | fail) <;> (try simp (config := { maxSteps := 1000000 }) only [hb0, a2.one, ↓hold_pre, awayP, runOps, regK, step1, newK, genR, appR, obl, buildR, Value.cells, closeK, keepH, outV, retK, ret1, retC, RetV, Option.getD, runD, stepD, afterK, undef, simprocAttr, sxB, ↓sxD, sxE, sxTab]))
      exact hK.err _ ((m1.trans a1).trans b1)
  · rw [if_neg (fun h => h1 h.1)] at hK
    (replace hb0 := true_and True); refine Go1.mk ?_; repeat' ((first | (with_reducible refine Go1.go ?_) | ((with_reducible first | refine brv_mk ?_ ?_ | refine gsplitD ?_ ?_ | refine gsplitG ?_ ?_) <;> intro h <;> (try simp only [Bool.not_eq_true', Bool.not_eq_false'] at h) <;> replace hb0 := h) | ((first | (with_reducible refine isCall (f := 72) ?_; refine callA_nil (by kernel_rfl) ?_) | (with_reducible refine isCall0 (f := 72) ?_; refine callA0_nil (by kernel_rfl) ?_)); refine (pow_ok u1 n j 128 hn (by omega) (by omega) (by decide) (by decide) (fun h => absurd h h1) (fun _ M2 a1 => Stop.mk ?_))) | (refine And.intro ?ob ?_; case ob => ((try simp only [sxO, ne_eq, maxLen] at *); omega)) | fail) <;> (try simp (config := { maxSteps := 1000000 }) only [hb0, hn.one, hd.one, d1, d2, ↓hold_pre, awayP, runOps, regK, step1, newK, genR, appR, obl, buildR, Value.cells, closeK, keepH, outV, retK, ret1, retC, RetV, Option.getD, runD, stepD, afterK, undef, simprocAttr, sxB, ↓sxD, sxE, sxTab]))
    have a1 : Mem.le M1 M2 := a1
    have hd := hd.le a1
    refine Stop.go ?_
    by_cases h2 : (ofN (d ^ j)).length ≤ 128
    · (replace hb0 := true_and True); refine Go1.mk ?_; repeat' ((first | (with_reducible refine Go1.go ?_) | ((with_reducible first | refine brv_mk ?_ ?_ | refine gsplitD ?_ ?_ | refine gsplitG ?_ ?_) <;> intro h <;> (try simp only [Bool.not_eq_true', Bool.not_eq_false'] at h) <;> replace hb0 := h) | ((first | (with_reducible refine isCall (f := 72) ?_; refine callA_nil (by kernel_rfl) ?_) | (with_reducible refine isCall0 (f := 72) ?_; refine callA0_nil (by kernel_rfl) ?_)); refine (pow_ok u2 d j 128 hd (by omega) (by omega) (by decide) (by decide) (fun _ w2 M3 b1 b2 b3 => Stop.mk ?_) (fun h => absurd h2 (by omega)))) | (refine And.intro ?ob ?_; case ob => ((try simp only [sxO, ne_eq, maxLen] at *); omega)) | fail) <;> (try simp (config := { maxSteps := 1000000 }) only [hb0, hn.one, hd.one, ↓hold_pre, awayP, runOps, regK, step1, newK, genR, appR, obl, buildR, Value.cells, closeK, keepH, outV, retK, ret1, retC, RetV, Option.getD, runD, stepD, afterK, undef, simprocAttr, sxB, ↓sxD, sxE, sxTab]))
      have b1 : Mem.le M2 M3 := b1
      refine Stop.go ?_
      (replace hb0 := true_and True); refine Go1.mk ?_; repeat' ((first | (with_reducible refine Go1.go ?_) | ((with_reducible first | refine brv_mk ?_ ?_ | refine gsplitD ?_ ?_ | refine gsplitG ?_ ?_) <;> intro h <;> (try simp only [Bool.not_eq_true', Bool.not_eq_false'] at h) <;> replace hb0 := h) | (refine And.intro ?ob ?_; case ob => ((try simp only [sxO, ne_eq, maxLen] at *); omega)) | fail) <;> (try simp (config := { maxSteps := 1000000 }) only [hb0, b2.one, ↓hold_pre, awayP, runOps, regK, step1, newK, genR, appR, obl, buildR, Value.cells, closeK, keepH, outV, retK, ret1, retC, RetV, Option.getD, runD, stepD, afterK, undef, simprocAttr, sxB, ↓sxD, sxE, sxTab]))
      exact hK.err _ ((m1.trans a1).trans b1)
    · (replace hb0 := true_and True); refine Go1.mk ?_; repeat' ((first | (with_reducible refine Go1.go ?_) | ((with_reducible first | refine brv_mk ?_ ?_ | refine gsplitD ?_ ?_ | refine gsplitG ?_ ?_) <;> intro h <;> (try simp only [Bool.not_eq_true', Bool.not_eq_false'] at h) <;> replace hb0 := h) | ((first | (with_reducible refine isCall (f := 72) ?_; refine callA_nil (by kernel_rfl) ?_) | (with_reducible refine isCall0 (f := 72) ?_; refine callA0_nil (by kernel_rfl) ?_)); refine (pow_ok u2 d j 128 hd (by omega) (by omega) (by decide) (by decide) (fun h => absurd h h2) (fun _ M3 b1 => Stop.mk ?_))) | (refine And.intro ?ob ?_; case ob => ((try simp only [sxO, ne_eq, maxLen] at *); omega)) | fail) <;> (try simp (config := { maxSteps := 1000000 }) only [hb0, hn.one, hd.one, ↓hold_pre, awayP, runOps, regK, step1, newK, genR, appR, obl, buildR, Value.cells, closeK, keepH, outV, retK, ret1, retC, RetV, Option.getD, runD, stepD, afterK, undef, simprocAttr, sxB, ↓sxD, sxE, sxTab]))
      have b1 : Mem.le M2 M3 := b1
      refine Stop.go ?_
      (replace hb0 := true_and True); refine Go1.mk ?_; repeat' ((first | (with_reducible refine Go1.go ?_) | ((with_reducible first | refine brv_mk ?_ ?_ | refine gsplitD ?_ ?_ | refine gsplitG ?_ ?_) <;> intro h <;> (try simp only [Bool.not_eq_true', Bool.not_eq_false'] at h) <;> replace hb0 := h) | (refine And.intro ?ob ?_; case ob => ((try simp only [sxO, ne_eq, maxLen] at *); omega)) | fail) <;> (try simp (config := { maxSteps := 1000000 }) only [hb0, ↓hold_pre, awayP, runOps, regK, step1, newK, genR, appR, obl, buildR, Value.cells, closeK, keepH, outV, retK, ret1, retC, RetV, Option.getD, runD, stepD, afterK, undef, simprocAttr, sxB, ↓sxD, sxE, sxTab]))
      exact hK.err _ ((m1.trans a1).trans b1)
theorem powR_is {x j : Nat} (hx : (ofN x).length ≤ 128) (hj : j ≤ 65536) : powR (ofN x) (j : Int) = limR (x ^ j) := by
  unfold powR
  rw [chkN_ofN hx, if_pos rfl, if_neg (by omega), valN_ofN, Int.toNat_natCast]
theorem limR_pos {n : Nat} (h : (ofN n).length ≤ 128) : limR n = (0, ofN n) := by unfold limR; rw [if_pos h]
theorem limR_neg {n : Nat} (h : ¬ (ofN n).length ≤ 128) : limR n = (2, []) := by unfold limR; rw [if_neg h]
theorem rpow_in {x j : Nat} (hu : IsL M u32V u1 (ofN x)) (hx : (ofN x).length ≤ 128) (hj : j ≤ 65536) (h : (ofN (x ^ j)).length ≤ 128) (hK : ∀ w M', Mem.le M M' → IsL M' u32V w (ofN (x ^ j)) → FreshS M w → K (.ext (.tuple #[w, .int .i64 0])) [] M') : CallS Tryd.prog 73 [.ext u1, .ext (.int .i64 (j : Int))] [] M [] K :=
  rpow_ok (j : Int) hu (okN_ofN x) (by omega) (by rw [powR_is hx hj, limR_pos h]; exact hK)
theorem rpow_out {x j : Nat} (hu : IsL M u32V u1 (ofN x)) (hx : (ofN x).length ≤ 128) (hj : j ≤ 65536) (h : ¬ (ofN (x ^ j)).length ≤ 128) (hK : ∀ w M', Mem.le M M' → IsL M' u32V w [] → K (.ext (.tuple #[w, .int .i64 2])) [] M') : CallS Tryd.prog 73 [.ext u1, .ext (.int .i64 (j : Int))] [] M [] K :=
  rpow_ok (j : Int) hu (okN_ofN x) (by omega) (by rw [powR_is hx hj, limR_neg h]; exact fun w M' h1 h2 _ => hK w M' h1 h2)
theorem rfpow_ok (k : Int) (ha : IsF M u1 u2 l1 l2) (hK : FracK M K (powF l1 l2 k)) : CallS Tryd.prog 35 [.ext (.agg #[u1, u2]), .ext (.int .i64 k)] [] M [] K := by
  refine inlS (cs := []) Tryd.mixed Tryd.func35 rfl (by kernel_rfl) 0 rfl rfl ?_
  simp only [Tryd.f35]
  unfold powF at hK
  (replace hb0 := true_and True); refine Go1.mk ?_; repeat' ((first | (with_reducible refine Go1.go ?_) | ((with_reducible first | refine brv_mk ?_ ?_ | refine gsplitD ?_ ?_ | refine gsplitG ?_ ?_) <;> intro h <;> (try simp only [Bool.not_eq_true', Bool.not_eq_false'] at h) <;> replace hb0 := h) | ((first | (with_reducible refine isCall (f := 17) ?_; refine callA_nil (by kernel_rfl) ?_) | (with_reducible refine isCall0 (f := 17) ?_; refine callA0_nil (by kernel_rfl) ?_)); refine (rfcheck_ok ha.n ha.d ha.on ha.od ha.bn ha.bd (fun M1 m1 => Stop.mk ?_))) | (refine And.intro ?ob ?_; case ob => ((try simp only [sxO, ne_eq, maxLen] at *); omega)) | fail) <;> (try simp (config := { maxSteps := 1000000 }) only [hb0, ha.n.one, ha.d.one, ↓hold_pre, awayP, runOps, regK, step1, newK, genR, appR, obl, buildR, Value.cells, closeK, keepH, outV, retK, ret1, retC, RetV, Option.getD, runD, stepD, afterK, undef, simprocAttr, sxB, ↓sxD, sxE, sxTab]))
  have m1 : Mem.le M M1 := m1
  have ha1 := ha.le m1
  refine Stop.go ?_
  cases hc : chkF l1 l2 with
  | false =>
    rw [hc] at hK
    (replace hb0 := true_and True); refine Go1.mk ?_; repeat' ((first | (with_reducible refine Go1.go ?_) | ((with_reducible first | refine brv_mk ?_ ?_ | refine gsplitD ?_ ?_ | refine gsplitG ?_ ?_) <;> intro h <;> (try simp only [Bool.not_eq_true', Bool.not_eq_false'] at h) <;> replace hb0 := h) | (refine And.intro ?ob ?_; case ob => ((try simp only [sxO, ne_eq, maxLen] at *); omega)) | fail) <;> (try simp (config := { maxSteps := 1000000 }) only [hb0, ha1.n.one, ha1.d.one, ↓hold_pre, awayP, runOps, regK, step1, newK, genR, appR, obl, buildR, Value.cells, closeK, keepH, outV, retK, ret1, retC, RetV, Option.getD, runD, stepD, afterK, undef, simprocAttr, sxB, ↓sxD, sxE, sxTab]))
    exact hK.err _ m1
  | true =>
  rw [hc, if_pos rfl] at hK
  obtain ⟨n, d, hn, hd, e1, e2, q1, q2, q3⟩ := ha1.num hc
  rw [e1, e2] at hK
  by_cases hr : k < 0 ∨ 65536 < k
  · rw [if_pos hr] at hK
    by_cases h0 : k < 0
    · have d1 : decide (k < 0) = true := by rw [decide_eq_true_eq]; exact h0
      (replace hb0 := true_and True); refine Go1.mk ?_; repeat' ((first | (with_reducible refine Go1.go ?_) | ((with_reducible first | refine brv_mk ?_ ?_ | refine gsplitD ?_ ?_ | refine gsplitG ?_ ?_) <;> intro h <;> (try simp only [Bool.not_eq_true', Bool.not_eq_false'] at h) <;> replace hb0 := h) | (refine And.intro ?ob ?_; case ob => ((try simp only [sxO, ne_eq, maxLen] at *); omega)) | fail) <;> (try simp (config := { maxSteps := 1000000 }) only [hb0, hn.one, hd.one, d1, ↓hold_pre, awayP, runOps, regK, step1, newK, genR, appR, obl, buildR, Value.cells, closeK, keepH, outV, retK, ret1, retC, RetV, Option.getD, runD, stepD, afterK, undef, simprocAttr, sxB, ↓sxD, sxE, sxTab]))
      exact hK.err _ m1
    · have d1 : decide (k < 0) = false := by rw [decide_eq_false_iff_not]; exact h0
      have d2 : decide (65536 < k) = true := by rw [decide_eq_true_eq]; omega
      (replace hb0 := true_and True); refine Go1.mk ?_; repeat' ((first | (with_reducible refine Go1.go ?_) | ((with_reducible first | refine brv_mk ?_ ?_ | refine gsplitD ?_ ?_ | refine gsplitG ?_ ?_) <;> intro h <;> (try simp only [Bool.not_eq_true', Bool.not_eq_false'] at h) <;> replace hb0 := h) | (refine And.intro ?ob ?_; case ob => ((try simp only [sxO, ne_eq, maxLen] at *); omega)) | fail) <;> (try simp (config := { maxSteps := 1000000 }) only [hb0, hn.one, hd.one, d1, d2, ↓hold_pre, awayP, runOps, regK, step1, newK, genR, appR, obl, buildR, Value.cells, closeK, keepH, outV, retK, ret1, retC, RetV, Option.getD, runD, stepD, afterK, undef, simprocAttr, sxB, ↓sxD, sxE, sxTab]))
      exact hK.err _ m1
  rw [if_neg hr] at hK
  have d1 : decide (k < 0) = false := by rw [decide_eq_false_iff_not]; omega
  have d2 : decide (65536 < k) = false := by rw [decide_eq_false_iff_not]; omega
  obtain ⟨j, rfl⟩ := Int.eq_ofNat_of_zero_le (show 0 ≤ k by omega)
  rw [Int.toNat_natCast] at hK
  by_cases h1 : (ofN (n ^ j)).length ≤ 128
  · (replace hb0 := true_and True); refine Go1.mk ?_; repeat' ((first | (with_reducible refine Go1.go ?_) | ((with_reducible first | refine brv_mk ?_ ?_ | refine gsplitD ?_ ?_ | refine gsplitG ?_ ?_) <;> intro h <;> (try simp only [Bool.not_eq_true', Bool.not_eq_false'] at h) <;> replace hb0 := h) | ((first | (with_reducible refine isCall (f := 73) ?_; refine callA_nil (by kernel_rfl) ?_) | (with_reducible refine isCall0 (f := 73) ?_; refine callA0_nil (by kernel_rfl) ?_)); refine (rpow_in hn q1 (by omega) h1 (fun w1 M2 a1 a2 a3 => Stop.mk ?_))) | (refine And.intro ?ob ?_; case ob => ((try simp only [sxO, ne_eq, maxLen] at *); omega)) | fail) <;> (try simp (config := { maxSteps := 1000000 }) only [hb0, hn.one, hd.one, d1, d2, ↓hold_pre, awayP, runOps, regK, step1, newK, genR, appR, obl, buildR, Value.cells, closeK, keepH, outV, retK, ret1, retC, RetV, Option.getD, runD, stepD, afterK, undef, simprocAttr, sxB, ↓sxD, sxE, sxTab]))
    have a1 : Mem.le M1 M2 := a1
    have hn := hn.le a1
    have hd := hd.le a1
    refine Stop.go ?_
    by_cases h2 : (ofN (d ^ j)).length ≤ 128
    · rw [if_pos ⟨h1, h2⟩] at hK
      (replace hb0 := true_and True); refine Go1.mk ?_; repeat' ((first | (with_reducible refine Go1.go ?_) | ((with_reducible first | refine brv_mk ?_ ?_ | refine gsplitD ?_ ?_ | refine gsplitG ?_ ?_) <;> intro h <;> (try simp only [Bool.not_eq_true', Bool.not_eq_false'] at h) <;> replace hb0 := h) | ((first | (with_reducible refine isCall (f := 73) ?_; refine callA_nil (by kernel_rfl) ?_) | (with_reducible refine isCall0 (f := 73) ?_; refine callA0_nil (by kernel_rfl) ?_)); refine (rpow_in hd q2 (by omega) h2 (fun w2 M3 b1 b2 b3 => Stop.mk ?_))) | (refine And.intro ?ob ?_; case ob => ((try simp only [sxO, ne_eq, maxLen] at *); omega)) | fail) <;> (try simp (config := { maxSteps := 1000000 }) only [hb0, hn.one, hd.one, a2.one, ↓hold_pre, awayP, runOps, regK, step1, newK, genR, appR, obl, buildR, Value.cells, closeK, keepH, outV, retK, ret1, retC, RetV, Option.getD, runD, stepD, afterK, undef, simprocAttr, sxB, ↓sxD, sxE, sxTab]))
      have b1 : Mem.le M2 M3 := b1
      have a2 := a2.le b1
      refine Stop.go ?_
      (replace hb0 := true_and True); refine Go1.mk ?_; repeat' ((first | (with_reducible refine Go1.go ?_) | ((with_reducible first | refine brv_mk ?_ ?_ | refine gsplitD ?_ ?_ | refine gsplitG ?_ ?_) <;> intro h <;> (try simp only [Bool.not_eq_true', Bool.not_eq_false'] at h) <;> replace hb0 := h) | (refine And.intro ?ob ?_; case ob => ((try simp only [sxO, ne_eq, maxLen] at *); omega)) | fail) <;> (try simp (config := { maxSteps := 1000000 }) only [hb0, a2.one, b2.one, ↓hold_pre, awayP, runOps, regK, step1, newK, genR, appR, obl, buildR, Value.cells, closeK, keepH, outV, retK, ret1, retC, RetV, Option.getD, runD, stepD, afterK, undef, simprocAttr, sxB, ↓sxD, sxE, sxTab]))
      exact hK _ _ _ ((m1.trans a1).trans b1) a2 b2 (a3.le m1) (b3.le (m1.trans a1))
    · rw [if_neg (fun h => h2 h.2)] at hK
      (replace hb0 := true_and True); refine Go1.mk ?_; repeat' ((first | (with_reducible refine Go1.go ?_) | ((with_reducible first | refine brv_mk ?_ ?_ | refine gsplitD ?_ ?_ | refine gsplitG ?_ ?_) <;> intro h <;> (try simp only [Bool.not_eq_true', Bool.not_eq_false'] at h) <;> replace hb0 := h) | ((first | (with_reducible refine isCall (f := 73) ?_; refine callA_nil (by kernel_rfl) ?_) | (with_reducible refine isCall0 (f := 73) ?_; refine callA0_nil (by kernel_rfl) ?_)); refine (rpow_out hd q2 (by omega) h2 (fun w2 M3 b1 b2 => Stop.mk ?_))) | (refine And.intro ?ob ?_; case ob => ((try simp only [sxO, ne_eq, maxLen] at *); omega)) | fail) <;> (try simp (config := { maxSteps := 1000000 }) only [hb0, hn.one, hd.one, a2.one, ↓hold_pre, awayP, runOps, regK, step1, newK, genR, appR, obl, buildR, Value.cells, closeK, keepH, outV, retK, ret1, retC, RetV, Option.getD, runD, stepD, afterK, undef, simprocAttr, sxB, ↓sxD, sxE, sxTab]))
      have b1 : Mem.le M2 M3 := b1
      have a2 := a2.le b1
      refine Stop.go ?_
      (replace hb0 := true_and True); refine Go1.mk ?_; repeat' ((first | (with_reducible refine Go1.go ?_) | ((with_reducible first | refine brv_mk ?_ ?_ | refine gsplitD ?_ ?_ | refine gsplitG ?_ ?_) <;> intro h <;> (try simp only [Bool.not_eq_true', Bool.not_eq_false'] at h) <;> replace hb0 := h) | (refine And.intro ?ob ?_; case ob => ((try simp only [sxO, ne_eq, maxLen] at *); omega)) | fail) <;> (try simp (config := { maxSteps := 1000000 }) only [hb0, a2.one, b2.one, ↓hold_pre, awayP, runOps, regK, step1, newK, genR, appR, obl, buildR, Value.cells, closeK, keepH, outV, retK, ret1, retC, RetV, Option.getD, runD, stepD, afterK, undef, simprocAttr, sxB, ↓sxD, sxE, sxTab]))
      exact hK.err _ ((m1.trans a1).trans b1)
  · rw [if_neg (fun h => h1 h.1)] at hK
    (replace hb0 := true_and True); refine Go1.mk ?_; repeat' ((first | (with_reducible refine Go1.go ?_) | ((with_reducible first | refine brv_mk ?_ ?_ | refine gsplitD ?_ ?_ | refine gsplitG ?_ ?_) <;> intro h <;> (try simp only [Bool.not_eq_true', Bool.not_eq_false'] at h) <;> replace hb0 := h) | ((first | (with_reducible refine isCall (f := 73) ?_; refine callA_nil (by kernel_rfl) ?_) | (with_reducible refine isCall0 (f := 73) ?_; refine callA0_nil (by kernel_rfl) ?_)); refine (rpow_out hn q1 (by omega) h1 (fun w1 M2 a1 a2 => Stop.mk ?_))) | (refine And.intro ?ob ?_; case ob => ((try simp only [sxO, ne_eq, maxLen] at *); omega)) | fail) <;> (try simp (config := { maxSteps := 1000000 }) only [hb0, hn.one, hd.one, d1, d2, ↓hold_pre, awayP, runOps, regK, step1, newK, genR, appR, obl, buildR, Value.cells, closeK, keepH, outV, retK, ret1, retC, RetV, Option.getD, runD, stepD, afterK, undef, simprocAttr, sxB, ↓sxD, sxE, sxTab]))
    have a1 : Mem.le M1 M2 := a1
    have hd := hd.le a1
    refine Stop.go ?_
    by_cases h2 : (ofN (d ^ j)).length ≤ 128
    · (replace hb0 := true_and True); refine Go1.mk ?_; repeat' ((first | (with_reducible refine Go1.go ?_) | ((with_reducible first | refine brv_mk ?_ ?_ | refine gsplitD ?_ ?_ | refine gsplitG ?_ ?_) <;> intro h <;> (try simp only [Bool.not_eq_true', Bool.not_eq_false'] at h) <;> replace hb0 := h) | ((first | (with_reducible refine isCall (f := 73) ?_; refine callA_nil (by kernel_rfl) ?_) | (with_reducible refine isCall0 (f := 73) ?_; refine callA0_nil (by kernel_rfl) ?_)); refine (rpow_in hd q2 (by omega) h2 (fun w2 M3 b1 b2 b3 => Stop.mk ?_))) | (refine And.intro ?ob ?_; case ob => ((try simp only [sxO, ne_eq, maxLen] at *); omega)) | fail) <;> (try simp (config := { maxSteps := 1000000 }) only [hb0, hn.one, hd.one, a2.one, ↓hold_pre, awayP, runOps, regK, step1, newK, genR, appR, obl, buildR, Value.cells, closeK, keepH, outV, retK, ret1, retC, RetV, Option.getD, runD, stepD, afterK, undef, simprocAttr, sxB, ↓sxD, sxE, sxTab]))
      have b1 : Mem.le M2 M3 := b1
      have a2 := a2.le b1
      refine Stop.go ?_
      (replace hb0 := true_and True); refine Go1.mk ?_; repeat' ((first | (with_reducible refine Go1.go ?_) | ((with_reducible first | refine brv_mk ?_ ?_ | refine gsplitD ?_ ?_ | refine gsplitG ?_ ?_) <;> intro h <;> (try simp only [Bool.not_eq_true', Bool.not_eq_false'] at h) <;> replace hb0 := h) | (refine And.intro ?ob ?_; case ob => ((try simp only [sxO, ne_eq, maxLen] at *); omega)) | fail) <;> (try simp (config := { maxSteps := 1000000 }) only [hb0, a2.one, b2.one, ↓hold_pre, awayP, runOps, regK, step1, newK, genR, appR, obl, buildR, Value.cells, closeK, keepH, outV, retK, ret1, retC, RetV, Option.getD, runD, stepD, afterK, undef, simprocAttr, sxB, ↓sxD, sxE, sxTab]))
      exact hK.err _ ((m1.trans a1).trans b1)
    · (replace hb0 := true_and True); refine Go1.mk ?_; repeat' ((first | (with_reducible refine Go1.go ?_) | ((with_reducible first | refine brv_mk ?_ ?_ | refine gsplitD ?_ ?_ | refine gsplitG ?_ ?_) <;> intro h <;> (try simp only [Bool.not_eq_true', Bool.not_eq_false'] at h) <;> replace hb0 := h) | ((first | (with_reducible refine isCall (f := 73) ?_; refine callA_nil (by kernel_rfl) ?_) | (with_reducible refine isCall0 (f := 73) ?_; refine callA0_nil (by kernel_rfl) ?_)); refine (rpow_out hd q2 (by omega) h2 (fun w2 M3 b1 b2 => Stop.mk ?_))) | (refine And.intro ?ob ?_; case ob => ((try simp only [sxO, ne_eq, maxLen] at *); omega)) | fail) <;> (try simp (config := { maxSteps := 1000000 }) only [hb0, hn.one, hd.one, a2.one, ↓hold_pre, awayP, runOps, regK, step1, newK, genR, appR, obl, buildR, Value.cells, closeK, keepH, outV, retK, ret1, retC, RetV, Option.getD, runD, stepD, afterK, undef, simprocAttr, sxB, ↓sxD, sxE, sxTab]))
      have b1 : Mem.le M2 M3 := b1
      have a2 := a2.le b1
      refine Stop.go ?_
      (replace hb0 := true_and True); refine Go1.mk ?_; repeat' ((first | (with_reducible refine Go1.go ?_) | ((with_reducible first | refine brv_mk ?_ ?_ | refine gsplitD ?_ ?_ | refine gsplitG ?_ ?_) <;> intro h <;> (try simp only [Bool.not_eq_true', Bool.not_eq_false'] at h) <;> replace hb0 := h) | (refine And.intro ?ob ?_; case ob => ((try simp only [sxO, ne_eq, maxLen] at *); omega)) | fail) <;> (try simp (config := { maxSteps := 1000000 }) only [hb0, a2.one, b2.one, ↓hold_pre, awayP, runOps, regK, step1, newK, genR, appR, obl, buildR, Value.cells, closeK, keepH, outV, retK, ret1, retC, RetV, Option.getD, runD, stepD, afterK, undef, simprocAttr, sxB, ↓sxD, sxE, sxTab]))
      exact hK.err _ ((m1.trans a1).trans b1)
end
end Go.Proofs.YtamghpnjdohnjaaDoor.Sx
namespace Go.Proofs.YtamghpnjdohnjaaDoor.Sx
open Go Go.RowKit
set_option linter.unusedVariables false
set_option linter.unusedSimpArgs false
set_option maxRecDepth 100000
set_option maxHeartbeats 8000000
attribute [local congr] fin_congr finG_congr stepG_congr step1_congr runOps_congr brv_congr obl_congr condK_congr LoopK_congr seqK_congr CutK_congr vc_congr DrawK_congr regK_congr CallK_congr AskK_congr newK_congr retC_congr ret1_congr retK_congr outV_congr closeK_congr genR_congr appR_congr finD_congr finGD_congr stepGD_congr stepD_congr CallK0_congr runD_congr okR_congr CallS_congr vcX_congr
attribute [local congr] Stop_congr
structure FR where
  u1 : Value
  u2 : Value
  l1 : List Nat
  l2 : List Nat
def FR.c (x : FR) : List Value := [x.u1, x.u2]
def okFL (M : Mem) (L : List FR) : Prop := ∀ x ∈ L, IsF M x.u1 x.u2 x.l1 x.l2
theorem okFL.le {M M' : Mem} {L : List FR} (h : okFL M L) (hM : Mem.le M M') : okFL M' L := fun x hx => (h x hx).le hM
def frC (L : List FR) : List AV := (L.flatMap FR.c).map .ext
theorem frC_len (L : List FR) : (frC L).length = L.length * 2 := by
  unfold frC
  rw [List.length_map, flat_len (z := 2) (fun _ => rfl)]
theorem frC_ment (L : List FR) : mentL (frC L) = [] := mentL_ext _
theorem killL_ext (k : Nat) : ∀ vs : List Value, killL k (vs.map .ext) = vs.map .ext
  | [] => rfl
  | v :: r => by simp only [List.map_cons, killL, AV.kill, killL_ext k r]
theorem frC_kill (k : Nat) (L : List FR) : killL k (frC L) = frC L := killL_ext _ _
theorem frC_app (L : List FR) (x : FR) : frC L ++ [.ext x.u1, .ext x.u2] = frC (L ++ [x]) := by simp [frC, FR.c]
theorem frC_app2 (L : List FR) (x y : FR) : frC L ++ [.ext x.u1, .ext x.u2, .ext y.u1, .ext y.u2] = frC (L ++ [x, y]) := by simp [frC, FR.c]
theorem frC_one {M : Mem} {L : List FR} (h : okFL M L) : allOne (frC L) = True := eq_true (by
  induction L with
  | nil => trivial
  | cons x r ih =>
    have hx := h x List.mem_cons_self
    refine ⟨hx.n.one, hx.d.one, ih fun y hy => h y (List.mem_cons_of_mem _ hy)⟩)
def sumG (n d : Nat) : List FR → Int × Nat × Nat
  | [] => (0, n, d)
  | x :: r => if (addF (ofN n) (ofN d) x.l1 x.l2).1 = 0 then sumG (addF (ofN n) (ofN d) x.l1 x.l2).2.1 (addF (ofN n) (ofN d) x.l1 x.l2).2.2 r else ((addF (ofN n) (ofN d) x.l1 x.l2).1, 0, 0)
theorem sumG_cons (n d : Nat) (x : FR) (r : List FR) : sumG n d (x :: r) = if (addF (ofN n) (ofN d) x.l1 x.l2).1 = 0 then sumG (addF (ofN n) (ofN d) x.l1 x.l2).2.1 (addF (ofN n) (ofN d) x.l1 x.l2).2.2 r else ((addF (ofN n) (ofN d) x.l1 x.l2).1, 0, 0) := by rw [sumG]
def sumF (L : List FR) : Int × Nat × Nat := if L.all (fun x => chkF x.l1 x.l2) then sumG 0 1 L else (1, 0, 0)
theorem exF_len' (n d : Nat) : (ofN (exF n d).2.1).length ≤ 128 ∧ (ofN (exF n d).2.2).length ≤ 128 := by
  unfold exF
  split
  · assumption
  · simp only [ofN_zero]; simp
theorem addF_len' (a b c d : List Nat) : (ofN (addF a b c d).2.1).length ≤ 128 ∧ (ofN (addF a b c d).2.2).length ≤ 128 := by
  unfold addF
  split
  · exact exF_len' _ _
  · simp only [ofN_zero]; simp
theorem sumG_len : ∀ (L : List FR) (n d : Nat), (ofN n).length ≤ 128 → (ofN d).length ≤ 128 → (ofN (sumG n d L).2.1).length ≤ 128 ∧ (ofN (sumG n d L).2.2).length ≤ 128
  | [], n, d, h1, h2 => ⟨h1, h2⟩
  | x :: r, n, d, h1, h2 => by
    unfold sumG
    split
    · exact sumG_len r _ _ (addF_len' _ _ _ _).1 (addF_len' _ _ _ _).2
    · simp only [ofN_zero]; simp
theorem one_short : (ofN 1).length ≤ 128 := by rw [ofN_1]; decide
theorem zero_short : (ofN 0).length ≤ 128 := by rw [ofN_zero]; decide
theorem sumF_len (L : List FR) : (ofN (sumF L).2.1).length ≤ 128 ∧ (ofN (sumF L).2.2).length ≤ 128 := by
  unfold sumF
  split
  · exact sumG_len L 0 1 zero_short one_short
  · simp only [ofN_zero]; simp
theorem drop_next {L : List FR} {i : Nat} (h : i < L.length) : L.drop i = L[i] :: L.drop (i + 1) := List.drop_eq_getElem_cons h
section
variable {M : Mem} {K : AV → Hp → Mem → Prop} {u u1 u2 v1 v2 : Value} {l1 l2 k1 k2 : List Nat} {L : List FR}
theorem sum1_ok (ha : IsF M u1 u2 l1 l2) (hb : IsF M v1 v2 k1 k2) (hK : FracK M K (addF l1 l2 k1 k2)) : CallS Tryd.prog 75 [.ext (.agg #[u1, u2]), .ext (.agg #[v1, v2])] [] M [] K := by
  refine inlS (cs := []) Tryd.mixed Tryd.func75 rfl (by kernel_rfl) 0 rfl rfl ?_
  simp only [Tryd.f75]
  (replace hb0 := true_and True); refine Go1.mk ?_; repeat' ((first | (with_reducible refine Go1.go ?_) | ((with_reducible first | refine brv_mk ?_ ?_ | refine gsplitD ?_ ?_ | refine gsplitG ?_ ?_) <;> intro h <;> (try simp only [Bool.not_eq_true', Bool.not_eq_false'] at h) <;> replace hb0 := h) | ((first | (with_reducible refine isCall (f := 22) ?_; refine callA_nil (by kernel_rfl) ?_) | (with_reducible refine isCall0 (f := 22) ?_; refine callA0_nil (by kernel_rfl) ?_)); refine (fadd_ok ha hb (fun w1 w2 M1 a1 a2 a3 a4 a5 => Stop.mk ?_))) | (refine And.intro ?ob ?_; case ob => ((try simp only [sxO, ne_eq, maxLen] at *); omega)) | fail) <;> (try simp (config := { maxSteps := 1000000 }) only [hb0, ha.n.one, ha.d.one, hb.n.one, hb.d.one, ↓hold_pre, awayP, runOps, regK, step1, newK, genR, appR, obl, buildR, Value.cells, closeK, keepH, outV, retK, ret1, retC, RetV, Option.getD, runD, stepD, afterK, undef, simprocAttr, sxB, ↓sxD, sxE, sxTab]))
  refine Stop.go ?_
  (replace hb0 := true_and True); refine Go1.mk ?_; repeat' ((first | (with_reducible refine Go1.go ?_) | ((with_reducible first | refine brv_mk ?_ ?_ | refine gsplitD ?_ ?_ | refine gsplitG ?_ ?_) <;> intro h <;> (try simp only [Bool.not_eq_true', Bool.not_eq_false'] at h) <;> replace hb0 := h) | (refine And.intro ?ob ?_; case ob => ((try simp only [sxO, ne_eq, maxLen] at *); omega)) | fail) <;> (try simp (config := { maxSteps := 1000000 }) only [hb0, a2.one, a3.one, ↓hold_pre, awayP, runOps, regK, step1, newK, genR, appR, obl, buildR, Value.cells, closeK, keepH, outV, retK, ret1, retC, RetV, Option.getD, runD, stepD, afterK, undef, simprocAttr, sxB, ↓sxD, sxE, sxTab]))
  exact hK _ _ _ a1 a2 a3 a4 a5
def ffSt (M : Mem) (u w1 w2 : Value) (n i : Nat) : St := { env := [(15, .ext (.int .i64 (i : Int))), (14, .ext (.int .i64 (n : Int))), (13, .ext u), (6, .own 6 0), (4, .own 4 0), (1, .fn 75 [])], hp := [(6, 25, [.ext w1, .ext w2]), (4, 25, [.ext (.slice none 0 0), .ext (.slice none 0 0)])], M := M, kb := 0, fx := [] }
theorem ffold_ok (hu : IsR M 2 FR.c u L) (hL : okFL M L) (hb : L.length < 1000000) (hK : FracK M K (sumG 0 1 L)) : CallS Tryd.prog 74 [.ext u, .fn 75 []] [] M [] K := by
  refine inlS (cs := []) Tryd.mixed Tryd.func74 rfl (by kernel_rfl) 0 rfl rfl ?_
  simp only [Tryd.f74]
  (replace hb0 := true_and True); refine Go1.mk ?_; repeat' ((first | (with_reducible refine Go1.go ?_) | ((with_reducible first | refine brv_mk ?_ ?_ | refine gsplitD ?_ ?_ | refine gsplitG ?_ ?_) <;> intro h <;> (try simp only [Bool.not_eq_true', Bool.not_eq_false'] at h) <;> replace hb0 := h) | ((first | (with_reducible refine isCall (f := 54) ?_; refine callA_nil (by kernel_rfl) ?_) | (with_reducible refine isCall0 (f := 54) ?_; refine callA0_nil (by kernel_rfl) ?_)); refine (natOf_ok 1 (by decide) (fun w2 M1 a1 a2 a3 => Stop.mk ?_))) | (refine And.intro ?ob ?_; case ob => ((try simp only [sxO, ne_eq, maxLen] at *); omega)) | fail) <;> (try simp (config := { maxSteps := 1000000 }) only [hb0, hu.one, ↓hold_pre, awayP, runOps, regK, step1, newK, genR, appR, obl, buildR, Value.cells, closeK, keepH, outV, retK, ret1, retC, RetV, Option.getD, runD, stepD, afterK, undef, simprocAttr, sxB, ↓sxD, sxE, sxTab]))
  have a1 : Mem.le M M1 := a1
  have hu1 := hu.le a1
  have hL1 := hL.le a1
  refine Stop.go ?_
  (replace hb0 := true_and True); refine Go1.mk ?_; repeat' ((first | (with_reducible refine Go1.go ?_) | ((with_reducible first | refine brv_mk ?_ ?_ | refine gsplitD ?_ ?_ | refine gsplitG ?_ ?_) <;> intro h <;> (try simp only [Bool.not_eq_true', Bool.not_eq_false'] at h) <;> replace hb0 := h) | (refine And.intro ?ob ?_; case ob => ((try simp only [sxO, ne_eq, maxLen] at *); omega)) | fail) <;> (try simp (config := { maxSteps := 1000000 }) only [hb0, hu1.one, hu1.len, hu1.sl, a2.one, ↓hold_pre, awayP, runOps, regK, step1, newK, genR, appR, obl, buildR, Value.cells, closeK, keepH, outV, retK, ret1, retC, RetV, Option.getD, runD, stepD, afterK, undef, simprocAttr, sxB, ↓sxD, sxE, sxTab]))
  refine ⟨fun m z => ∃ M' w1 w2 n d i, m = L.length - i ∧ i ≤ L.length ∧ Mem.le M M' ∧ IsL M' u32V w1 (ofN n) ∧ IsL M' u32V w2 (ofN d) ∧ FreshS M w1 ∧ FreshS M w2 ∧ (ofN n).length ≤ 128 ∧ (ofN d).length ≤ 128 ∧ sumG n d (L.drop i) = sumG 0 1 L ∧ z = ffSt M' u w1 w2 L.length i,
    ⟨L.length, ffSt M1 u (.slice none 0 0) w2 L.length 0, le_sub ⟨rfl, rfl, rfl, rfl, rfl, rfl, trivial⟩ ⟨rfl, rfl, trivial⟩ rfl rfl rfl (keepLt0 _), ⟨M1, _, w2, 0, 1, 0, by omega, by omega, a1, by rw [ofN_zero]; exact isL_nil _ _ _, a2, freshS_nil _ _, a3, zero_short, one_short, rfl, rfl⟩⟩, ?_⟩
  clear a2 a3 hu1 hL1
  rintro m z ⟨M2, w1, w2, n, d, i, rfl, hi, hM, hw1, hw2, fw1, fw2, hl1, hl2, hs, rfl⟩
  have hu2 := hu.le hM
  have hL2 := hL.le hM
  by_cases hlt : i < L.length
  case neg =>
    obtain rfl : i = L.length := by omega
    have e1 : decide ((L.length : Int) < (L.length : Int)) = false := by simp
    rw [List.drop_length] at hs
    rw [← hs] at hK
    (replace hb0 := true_and True); refine Go1.mk ?_; repeat' ((first | (with_reducible refine Go1.go ?_) | ((with_reducible first | refine brv_mk ?_ ?_ | refine gsplitD ?_ ?_ | refine gsplitG ?_ ?_) <;> intro h <;> (try simp only [Bool.not_eq_true', Bool.not_eq_false'] at h) <;> replace hb0 := h) | (refine And.intro ?ob ?_; case ob => ((try simp only [sxO, ne_eq, maxLen] at *); omega)) | fail) <;> (try simp (config := { maxSteps := 1000000 }) only [hb0, ffSt, hu2.one, hw1.one, hw2.one, e1, ↓hold_pre, awayP, runOps, regK, step1, newK, genR, appR, obl, buildR, Value.cells, closeK, keepH, outV, retK, ret1, retC, RetV, Option.getD, runD, stepD, afterK, undef, simprocAttr, sxB, ↓sxD, sxE, sxTab]))
    exact hK _ _ _ hM hw1 hw2 fw1 fw2
  have e1 : decide ((i : Int) < (L.length : Int)) = true := by rw [decide_eq_true_eq]; omega
  have b1 : (0 : Int) ≤ (i : Int) := by omega
  have b2 : (i : Int) < (L.length : Int) := by omega
  have hnn := hu2.nn hlt
  have hat := hu2.at (P := Tryd.prog) (T := 25) (fun _ => rfl) tk25 tz25 hlt
  have hF := hL2 _ (List.getElem_mem hlt)
  rw [drop_next hlt] at hs
  have wi : IntKind.i64.wrap ((i : Int) + 1) = ((i + 1 : Nat) : Int) := succ_i (by omega)
  generalize L[i] = x at *
  obtain ⟨x1, x2, y1, y2⟩ := x
  have hat : lookM Tryd.prog 25 M2 (elemP u 2 i) = some (.agg #[x1, x2]) := hat
  have hF : IsF M2 x1 x2 y1 y2 := hF
  simp only [sumG_cons] at hs
  (replace hb0 := true_and True); refine Go1.mk ?_; repeat' ((first | (with_reducible refine Go1.go ?_) | ((with_reducible first | refine brv_mk ?_ ?_ | refine gsplitD ?_ ?_ | refine gsplitG ?_ ?_) <;> intro h <;> (try simp only [Bool.not_eq_true', Bool.not_eq_false'] at h) <;> replace hb0 := h) | ((first | (with_reducible refine isCall (f := 75) ?_; refine callA_nil (by kernel_rfl) ?_) | (with_reducible refine isCall0 (f := 75) ?_; refine callA0_nil (by kernel_rfl) ?_)); refine (sum1_ok ⟨hw1, hw2, okN_ofN _, okN_ofN _, by omega, by omega⟩ hF (fun v1 v2 M3 c1 c2 c3 c4 c5 => Stop.mk ?_))) | (refine And.intro ?ob ?_; case ob => ((try simp only [sxO, ne_eq, maxLen] at *); omega)) | fail) <;> (try simp (config := { maxSteps := 1000000 }) only [hb0, ffSt, hu2.one, hu2.len, hu2.sl, hnn, hw1.one, hw2.one, e1, b1, b2, hat, hF.n.one, hF.d.one, ↓hold_pre, awayP, runOps, regK, step1, newK, genR, appR, obl, buildR, Value.cells, closeK, keepH, outV, retK, ret1, retC, RetV, Option.getD, runD, stepD, afterK, undef, simprocAttr, sxB, ↓sxD, sxE, sxTab]))
  have c1 : Mem.le M2 M3 := c1
  obtain ⟨q1, q2⟩ := addF_len' (ofN n) (ofN d) y1 y2
  refine Stop.go ?_
  by_cases h0 : (addF (ofN n) (ofN d) y1 y2).1 = 0
  · have e2 : decide ((addF (ofN n) (ofN d) y1 y2).1 = 0) = true := decide_eq_true h0
    rw [if_pos h0] at hs
    (replace hb0 := true_and True); refine Go1.mk ?_; repeat' ((first | (with_reducible refine Go1.go ?_) | ((with_reducible first | refine brv_mk ?_ ?_ | refine gsplitD ?_ ?_ | refine gsplitG ?_ ?_) <;> intro h <;> (try simp only [Bool.not_eq_true', Bool.not_eq_false'] at h) <;> replace hb0 := h) | (refine And.intro ?ob ?_; case ob => ((try simp only [sxO, ne_eq, maxLen] at *); omega)) | fail) <;> (try simp (config := { maxSteps := 1000000 }) only [hb0, c2.one, c3.one, e2, wi, ↓hold_pre, awayP, runOps, regK, step1, newK, genR, appR, obl, buildR, Value.cells, closeK, keepH, outV, retK, ret1, retC, RetV, Option.getD, runD, stepD, afterK, undef, simprocAttr, sxB, ↓sxD, sxE, sxTab]))
    exact ⟨L.length - (i + 1), ffSt M3 u v1 v2 L.length (i + 1), by omega, le_sub ⟨rfl, rfl, rfl, rfl, rfl, rfl, trivial⟩ ⟨rfl, rfl, trivial⟩ rfl rfl rfl (keepLt0 _), M3, v1, v2, _, _, i + 1, rfl, by omega, hM.trans c1, c2, c3, c4.le hM, c5.le hM, q1, q2, hs, rfl⟩
  · have e2 : decide ((addF (ofN n) (ofN d) y1 y2).1 = 0) = false := decide_eq_false h0
    rw [if_neg h0] at hs
    rw [← hs] at hK
    (replace hb0 := true_and True); refine Go1.mk ?_; repeat' ((first | (with_reducible refine Go1.go ?_) | ((with_reducible first | refine brv_mk ?_ ?_ | refine gsplitD ?_ ?_ | refine gsplitG ?_ ?_) <;> intro h <;> (try simp only [Bool.not_eq_true', Bool.not_eq_false'] at h) <;> replace hb0 := h) | (refine And.intro ?ob ?_; case ob => ((try simp only [sxO, ne_eq, maxLen] at *); omega)) | fail) <;> (try simp (config := { maxSteps := 1000000 }) only [hb0, c2.one, c3.one, e2, wi, ↓hold_pre, awayP, runOps, regK, step1, newK, genR, appR, obl, buildR, Value.cells, closeK, keepH, outV, retK, ret1, retC, RetV, Option.getD, runD, stepD, afterK, undef, simprocAttr, sxB, ↓sxD, sxE, sxTab]))
    exact hK.err _ (hM.trans c1)
theorem all_take {L : List FR} {i : Nat} (h : ∀ x ∈ L.take i, chkF x.l1 x.l2 = true) (hi : L.length ≤ i) : L.all (fun x => chkF x.l1 x.l2) = true := by
  rw [List.take_of_length_le hi] at h
  exact List.all_eq_true.2 h
theorem all_not {L : List FR} {x : FR} (hx : x ∈ L) (h : chkF x.l1 x.l2 = false) : ¬ L.all (fun x => chkF x.l1 x.l2) = true := fun h2 => by
  have := List.all_eq_true.1 h2 x hx
  rw [h] at this; cases this
theorem take_next {L : List FR} {i : Nat} (h : i < L.length) (hp : ∀ x ∈ L.take i, chkF x.l1 x.l2 = true) (hx : chkF L[i].l1 L[i].l2 = true) : ∀ x ∈ L.take (i + 1), chkF x.l1 x.l2 = true := fun x hm => by
  rw [List.take_add_one, List.getElem?_eq_getElem h] at hm
  rcases List.mem_append.1 hm with h1 | h1
  · exact hp x h1
  · have : x = L[i] := by simpa using h1
    rw [this]; exact hx
def fsSt (M : Mem) (u : Value) (n i : Nat) : St := { env := [(8, .ext (.int .i64 (i : Int))), (7, .ext (.int .i64 (n : Int))), (6, .ext u), (2, .own 2 0), (0, .ext u)], hp := [(2, 25, [.ext (.slice none 0 0), .ext (.slice none 0 0)])], M := M, kb := 0, fx := [] }
theorem fsum_ok (hu : IsR M 2 FR.c u L) (hL : okFL M L) (hb : L.length < 1000000) (hK : FracK M K (sumF L)) : CallS Tryd.prog 38 [.ext u] [] M [] K := by
  refine inlS (cs := []) Tryd.mixed Tryd.func38 rfl (by kernel_rfl) 0 rfl rfl ?_
  simp only [Tryd.f38]
  (replace hb0 := true_and True); refine Go1.mk ?_; repeat' ((first | (with_reducible refine Go1.go ?_) | ((with_reducible first | refine brv_mk ?_ ?_ | refine gsplitD ?_ ?_ | refine gsplitG ?_ ?_) <;> intro h <;> (try simp only [Bool.not_eq_true', Bool.not_eq_false'] at h) <;> replace hb0 := h) | (refine And.intro ?ob ?_; case ob => ((try simp only [sxO, ne_eq, maxLen] at *); omega)) | fail) <;> (try simp (config := { maxSteps := 1000000 }) only [hb0, hu.one, hu.len, hu.sl, ↓hold_pre, awayP, runOps, regK, step1, newK, genR, appR, obl, buildR, Value.cells, closeK, keepH, outV, retK, ret1, retC, RetV, Option.getD, runD, stepD, afterK, undef, simprocAttr, sxB, ↓sxD, sxE, sxTab]))
  unfold sumF at hK
  refine ⟨fun m z => ∃ M' i, m = L.length - i ∧ i ≤ L.length ∧ Mem.le M M' ∧ (∀ x ∈ L.take i, chkF x.l1 x.l2 = true) ∧ z = fsSt M' u L.length i,
    ⟨L.length, fsSt M u L.length 0, le_sub ⟨rfl, rfl, rfl, rfl, rfl, trivial⟩ ⟨rfl, trivial⟩ rfl rfl rfl (keepLt0 _), ⟨M, 0, by omega, by omega, Mem.le.refl _, by simp, rfl⟩⟩, ?_⟩
  rintro m z ⟨M2, i, rfl, hi, hM, hp, rfl⟩
  have hu2 := hu.le hM
  have hL2 := hL.le hM
  by_cases hlt : i < L.length
  case neg =>
    obtain rfl : i = L.length := by omega
    have e1 : decide ((L.length : Int) < (L.length : Int)) = false := by simp
    rw [if_pos (all_take hp (Nat.le_refl _))] at hK
    (replace hb0 := true_and True); refine Go1.mk ?_; repeat' ((first | (with_reducible refine Go1.go ?_) | ((with_reducible first | refine brv_mk ?_ ?_ | refine gsplitD ?_ ?_ | refine gsplitG ?_ ?_) <;> intro h <;> (try simp only [Bool.not_eq_true', Bool.not_eq_false'] at h) <;> replace hb0 := h) | ((first | (with_reducible refine isCall (f := 74) ?_; refine callA_nil (by kernel_rfl) ?_) | (with_reducible refine isCall0 (f := 74) ?_; refine callA0_nil (by kernel_rfl) ?_)); refine (ffold_ok hu2 hL2 hb (fun v1 v2 M3 c1 c2 c3 c4 c5 => Stop.mk ?_))) | (refine And.intro ?ob ?_; case ob => ((try simp only [sxO, ne_eq, maxLen] at *); omega)) | fail) <;> (try simp (config := { maxSteps := 1000000 }) only [hb0, fsSt, hu2.one, e1, ↓hold_pre, awayP, runOps, regK, step1, newK, genR, appR, obl, buildR, Value.cells, closeK, keepH, outV, retK, ret1, retC, RetV, Option.getD, runD, stepD, afterK, undef, simprocAttr, sxB, ↓sxD, sxE, sxTab]))
    refine Stop.go ?_
    (replace hb0 := true_and True); refine Go1.mk ?_; repeat' ((first | (with_reducible refine Go1.go ?_) | ((with_reducible first | refine brv_mk ?_ ?_ | refine gsplitD ?_ ?_ | refine gsplitG ?_ ?_) <;> intro h <;> (try simp only [Bool.not_eq_true', Bool.not_eq_false'] at h) <;> replace hb0 := h) | (refine And.intro ?ob ?_; case ob => ((try simp only [sxO, ne_eq, maxLen] at *); omega)) | fail) <;> (try simp (config := { maxSteps := 1000000 }) only [hb0, c2.one, c3.one, ↓hold_pre, awayP, runOps, regK, step1, newK, genR, appR, obl, buildR, Value.cells, closeK, keepH, outV, retK, ret1, retC, RetV, Option.getD, runD, stepD, afterK, undef, simprocAttr, sxB, ↓sxD, sxE, sxTab]))
    exact hK _ _ _ (hM.trans c1) c2 c3 (c4.le hM) (c5.le hM)
  have e1 : decide ((i : Int) < (L.length : Int)) = true := by rw [decide_eq_true_eq]; omega
  have b1 : (0 : Int) ≤ (i : Int) := by omega
  have b2 : (i : Int) < (L.length : Int) := by omega
  have hnn := hu2.nn hlt
  have hat := hu2.at (P := Tryd.prog) (T := 25) (fun _ => rfl) tk25 tz25 hlt
  have hmem := List.getElem_mem hlt
  have hF := hL2 _ hmem
  have hnx := take_next hlt hp
  have wi : IntKind.i64.wrap ((i : Int) + 1) = ((i + 1 : Nat) : Int) := succ_i (by omega)
  generalize L[i] = x at *
  obtain ⟨x1, x2, y1, y2⟩ := x
  have hat : lookM Tryd.prog 25 M2 (elemP u 2 i) = some (.agg #[x1, x2]) := hat
  have hF : IsF M2 x1 x2 y1 y2 := hF
  (replace hb0 := true_and True); refine Go1.mk ?_; repeat' ((first | (with_reducible refine Go1.go ?_) | ((with_reducible first | refine brv_mk ?_ ?_ | refine gsplitD ?_ ?_ | refine gsplitG ?_ ?_) <;> intro h <;> (try simp only [Bool.not_eq_true', Bool.not_eq_false'] at h) <;> replace hb0 := h) | ((first | (with_reducible refine isCall (f := 16) ?_; refine callA_nil (by kernel_rfl) ?_) | (with_reducible refine isCall0 (f := 16) ?_; refine callA0_nil (by kernel_rfl) ?_)); refine (fcheck_ok hF.n hF.d hF.on hF.od hF.bn hF.bd (fun M3 c1 => Stop.mk ?_))) | (refine And.intro ?ob ?_; case ob => ((try simp only [sxO, ne_eq, maxLen] at *); omega)) | fail) <;> (try simp (config := { maxSteps := 1000000 }) only [hb0, fsSt, hu2.one, hu2.len, hu2.sl, hnn, e1, b1, b2, hat, hF.n.one, hF.d.one, ↓hold_pre, awayP, runOps, regK, step1, newK, genR, appR, obl, buildR, Value.cells, closeK, keepH, outV, retK, ret1, retC, RetV, Option.getD, runD, stepD, afterK, undef, simprocAttr, sxB, ↓sxD, sxE, sxTab]))
  have c1 : Mem.le M2 M3 := c1
  have hF := hF.le c1
  refine Stop.go ?_
  cases hc : chkF y1 y2 with
  | true =>
    (replace hb0 := true_and True); refine Go1.mk ?_; repeat' ((first | (with_reducible refine Go1.go ?_) | ((with_reducible first | refine brv_mk ?_ ?_ | refine gsplitD ?_ ?_ | refine gsplitG ?_ ?_) <;> intro h <;> (try simp only [Bool.not_eq_true', Bool.not_eq_false'] at h) <;> replace hb0 := h) | (refine And.intro ?ob ?_; case ob => ((try simp only [sxO, ne_eq, maxLen] at *); omega)) | fail) <;> (try simp (config := { maxSteps := 1000000 }) only [hb0, hF.n.one, hF.d.one, wi, ↓hold_pre, awayP, runOps, regK, step1, newK, genR, appR, obl, buildR, Value.cells, closeK, keepH, outV, retK, ret1, retC, RetV, Option.getD, runD, stepD, afterK, undef, simprocAttr, sxB, ↓sxD, sxE, sxTab]))
    exact ⟨L.length - (i + 1), fsSt M3 u L.length (i + 1), by omega, le_sub ⟨rfl, rfl, rfl, rfl, rfl, trivial⟩ ⟨rfl, trivial⟩ rfl rfl rfl (keepLt0 _), M3, i + 1, rfl, by omega, hM.trans c1, hnx hc, rfl⟩
  | false =>
    rw [if_neg (all_not hmem hc)] at hK
    (replace hb0 := true_and True); refine Go1.mk ?_; repeat' ((first | (with_reducible refine Go1.go ?_) | ((with_reducible first | refine brv_mk ?_ ?_ | refine gsplitD ?_ ?_ | refine gsplitG ?_ ?_) <;> intro h <;> (try simp only [Bool.not_eq_true', Bool.not_eq_false'] at h) <;> replace hb0 := h) | (refine And.intro ?ob ?_; case ob => ((try simp only [sxO, ne_eq, maxLen] at *); omega)) | fail) <;> (try simp (config := { maxSteps := 1000000 }) only [hb0, hF.n.one, hF.d.one, wi, ↓hold_pre, awayP, runOps, regK, step1, newK, genR, appR, obl, buildR, Value.cells, closeK, keepH, outV, retK, ret1, retC, RetV, Option.getD, runD, stepD, afterK, undef, simprocAttr, sxB, ↓sxD, sxE, sxTab]))
    exact hK.err _ (hM.trans c1)
def rsaSt (M : Mem) (u : Value) (i : Nat) : St := { env := [(4, .ext (.int .i64 (i : Int))), (2, .own 2 0), (0, .ext u)], hp := [(2, 25, [.ext (.slice none 0 0), .ext (.slice none 0 0)])], M := M, kb := 0, fx := [] }
def rsbSt (M : Mem) (u w1 : Value) (v : AV) (d : List Nat) (i : Nat) : St := { env := [(6, .ext (.int .i64 (i : Int))), (5, .own 5 0), (2, .own 2 0), (0, .ext u)], hp := [(5, 25, [.ext w1, v]), (2, 25, [.ext (.slice none 0 0), .ext (.slice none 0 0)])], M := M, kb := 0, fx := [] }
theorem rfzero_ok (hK : ∀ w M', Mem.le M M' → IsL M' u32V w (ofN 1) → FreshS M w → K (.ext (.agg #[.slice none 0 0, w])) [] M') : CallS Tryd.prog 76 [] [] M [] K := by
  refine CallS.frzF ?_
  refine inlS (cs := []) Tryd.mixed Tryd.func76 rfl (by kernel_rfl) 0 rfl rfl ?_
  simp only [Tryd.f76]
  (replace hb0 := true_and True); refine Go1.mk ?_; repeat' ((first | (with_reducible refine Go1.go ?_) | ((with_reducible first | refine brv_mk ?_ ?_ | refine gsplitD ?_ ?_ | refine gsplitG ?_ ?_) <;> intro h <;> (try simp only [Bool.not_eq_true', Bool.not_eq_false'] at h) <;> replace hb0 := h) | (refine And.intro ?ob ?_; case ob => ((try simp only [sxO, ne_eq, maxLen] at *); omega)) | fail) <;> (try simp (config := { maxSteps := 1000000 }) only [hb0, ↓hold_pre, awayP, runOps, regK, step1, newK, genR, appR, obl, buildR, Value.cells, closeK, keepH, outV, retK, ret1, retC, RetV, Option.getD, runD, stepD, afterK, undef, simprocAttr, sxB, ↓sxD, sxE, sxTab]))
  rw [ofN_1] at hK
  exact .inr ⟨some false, [.ext (.slice none 0 0)], [], 1, 1, 1, _, [u32V 1], [], rfl, rfl, rfl, rfl, rfl, rfl, fun w M1 a1 a2 a3 => hK w M1 a1 a2 a3⟩
theorem rfsum_ok (hu : IsR M 2 FR.c u L) (hL : okFL M L) (hb : L.length < 1000000) (hK : FracK M K (sumF L)) : CallS Tryd.prog 39 [.ext u] [] M [] K := by
  refine inlS (cs := []) Tryd.mixed Tryd.func39 rfl (by kernel_rfl) 0 rfl rfl ?_
  simp only [Tryd.f39]
  (replace hb0 := true_and True); refine Go1.mk ?_; repeat' ((first | (with_reducible refine Go1.go ?_) | ((with_reducible first | refine brv_mk ?_ ?_ | refine gsplitD ?_ ?_ | refine gsplitG ?_ ?_) <;> intro h <;> (try simp only [Bool.not_eq_true', Bool.not_eq_false'] at h) <;> replace hb0 := h) | (refine And.intro ?ob ?_; case ob => ((try simp only [sxO, ne_eq, maxLen] at *); omega)) | fail) <;> (try simp (config := { maxSteps := 1000000 }) only [hb0, hu.one, hu.len, hu.sl, ↓hold_pre, awayP, runOps, regK, step1, newK, genR, appR, obl, buildR, Value.cells, closeK, keepH, outV, retK, ret1, retC, RetV, Option.getD, runD, stepD, afterK, undef, simprocAttr, sxB, ↓sxD, sxE, sxTab]))
  unfold sumF at hK
  refine ⟨fun m z => ∃ M' i, m = L.length - i ∧ i ≤ L.length ∧ Mem.le M M' ∧ (∀ x ∈ L.take i, chkF x.l1 x.l2 = true) ∧ z = rsaSt M' u i,
    ⟨L.length, rsaSt M u 0, le_sub ⟨rfl, rfl, rfl, trivial⟩ ⟨rfl, trivial⟩ rfl rfl rfl (keepLt0 _), ⟨M, 0, by omega, by omega, Mem.le.refl _, by simp, rfl⟩⟩, ?_⟩
  rintro m z ⟨M2, i, rfl, hi, hM, hp, rfl⟩
  have hu2 := hu.le hM
  have hL2 := hL.le hM
  by_cases hlt : i < L.length
  · have e1 : decide ((i : Int) < (L.length : Int)) = true := by rw [decide_eq_true_eq]; omega
    have b1 : (0 : Int) ≤ (i : Int) := by omega
    have b2 : (i : Int) < (L.length : Int) := by omega
    have hnn := hu2.nn hlt
    have hat := hu2.at (P := Tryd.prog) (T := 25) (fun _ => rfl) tk25 tz25 hlt
    have hmem := List.getElem_mem hlt
    have hF := hL2 _ hmem
    have hnx := take_next hlt hp
    have wi : IntKind.i64.wrap ((i : Int) + 1) = ((i + 1 : Nat) : Int) := succ_i (by omega)
    generalize L[i] = x at *
    obtain ⟨x1, x2, y1, y2⟩ := x
    have hat : lookM Tryd.prog 25 M2 (elemP u 2 i) = some (.agg #[x1, x2]) := hat
    have hF : IsF M2 x1 x2 y1 y2 := hF
    (replace hb0 := true_and True); refine Go1.mk ?_; repeat' ((first | (with_reducible refine Go1.go ?_) | ((with_reducible first | refine brv_mk ?_ ?_ | refine gsplitD ?_ ?_ | refine gsplitG ?_ ?_) <;> intro h <;> (try simp only [Bool.not_eq_true', Bool.not_eq_false'] at h) <;> replace hb0 := h) | ((first | (with_reducible refine isCall (f := 17) ?_; refine callA_nil (by kernel_rfl) ?_) | (with_reducible refine isCall0 (f := 17) ?_; refine callA0_nil (by kernel_rfl) ?_)); refine (rfcheck_ok hF.n hF.d hF.on hF.od hF.bn hF.bd (fun M3 c1 => Stop.mk ?_))) | (refine And.intro ?ob ?_; case ob => ((try simp only [sxO, ne_eq, maxLen] at *); omega)) | fail) <;> (try simp (config := { maxSteps := 1000000 }) only [hb0, rsaSt, hu2.one, hu2.len, hu2.sl, hnn, e1, b1, b2, hat, hF.n.one, hF.d.one, ↓hold_pre, awayP, runOps, regK, step1, newK, genR, appR, obl, buildR, Value.cells, closeK, keepH, outV, retK, ret1, retC, RetV, Option.getD, runD, stepD, afterK, undef, simprocAttr, sxB, ↓sxD, sxE, sxTab]))
    have c1 : Mem.le M2 M3 := c1
    have hF := hF.le c1
    refine Stop.go ?_
    cases hc : chkF y1 y2 with
    | true =>
      (replace hb0 := true_and True); refine Go1.mk ?_; repeat' ((first | (with_reducible refine Go1.go ?_) | ((with_reducible first | refine brv_mk ?_ ?_ | refine gsplitD ?_ ?_ | refine gsplitG ?_ ?_) <;> intro h <;> (try simp only [Bool.not_eq_true', Bool.not_eq_false'] at h) <;> replace hb0 := h) | (refine And.intro ?ob ?_; case ob => ((try simp only [sxO, ne_eq, maxLen] at *); omega)) | fail) <;> (try simp (config := { maxSteps := 1000000 }) only [hb0, hF.n.one, hF.d.one, wi, ↓hold_pre, awayP, runOps, regK, step1, newK, genR, appR, obl, buildR, Value.cells, closeK, keepH, outV, retK, ret1, retC, RetV, Option.getD, runD, stepD, afterK, undef, simprocAttr, sxB, ↓sxD, sxE, sxTab]))
      exact ⟨L.length - (i + 1), rsaSt M3 u (i + 1), by omega, le_sub ⟨rfl, rfl, rfl, trivial⟩ ⟨rfl, trivial⟩ rfl rfl rfl (keepLt0 _), M3, i + 1, rfl, by omega, hM.trans c1, hnx hc, rfl⟩
    | false =>
      rw [if_neg (all_not hmem hc)] at hK
      (replace hb0 := true_and True); refine Go1.mk ?_; repeat' ((first | (with_reducible refine Go1.go ?_) | ((with_reducible first | refine brv_mk ?_ ?_ | refine gsplitD ?_ ?_ | refine gsplitG ?_ ?_) <;> intro h <;> (try simp only [Bool.not_eq_true', Bool.not_eq_false'] at h) <;> replace hb0 := h) | (refine And.intro ?ob ?_; case ob => ((try simp only [sxO, ne_eq, maxLen] at *); omega)) | fail) <;> (try simp (config := { maxSteps := 1000000 }) only [hb0, hF.n.one, hF.d.one, wi, ↓hold_pre, awayP, runOps, regK, step1, newK, genR, appR, obl, buildR, Value.cells, closeK, keepH, outV, retK, ret1, retC, RetV, Option.getD, runD, stepD, afterK, undef, simprocAttr, sxB, ↓sxD, sxE, sxTab]))
      exact hK.err _ (hM.trans c1)
  obtain rfl : i = L.length := by omega
  have e1 : decide ((L.length : Int) < (L.length : Int)) = false := by simp
  rw [if_pos (all_take hp (Nat.le_refl _))] at hK
  clear hp hi hlt
  (replace hb0 := true_and True); refine Go1.mk ?_; repeat' ((first | (with_reducible refine Go1.go ?_) | ((with_reducible first | refine brv_mk ?_ ?_ | refine gsplitD ?_ ?_ | refine gsplitG ?_ ?_) <;> intro h <;> (try simp only [Bool.not_eq_true', Bool.not_eq_false'] at h) <;> replace hb0 := h) | ((first | (with_reducible refine isCall (f := 76) ?_; refine callA_nil (by kernel_rfl) ?_) | (with_reducible refine isCall0 (f := 76) ?_; refine callA0_nil (by kernel_rfl) ?_)); refine (rfzero_ok (fun w M3 c1 c2 c3 => Stop.mk ?_))) | (refine And.intro ?ob ?_; case ob => ((try simp only [sxO, ne_eq, maxLen] at *); omega)) | fail) <;> (try simp (config := { maxSteps := 1000000 }) only [hb0, rsaSt, hu2.one, hu2.len, hu2.sl, e1, ↓hold_pre, awayP, runOps, regK, step1, newK, genR, appR, obl, buildR, Value.cells, closeK, keepH, outV, retK, ret1, retC, RetV, Option.getD, runD, stepD, afterK, undef, simprocAttr, sxB, ↓sxD, sxE, sxTab]))
  have c1 : Mem.le M2 M3 := c1
  have hM := hM.trans c1
  have c3 := c3.le (‹Mem.le M M2›)
  refine Stop.go ?_
  (replace hb0 := true_and True); refine Go1.mk ?_; repeat' ((first | (with_reducible refine Go1.go ?_) | ((with_reducible first | refine brv_mk ?_ ?_ | refine gsplitD ?_ ?_ | refine gsplitG ?_ ?_) <;> intro h <;> (try simp only [Bool.not_eq_true', Bool.not_eq_false'] at h) <;> replace hb0 := h) | (refine And.intro ?ob ?_; case ob => ((try simp only [sxO, ne_eq, maxLen] at *); omega)) | fail) <;> (try simp (config := { maxSteps := 1000000 }) only [hb0, c2.one, ↓hold_pre, awayP, runOps, regK, step1, newK, genR, appR, obl, buildR, Value.cells, closeK, keepH, outV, retK, ret1, retC, RetV, Option.getD, runD, stepD, afterK, undef, simprocAttr, sxB, ↓sxD, sxE, sxTab]))
  clear hu2 hL2 e1
  refine ⟨fun m z => ∃ M' w1 w2 n d i, m = L.length - i ∧ i ≤ L.length ∧ Mem.le M M' ∧ IsL M' u32V w1 (ofN n) ∧ IsL M' u32V w2 (ofN d) ∧ FreshS M w1 ∧ FreshS M w2 ∧ (ofN n).length ≤ 128 ∧ (ofN d).length ≤ 128 ∧ sumG n d (L.drop i) = sumG 0 1 L ∧ z = rsbSt M' u w1 (.ext w2) [] i,
    ⟨L.length, rsbSt M3 u (.slice none 0 0) (.ext w) [] 0, le_sub ⟨rfl, rfl, rfl, rfl, trivial⟩ ⟨rfl, rfl, trivial⟩ rfl rfl rfl (keepLt0 _), ⟨M3, _, w, 0, 1, 0, by omega, by omega, hM, by rw [ofN_zero]; exact isL_nil _ _ _, c2, freshS_nil _ _, c3, zero_short, one_short, rfl, rfl⟩⟩, ?_⟩
  clear c1 c2 c3 hM
  rintro m z ⟨M2, w1, w2, n, d, i, rfl, hi, hM, hw1, hw2, fw1, fw2, hl1, hl2, hs, rfl⟩
  have hu2 := hu.le hM
  have hL2 := hL.le hM
  by_cases hlt : i < L.length
  case neg =>
    obtain rfl : i = L.length := by omega
    have e1 : decide ((L.length : Int) < (L.length : Int)) = false := by simp
    rw [List.drop_length] at hs
    rw [← hs] at hK
    (replace hb0 := true_and True); refine Go1.mk ?_; repeat' ((first | (with_reducible refine Go1.go ?_) | ((with_reducible first | refine brv_mk ?_ ?_ | refine gsplitD ?_ ?_ | refine gsplitG ?_ ?_) <;> intro h <;> (try simp only [Bool.not_eq_true', Bool.not_eq_false'] at h) <;> replace hb0 := h) | (refine And.intro ?ob ?_; case ob => ((try simp only [sxO, ne_eq, maxLen] at *); omega)) | fail) <;> (try simp (config := { maxSteps := 1000000 }) only [hb0, rsbSt, hu2.one, hu2.len, hu2.sl, hw1.one, hw2.one, e1, ↓hold_pre, awayP, runOps, regK, step1, newK, genR, appR, obl, buildR, Value.cells, closeK, keepH, outV, retK, ret1, retC, RetV, Option.getD, runD, stepD, afterK, undef, simprocAttr, sxB, ↓sxD, sxE, sxTab]))
    exact hK _ _ _ hM hw1 hw2 fw1 fw2
  have e1 : decide ((i : Int) < (L.length : Int)) = true := by rw [decide_eq_true_eq]; omega
  have b1 : (0 : Int) ≤ (i : Int) := by omega
  have b2 : (i : Int) < (L.length : Int) := by omega
  have hnn := hu2.nn hlt
  have hat := hu2.at (P := Tryd.prog) (T := 25) (fun _ => rfl) tk25 tz25 hlt
  have hF := hL2 _ (List.getElem_mem hlt)
  rw [drop_next hlt] at hs
  have wi : IntKind.i64.wrap ((i : Int) + 1) = ((i + 1 : Nat) : Int) := succ_i (by omega)
  generalize L[i] = x at *
  obtain ⟨x1, x2, y1, y2⟩ := x
  have hat : lookM Tryd.prog 25 M2 (elemP u 2 i) = some (.agg #[x1, x2]) := hat
  have hF : IsF M2 x1 x2 y1 y2 := hF
  simp only [sumG_cons] at hs
  (replace hb0 := true_and True); refine Go1.mk ?_; repeat' ((first | (with_reducible refine Go1.go ?_) | ((with_reducible first | refine brv_mk ?_ ?_ | refine gsplitD ?_ ?_ | refine gsplitG ?_ ?_) <;> intro h <;> (try simp only [Bool.not_eq_true', Bool.not_eq_false'] at h) <;> replace hb0 := h) | ((first | (with_reducible refine isCall (f := 23) ?_; refine callA_nil (by kernel_rfl) ?_) | (with_reducible refine isCall0 (f := 23) ?_; refine callA0_nil (by kernel_rfl) ?_)); refine (rfadd_ok ⟨hw1, hw2, okN_ofN _, okN_ofN _, by omega, by omega⟩ hF (fun v1 v2 M3 c1 c2 c3 c4 c5 => Stop.mk ?_))) | ((with_reducible refine isDraw [some 30, some 31, some 32, some 33, some 34, some 35, some 29, some 36, some 37, some 7, none, some 8] (by decide) ?_); refine draw_rule [(0, []), (1, [0]), (2, [0]), (3, [0]), (4, [0]), (9, [0, 4]), (5, []), (6, []), (7, []), (8, []), (10, []), (11, [])] [[], [], [], [1, 2], [1, 2, 3], [0, 1, 2, 3, 4], [0, 1, 2, 3, 4, 5], [0, 1, 2, 3, 4, 5, 6], [0, 1, 2, 3, 4, 5, 6], [], [0, 1, 2, 3, 4, 5, 6, 7, 9], [0, 1, 2, 3, 4, 5, 6, 7, 8, 9, 10]] [30, 31, 32, 33, 34, 35, 29, 36, 37, 7] [] (by kernel_rfl) (by kernel_rfl) (by kernel_rfl) (by kernel_rfl) (by exact trivial) ?_) | (refine And.intro ?ob ?_; case ob => ((try simp only [sxO, ne_eq, maxLen] at *); omega)) | fail) <;> (try simp (config := { maxSteps := 1000000 }) only [hb0, rsbSt, hu2.one, hu2.len, hu2.sl, hnn, hw1.one, hw2.one, e1, b1, b2, hat, hF.n.one, hF.d.one, ↓hold_pre, awayP, runOps, regK, step1, newK, genR, appR, obl, buildR, Value.cells, closeK, keepH, outV, retK, ret1, retC, RetV, Option.getD, runD, stepD, afterK, undef, simprocAttr, sxB, ↓sxD, sxE, sxTab]))
  have c1 : Mem.le M2 M3 := c1
  obtain ⟨q1, q2⟩ := addF_len' (ofN n) (ofN d) y1 y2
  refine Stop.go ?_
  by_cases h0 : (addF (ofN n) (ofN d) y1 y2).1 = 0
  · have e2 : decide ((addF (ofN n) (ofN d) y1 y2).1 = 0) = true := decide_eq_true h0
    rw [if_pos h0] at hs
    (replace hb0 := true_and True); refine Go1.mk ?_; repeat' ((first | (with_reducible refine Go1.go ?_) | ((with_reducible first | refine brv_mk ?_ ?_ | refine gsplitD ?_ ?_ | refine gsplitG ?_ ?_) <;> intro h <;> (try simp only [Bool.not_eq_true', Bool.not_eq_false'] at h) <;> replace hb0 := h) | (refine And.intro ?ob ?_; case ob => ((try simp only [sxO, ne_eq, maxLen] at *); omega)) | fail) <;> (try simp (config := { maxSteps := 1000000 }) only [hb0, c2.one, c3.one, e2, wi, ↓hold_pre, awayP, runOps, regK, step1, newK, genR, appR, obl, buildR, Value.cells, closeK, keepH, outV, retK, ret1, retC, RetV, Option.getD, runD, stepD, afterK, undef, simprocAttr, sxB, ↓sxD, sxE, sxTab]))
    exact ⟨L.length - (i + 1), rsbSt M3 u v1 (.ext v2) [] (i + 1), by omega, le_sub ⟨rfl, rfl, rfl, rfl, trivial⟩ ⟨rfl, rfl, trivial⟩ rfl rfl rfl (keepLt0 _), M3, v1, v2, _, _, i + 1, rfl, by omega, hM.trans c1, c2, c3, c4.le hM, c5.le hM, q1, q2, hs, rfl⟩
  · have e2 : decide ((addF (ofN n) (ofN d) y1 y2).1 = 0) = false := decide_eq_false h0
    rw [if_neg h0] at hs
    rw [← hs] at hK
    (replace hb0 := true_and True); refine Go1.mk ?_; repeat' ((first | (with_reducible refine Go1.go ?_) | ((with_reducible first | refine brv_mk ?_ ?_ | refine gsplitD ?_ ?_ | refine gsplitG ?_ ?_) <;> intro h <;> (try simp only [Bool.not_eq_true', Bool.not_eq_false'] at h) <;> replace hb0 := h) | (refine And.intro ?ob ?_; case ob => ((try simp only [sxO, ne_eq, maxLen] at *); omega)) | fail) <;> (try simp (config := { maxSteps := 1000000 }) only [hb0, c2.one, c3.one, e2, wi, ↓hold_pre, awayP, runOps, regK, step1, newK, genR, appR, obl, buildR, Value.cells, closeK, keepH, outV, retK, ret1, retC, RetV, Option.getD, runD, stepD, afterK, undef, simprocAttr, sxB, ↓sxD, sxE, sxTab]))
    exact hK.err _ (hM.trans c1)
theorem BorV.isR {M : Mem} {H : Hp} {k n : Nat} {L : List FR} {u : Value} {T : TypeId} (h : BorV M H (.slo k 0 n 2) u) (hk : lkH H k = some (T, frC L)) (hn : n = L.length) : IsR M 2 FR.c u L := by
  have hl := flat_len (z := 2) (f := FR.c) (fun _ => rfl) L
  have := h T (L.flatMap FR.c) hk (by omega)
  rw [List.drop_zero, List.take_of_length_le (by omega), hn] at this
  exact this
theorem fsum_bor (k n : Nat) (T : TypeId) (hn : n = L.length) (hL : okFL M L) (hb : L.length < 1000000) (hK : ∀ w1 w2 M', Mem.le M M' → IsL M' u32V w1 (ofN (sumF L).2.1) → IsL M' u32V w2 (ofN (sumF L).2.2) → K (.ext (.tuple #[.agg #[w1, w2], .int .i64 (sumF L).1])) [(k, T, frC L)] M') :
    CallS Tryd.prog 38 [.slo k 0 n 2] [(k, T, frC L)] M [] K := by
  refine CallS.bor ⟨⟨_, rfl⟩, trivial⟩ fun us M' hM hb' => ?_
  obtain ⟨v1, _, rfl, h1, rfl⟩ := hb'
  have g1 := h1.isR (L := L) (T := T) (by simp [lkH]) hn
  refine fsum_ok g1 (hL.le hM) hb fun w1 w2 M2 a1 a2 a3 a4 a5 => ?_
  exact ⟨fun j hj => rfl, fun M3 h5 h6 _ => hK w1 w2 M3 h5 (a2.move a4 h6) (a3.move a5 h6)⟩
theorem rfsum_bor (k n : Nat) (T : TypeId) (hn : n = L.length) (hL : okFL M L) (hb : L.length < 1000000) (hK : ∀ w1 w2 M', Mem.le M M' → IsL M' u32V w1 (ofN (sumF L).2.1) → IsL M' u32V w2 (ofN (sumF L).2.2) → K (.ext (.tuple #[.agg #[w1, w2], .int .i64 (sumF L).1])) [(k, T, frC L)] M') :
    CallS Tryd.prog 39 [.slo k 0 n 2] [(k, T, frC L)] M [] K := by
  refine CallS.bor ⟨⟨_, rfl⟩, trivial⟩ fun us M' hM hb' => ?_
  obtain ⟨v1, _, rfl, h1, rfl⟩ := hb'
  have g1 := h1.isR (L := L) (T := T) (by simp [lkH]) hn
  refine rfsum_ok g1 (hL.le hM) hb fun w1 w2 M2 a1 a2 a3 a4 a5 => ?_
  exact ⟨fun j hj => rfl, fun M3 h5 h6 _ => hK w1 w2 M3 h5 (a2.move a4 h6) (a3.move a5 h6)⟩
end
end Go.Proofs.YtamghpnjdohnjaaDoor.Sx
namespace Go.Proofs.YtamghpnjdohnjaaDoor.Sx
open Go Go.RowKit
set_option linter.unusedVariables false
set_option linter.unusedSimpArgs false
set_option maxRecDepth 100000
set_option maxHeartbeats 8000000
attribute [local congr] fin_congr finG_congr stepG_congr step1_congr runOps_congr brv_congr obl_congr condK_congr LoopK_congr seqK_congr CutK_congr vc_congr DrawK_congr regK_congr CallK_congr AskK_congr newK_congr retC_congr ret1_congr retK_congr outV_congr closeK_congr genR_congr appR_congr finD_congr finGD_congr stepGD_congr stepD_congr CallK0_congr runD_congr okR_congr CallS_congr vcX_congr
attribute [local congr] Stop_congr
theorem ofN_u32 {n : Nat} (h0 : 0 < n) (h : n < 4294967296) : ofN n = [n] := by
  rw [ofN_pos (by omega), Nat.div_eq_of_lt h, Nat.mod_eq_of_lt h, ofN_zero]
theorem FrzF.agg1 {K : AV → Hp → Mem → Prop} {H : Hp} {M' : Mem} {k n : Nat} {T : TypeId} (x : Value) (cs : List Value) (h1 : lkH H k = none) (h2 : cs.length = n) (h : ∀ u M'', Mem.le M' M'' → SlM M'' 1 u n cs → FreshS M' u → K (.ext (.agg #[x, u])) [] M'') : FrzF K H (.ag false [.ext x, .slo k 0 n 1]) [(k, T, cs.map .ext)] M' :=
  .inr ⟨some false, [.ext x], [], k, n, 1, T, cs, [], rfl, rfl, rfl, h1, by omega, rfl, h⟩
theorem FrzF.agg2 {K : AV → Hp → Mem → Prop} {H : Hp} {M' : Mem} {k j n m : Nat} {T T' : TypeId} (cs ds : List Value) (h1 : lkH H k = none) (h1' : lkH H j = none) (h2 : cs.length = n) (h2' : ds.length = m) (hkj : j ≠ k) (h : ∀ u u' M'', Mem.le M' M'' → SlM M'' 1 u n cs → SlM M'' 1 u' m ds → FreshS M' u → FreshS M' u' → K (.ext (.agg #[u, u'])) [] M'') :
    FrzF (FrzF K H) H (.ag false [.slo k 0 n 1, .slo j 0 m 1]) [(k, T, cs.map .ext), (j, T', ds.map .ext)] M' := by
  refine .inr ⟨some false, [], [.slo j 0 m 1], k, n, 1, T, cs, [(j, T', ds.map .ext)], rfl, rfl, ?_, h1, by omega, ?_, fun u M'' hM hs hf => ?_⟩
  · simp [lkH, hkj]
  · simp [mentL, AV.ment, mentH, mentL_ext, hasK, hkj]
  · refine .inr ⟨some false, [.ext u], [], j, m, 1, T', ds, [], rfl, rfl, rfl, h1', by omega, rfl, fun u' M3 hM3 hs3 hf3 => ?_⟩
    exact h u u' M3 (hM.trans hM3) (hs.le hM3) hs3 hf (hf3.le hM)
section
variable {M : Mem} {K : AV → Hp → Mem → Prop}
def smlSt (M : Mem) (num den : Nat) (a b : Nat) : St := { env := [(6, .ext (.int .i64 (b : Int))), (5, .ext (.int .i64 (a : Int))), (4, .own 4 0), (0, .ext (.int .i64 (num : Int))), (1, .ext (.int .i64 (den : Int)))], hp := [(4, 25, [.ext (.slice none 0 0), .ext (.slice none 0 0)])], M := M, kb := 0, fx := [] }
theorem sml_ok (num den : Nat) (hn : num ≤ 2147483648) (hd : 0 < den) (hd2 : den ≤ 2147483648)
    (hK : ∀ w1 w2 M', Mem.le M M' → IsL M' u32V w1 (ofN (num / Nat.gcd num den)) → IsL M' u32V w2 (ofN (den / Nat.gcd num den)) → FreshS M w1 → FreshS M w2 → K (.ext (.agg #[w1, w2])) [] M') : CallS Tryd.prog 71 [.ext (.int .i64 (num : Int)), .ext (.int .i64 (den : Int))] [] M [] K := by
  refine CallS.frzF (CallS.frzF ?_)
  refine inlS (cs := []) Tryd.mixed Tryd.func71 rfl (by kernel_rfl) 0 rfl rfl ?_
  simp only [Tryd.f71]
  (replace hb0 := true_and True); refine Go1.mk ?_; repeat' ((first | (with_reducible refine Go1.go ?_) | ((with_reducible first | refine brv_mk ?_ ?_ | refine gsplitD ?_ ?_ | refine gsplitG ?_ ?_) <;> intro h <;> (try simp only [Bool.not_eq_true', Bool.not_eq_false'] at h) <;> replace hb0 := h) | ((with_reducible refine isDraw [some 12, some 13, some 14, some 15, some 5, some 6] (by decide) ?_); refine draw_rule [(0, []), (1, []), (2, []), (3, []), (4, []), (5, [])] [[], [], [], [1, 2], [0, 1], [0, 1, 2, 3, 4]] [12, 13, 14, 15] [5] (by kernel_rfl) (by kernel_rfl) (by kernel_rfl) (by kernel_rfl) (by exact ⟨rfl, trivial⟩) ?_) | (refine And.intro ?ob ?_; case ob => ((try simp only [sxO, ne_eq, maxLen] at *); omega)) | fail) <;> (try simp (config := { maxSteps := 1000000 }) only [hb0, ↓hold_pre, awayP, runOps, regK, step1, newK, genR, appR, obl, buildR, Value.cells, closeK, keepH, outV, retK, ret1, retC, RetV, Option.getD, runD, stepD, afterK, undef, simprocAttr, sxB, ↓sxD, sxE, sxTab]))
  refine ⟨fun m z => ∃ a b, b = m ∧ Nat.gcd a b = Nat.gcd num den ∧ a ≤ 2147483648 ∧ b ≤ 2147483648 ∧ z = smlSt M num den a b, ⟨den, smlSt M num den num den, le_sub ⟨rfl, rfl, rfl, rfl, rfl, trivial⟩ ⟨rfl, trivial⟩ rfl rfl rfl (keepLt0 _), ⟨num, den, rfl, rfl, hn, hd2, rfl⟩⟩, ?_⟩
  rintro m z ⟨a, b, rfl, hg, ha, hb, rfl⟩
  by_cases hb0 : b = 0
  case neg =>
    have d1 : decide ((b : Int) = 0) = false := by rw [decide_eq_false_iff_not]; omega
    have w1 : (a : Int).tmod (b : Int) = ((a % b : Nat) : Int) := (Int.ofNat_tmod a b).symm
    have n1 : ((b : Int) = 0) = False := eq_false (fun h => by omega)
    have hlt := Nat.mod_lt a (show 0 < b by omega)
    (replace hb0 := true_and True); refine Go1.mk ?_; repeat' ((first | (with_reducible refine Go1.go ?_) | ((with_reducible first | refine brv_mk ?_ ?_ | refine gsplitD ?_ ?_ | refine gsplitG ?_ ?_) <;> intro h <;> (try simp only [Bool.not_eq_true', Bool.not_eq_false'] at h) <;> replace hb0 := h) | ((with_reducible refine isDraw [some 12, some 13, some 14, some 15, some 5, some 6] (by decide) ?_); refine draw_rule [(0, []), (1, []), (2, []), (3, []), (4, []), (5, [])] [[], [], [], [1, 2], [0, 1], [0, 1, 2, 3, 4]] [12, 13, 14, 15] [5] (by kernel_rfl) (by kernel_rfl) (by kernel_rfl) (by kernel_rfl) (by exact ⟨rfl, trivial⟩) ?_) | (refine And.intro ?ob ?_; case ob => ((try simp only [sxO, ne_eq, maxLen] at *); omega)) | fail) <;> (try simp (config := { maxSteps := 1000000 }) only [hb0, smlSt, d1, w1, n1, ↓hold_pre, awayP, runOps, regK, step1, newK, genR, appR, obl, buildR, Value.cells, closeK, keepH, outV, retK, ret1, retC, RetV, Option.getD, runD, stepD, afterK, undef, simprocAttr, sxB, ↓sxD, sxE, sxTab]))
    exact ⟨a % b, smlSt M num den b (a % b), by omega, le_sub ⟨rfl, rfl, rfl, rfl, rfl, trivial⟩ ⟨rfl, trivial⟩ rfl rfl rfl (keepLt0 _), b, a % b, rfl, by rw [← hg, Nat.gcd_comm b, ← Nat.gcd_rec, Nat.gcd_comm], hb, by omega, rfl⟩
  subst hb0
  rw [Nat.gcd_zero_right] at hg
  subst hg
  have hg0 : 0 < Nat.gcd num den := Nat.gcd_pos_of_pos_right _ hd
  have hq0 : 0 < den / Nat.gcd num den := Nat.div_pos (Nat.gcd_le_right num hd) hg0
  have hq1 : den / Nat.gcd num den ≤ 2147483648 := Nat.le_trans (Nat.div_le_self _ _) hd2
  have d1 : decide (((0 : Nat) : Int) = 0) = true := by decide
  have n1 : (((Nat.gcd num den : Nat) : Int) = 0) = False := eq_false (fun h => by omega)
  have w1 : IntKind.i64.wrap ((den : Int).tdiv ((Nat.gcd num den : Nat) : Int)) = ((den / Nat.gcd num den : Nat) : Int) := by rw [← Int.ofNat_tdiv]; exact wrap_id (by omega) (by omega)
  have w2 : IntKind.u32.wrap ((den / Nat.gcd num den : Nat) : Int) = ((den / Nat.gcd num den : Nat) : Int) := wrap32_id (by omega)
  by_cases h0 : num = 0
  · subst h0
    have d2 : decide ((0 : Int) < ((0 : Nat) : Int)) = false := by decide
    rw [Nat.zero_div, ofN_zero] at hK
    (replace hb0 := true_and True); refine Go1.mk ?_; repeat' ((first | (with_reducible refine Go1.go ?_) | ((with_reducible first | refine brv_mk ?_ ?_ | refine gsplitD ?_ ?_ | refine gsplitG ?_ ?_) <;> intro h <;> (try simp only [Bool.not_eq_true', Bool.not_eq_false'] at h) <;> replace hb0 := h) | ((with_reducible refine isDraw [some 12, some 13, some 14, some 15, some 5, some 6] (by decide) ?_); refine draw_rule [(0, []), (1, []), (2, []), (3, []), (4, []), (5, [])] [[], [], [], [1, 2], [0, 1], [0, 1, 2, 3, 4]] [12, 13, 14, 15] [5] (by kernel_rfl) (by kernel_rfl) (by kernel_rfl) (by kernel_rfl) (by exact ⟨rfl, trivial⟩) ?_) | (refine And.intro ?ob ?_; case ob => ((try simp only [sxO, ne_eq, maxLen] at *); omega)) | fail) <;> (try simp (config := { maxSteps := 1000000 }) only [hb0, smlSt, d1, d2, n1, w1, w2, ↓hold_pre, awayP, runOps, regK, step1, newK, genR, appR, obl, buildR, Value.cells, closeK, keepH, outV, retK, ret1, retC, RetV, Option.getD, runD, stepD, afterK, undef, simprocAttr, sxB, ↓sxD, sxE, sxTab]))
    exact .inl (FrzF.agg1 _ [u32V (den / Nat.gcd 0 den)] rfl rfl fun u M1 a1 a2 a3 => hK _ _ _ a1 (isL_nil _ _ _) (by rw [ofN_u32 hq0 (by omega)]; exact a2) (freshS_nil _ _) a3)
  · have hp0 : 0 < num / Nat.gcd num den := Nat.div_pos (Nat.gcd_le_left den (by omega)) hg0
    have hp1 : num / Nat.gcd num den ≤ 2147483648 := Nat.le_trans (Nat.div_le_self _ _) hn
    have d2 : decide ((0 : Int) < (num : Int)) = true := by rw [decide_eq_true_eq]; omega
    have w3 : IntKind.i64.wrap ((num : Int).tdiv ((Nat.gcd num den : Nat) : Int)) = ((num / Nat.gcd num den : Nat) : Int) := by rw [← Int.ofNat_tdiv]; exact wrap_id (by omega) (by omega)
    have w4 : IntKind.u32.wrap ((num / Nat.gcd num den : Nat) : Int) = ((num / Nat.gcd num den : Nat) : Int) := wrap32_id (by omega)
    (replace hb0 := true_and True); refine Go1.mk ?_; repeat' ((first | (with_reducible refine Go1.go ?_) | ((with_reducible first | refine brv_mk ?_ ?_ | refine gsplitD ?_ ?_ | refine gsplitG ?_ ?_) <;> intro h <;> (try simp only [Bool.not_eq_true', Bool.not_eq_false'] at h) <;> replace hb0 := h) | ((with_reducible refine isDraw [some 12, some 13, some 14, some 15, some 5, some 6] (by decide) ?_); refine draw_rule [(0, []), (1, []), (2, []), (3, []), (4, []), (5, [])] [[], [], [], [1, 2], [0, 1], [0, 1, 2, 3, 4]] [12, 13, 14, 15] [5] (by kernel_rfl) (by kernel_rfl) (by kernel_rfl) (by kernel_rfl) (by exact ⟨rfl, trivial⟩) ?_) | (refine And.intro ?ob ?_; case ob => ((try simp only [sxO, ne_eq, maxLen] at *); omega)) | fail) <;> (try simp (config := { maxSteps := 1000000 }) only [hb0, smlSt, d1, d2, n1, w1, w2, w3, w4, ↓hold_pre, awayP, runOps, regK, step1, newK, genR, appR, obl, buildR, Value.cells, closeK, keepH, outV, retK, ret1, retC, RetV, Option.getD, runD, stepD, afterK, undef, simprocAttr, sxB, ↓sxD, sxE, sxTab]))
    exact FrzF.agg2 [u32V (num / Nat.gcd num den)] [u32V (den / Nat.gcd num den)] rfl rfl rfl rfl (by decide) fun u u' M1 a1 a2 a3 a4 a5 => hK _ _ _ a1 (by rw [ofN_u32 hp0 (by omega)]; exact a2) (by rw [ofN_u32 hq0 (by omega)]; exact a3) a4 a5
end
end Go.Proofs.YtamghpnjdohnjaaDoor.Sx
namespace Go.Proofs.YtamghpnjdohnjaaDoor.Sx
open Go Go.RowKit
set_option linter.unusedVariables false
set_option linter.unusedSimpArgs false
set_option maxRecDepth 100000
set_option maxHeartbeats 8000000
attribute [local congr] fin_congr finG_congr stepG_congr step1_congr runOps_congr brv_congr obl_congr condK_congr LoopK_congr seqK_congr CutK_congr vc_congr DrawK_congr regK_congr CallK_congr AskK_congr newK_congr retC_congr ret1_congr retK_congr outV_congr closeK_congr genR_congr appR_congr finD_congr finGD_congr stepGD_congr stepD_congr CallK0_congr runD_congr okR_congr CallS_congr vcX_congr
attribute [local congr] Stop_congr
theorem small_len {n : Nat} (h : n ≤ 1000) : (ofN n).length < 1000000 := by
  have : (ofN n).length ≤ 1 := ofN_len_le (by rw [show wN 1 = 4294967296 from rfl]; omega)
  omega
section
variable {M : Mem} {K : AV → Hp → Mem → Prop}
theorem pick41_ok (u : Value) (l : List Int) (p : Nat) (L : List Int) (hL : L.length = 9) (hu : IsL M intV64 u l) (hp : p < 1000000) (hK : ∀ x ∈ L, K (.ext (.int .i64 x)) [(41, 42, [.ext u, .ext (.int .i64 ((p + 1 : Nat) : Int))]), (47, 3, cE intV64 L)] M) :
    CallS Tryd.prog 70 [.own 41 0, .slo 47 0 9 1] [(47, 3, cE intV64 L), (41, 42, [.ext u, .ext (.int .i64 ((p : Nat) : Int))])] M [] K := by
  refine inlS (cs := []) Tryd.mixed Tryd.func70 rfl (by kernel_rfl) 48 rfl rfl ?_
  simp only [Tryd.f70]
  (replace hb0 := true_and True); refine Go1.mk ?_; repeat' ((first | (with_reducible refine Go1.go ?_) | ((with_reducible first | refine brv_mk ?_ ?_ | refine gsplitD ?_ ?_ | refine gsplitG ?_ ?_) <;> intro h <;> (try simp only [Bool.not_eq_true', Bool.not_eq_false'] at h) <;> replace hb0 := h) | ((with_reducible refine isCall (f := 36) ?_); refine callA ?_) | ((with_reducible refine isCall0 (f := 36) ?_); refine callA0 ?_) | ((with_reducible refine isCallS (f := 36) ?_); refine (nextI_ok 41 u l p 9 hu (by omega) (by omega) (by omega) (fun x hx0 hx1 => Stop.mk ?_))) | (refine And.intro ?ob ?_; case ob => ((try simp only [sxO, ne_eq, maxLen] at *); omega)) | fail) <;> (try simp (config := { maxSteps := 1000000 }) only [hb0, cE_ment, cE_len, cE_kill, hasK_nil, Nat.mul_one, hu.one, ↓hold_pre, awayP, runOps, regK, step1, newK, genR, appR, obl, buildR, Value.cells, closeK, keepH, outV, retK, ret1, retC, RetV, Option.getD, runD, stepD, afterK, undef, simprocAttr, sxB, ↓sxD, sxE, sxTab]))
  obtain ⟨j, rfl⟩ := Int.eq_ofNat_of_zero_le hx0
  have hj : j < L.length := by omega
  have hat := cE_at intV64 hj
  have hm : L[j] ∈ L := List.getElem_mem hj
  have a1 : (0 : Int) ≤ (j : Int) := by omega
  have a2 : (j : Int) < 9 := by omega
  have a3 : (j : Int) < ((9 : Nat) : Int) := by omega
  generalize L[j] = y at *
  refine Stop.go ?_
  (replace hb0 := true_and True); refine Go1.mk ?_; repeat' ((first | (with_reducible refine Go1.go ?_) | ((with_reducible first | refine brv_mk ?_ ?_ | refine gsplitD ?_ ?_ | refine gsplitG ?_ ?_) <;> intro h <;> (try simp only [Bool.not_eq_true', Bool.not_eq_false'] at h) <;> replace hb0 := h) | (refine And.intro ?ob ?_; case ob => ((try simp only [sxO, ne_eq, maxLen] at *); omega)) | fail) <;> (try simp (config := { maxSteps := 1000000 }) only [hb0, cE_ment, cE_len, cE_kill, hasK_nil, Nat.mul_one, hu.one, hat, a1, a2, a3, intV64, ↓hold_pre, awayP, runOps, regK, step1, newK, genR, appR, obl, buildR, Value.cells, closeK, keepH, outV, retK, ret1, retC, RetV, Option.getD, runD, stepD, afterK, undef, simprocAttr, sxB, ↓sxD, sxE, sxTab]))
  exact hK _ hm
theorem chance41_ok (u : Value) (l : List Int) (p : Nat) (hu : IsL M intV64 u l) (hp : p < 100000) (hK : ∀ n d w1 w2 M', Mem.le M M' → IsL M' u32V w1 (ofN n) → IsL M' u32V w2 (ofN d) → 0 < d → n ≤ d → d ≤ 1000 → Nat.gcd n d = 1 → K (.ext (.agg #[w1, w2])) [(41, 42, [.ext u, .ext (.int .i64 ((p + 2 : Nat) : Int))])] M') :
    CallS Tryd.prog 30 [.own 41 0] [(41, 42, [.ext u, .ext (.int .i64 ((p : Nat) : Int))])] M [] K := by
  refine inlS (cs := []) Tryd.mixed Tryd.func30 rfl (by kernel_rfl) 42 rfl rfl ?_
  simp only [Tryd.f30]
  have hr : ∀ x ∈ ([1, 2, 3, 4, 10, 100, 1000, 997, 7] : List Int), 1 ≤ x ∧ x ≤ 1000 := by decide
  (replace hb0 := true_and True); refine Go1.mk ?_; repeat' ((first | (with_reducible refine Go1.go ?_) | ((with_reducible first | refine brv_mk ?_ ?_ | refine gsplitD ?_ ?_ | refine gsplitG ?_ ?_) <;> intro h <;> (try simp only [Bool.not_eq_true', Bool.not_eq_false'] at h) <;> replace hb0 := h) | ((with_reducible refine isCall (f := 70) ?_); refine callA ?_) | ((with_reducible refine isCall0 (f := 70) ?_); refine callA0 ?_) | ((with_reducible refine isCallS (f := 70) ?_); refine (pick41_ok u l p [1, 2, 3, 4, 10, 100, 1000, 997, 7] rfl hu (by omega) (fun x hx => Stop.mk ?_))) | (refine And.intro ?ob ?_; case ob => ((try simp only [sxO, ne_eq, maxLen] at *); omega)) | fail) <;> (try simp (config := { maxSteps := 1000000 }) only [hb0, hu.one, ↓hold_pre, awayP, runOps, regK, step1, newK, genR, appR, obl, buildR, Value.cells, closeK, keepH, outV, retK, ret1, retC, RetV, Option.getD, runD, stepD, afterK, undef, simprocAttr, sxB, ↓sxD, sxE, sxTab]))
  obtain ⟨x0, x1⟩ := hr x hx
  obtain ⟨y, rfl⟩ := Int.eq_ofNat_of_zero_le (show 0 ≤ x by omega)
  clear hx hr
  have w1 : IntKind.i64.wrap ((y : Int) + 1) = ((y + 1 : Nat) : Int) := succ_i (by omega)
  refine Stop.go ?_
  (replace hb0 := true_and True); refine Go1.mk ?_; repeat' ((first | (with_reducible refine Go1.go ?_) | ((with_reducible first | refine brv_mk ?_ ?_ | refine gsplitD ?_ ?_ | refine gsplitG ?_ ?_) <;> intro h <;> (try simp only [Bool.not_eq_true', Bool.not_eq_false'] at h) <;> replace hb0 := h) | ((with_reducible refine isCall (f := 36) ?_); refine callA ?_) | ((with_reducible refine isCall0 (f := 36) ?_); refine callA0 ?_) | ((with_reducible refine isCallS (f := 36) ?_); refine (nextI_ok 41 u l (p + 1) ((y + 1 : Nat) : Int) hu (by omega) (by omega) (by omega) (fun z hz0 hz1 => Stop.mk ?_))) | (refine And.intro ?ob ?_; case ob => ((try simp only [sxO, ne_eq, maxLen] at *); omega)) | fail) <;> (try simp (config := { maxSteps := 1000000 }) only [hb0, cE_ment, cE_kill, hasK_nil, hu.one, w1, ↓hold_pre, awayP, runOps, regK, step1, newK, genR, appR, obl, buildR, Value.cells, closeK, keepH, outV, retK, ret1, retC, RetV, Option.getD, runD, stepD, afterK, undef, simprocAttr, sxB, ↓sxD, sxE, sxTab]))
  obtain ⟨n, rfl⟩ := Int.eq_ofNat_of_zero_le hz0
  refine Stop.go ?_
  (replace hb0 := true_and True); refine Go1.mk ?_; repeat' ((first | (with_reducible refine Go1.go ?_) | ((with_reducible first | refine brv_mk ?_ ?_ | refine gsplitD ?_ ?_ | refine gsplitG ?_ ?_) <;> intro h <;> (try simp only [Bool.not_eq_true', Bool.not_eq_false'] at h) <;> replace hb0 := h) | ((first | (with_reducible refine isCall (f := 71) ?_; refine callA_nil (by kernel_rfl) ?_) | (with_reducible refine isCall0 (f := 71) ?_; refine callA0_nil (by kernel_rfl) ?_)); refine (sml_ok n y (by omega) (by omega) (by omega) (fun v1 v2 M1 a1 a2 a3 _ _ => Stop.mk ?_))) | (refine And.intro ?ob ?_; case ob => ((try simp only [sxO, ne_eq, maxLen] at *); omega)) | fail) <;> (try simp (config := { maxSteps := 1000000 }) only [hb0, cE_ment, cE_kill, hasK_nil, hu.one, ↓hold_pre, awayP, runOps, regK, step1, newK, genR, appR, obl, buildR, Value.cells, closeK, keepH, outV, retK, ret1, retC, RetV, Option.getD, runD, stepD, afterK, undef, simprocAttr, sxB, ↓sxD, sxE, sxTab]))
  have a1 : Mem.le M M1 := a1
  have hg0 : 0 < Nat.gcd n y := Nat.gcd_pos_of_pos_right _ (by omega)
  refine Stop.go ?_
  (replace hb0 := true_and True); refine Go1.mk ?_; repeat' ((first | (with_reducible refine Go1.go ?_) | ((with_reducible first | refine brv_mk ?_ ?_ | refine gsplitD ?_ ?_ | refine gsplitG ?_ ?_) <;> intro h <;> (try simp only [Bool.not_eq_true', Bool.not_eq_false'] at h) <;> replace hb0 := h) | (refine And.intro ?ob ?_; case ob => ((try simp only [sxO, ne_eq, maxLen] at *); omega)) | fail) <;> (try simp (config := { maxSteps := 1000000 }) only [hb0, cE_ment, cE_kill, hasK_nil, hu.one, a2.one, a3.one, ↓hold_pre, awayP, runOps, regK, step1, newK, genR, appR, obl, buildR, Value.cells, closeK, keepH, outV, retK, ret1, retC, RetV, Option.getD, runD, stepD, afterK, undef, simprocAttr, sxB, ↓sxD, sxE, sxTab]))
  exact hK _ _ _ _ _ a1 a2 a3 (Nat.div_pos (Nat.gcd_le_right n (by omega)) hg0) (Nat.div_le_div_right (by omega)) (Nat.le_trans (Nat.div_le_self _ _) (by omega)) (Nat.gcd_div_gcd_div_gcd_of_pos_right (by omega))
def pwH (t : Value) (p : Nat) (L : List FR) (a1 a2 x1 x2 y1 y2 : Value) : Hp := [(52, 25, frC L), (41, 42, [.ext t, .ext (.int .i64 (p : Int))]), (12, 25, [.ext y1, .ext y2]), (10, 25, [.ext x1, .ext x2]), (9, 25, [.ext a1, .ext a2])]
def plSt2 (M : Mem) (t : Value) (p : Nat) (L : List FR) (n : Nat) (a1 a2 x1 x2 y1 y2 : Value) (i : Nat) : St := { env := [(16, .ext (.int .i64 (i : Int))), (15, .slo 52 0 n 2), (14, .own 41 0), (12, .own 12 0), (10, .own 10 0), (9, .own 9 0)], hp := pwH t p L a1 a2 x1 x2 y1 y2, M := M, kb := 0, fx := [] }
def pcSt2 (M : Mem) (t : Value) (p : Nat) (L : List FR) (n : Nat) (a1 a2 x1 x2 y1 y2 : Value) : St := { env := [(15, .slo 52 0 n 2), (14, .own 41 0), (12, .own 12 0), (10, .own 10 0), (9, .own 9 0)], hp := pwH t p L a1 a2 x1 x2 y1 y2, M := M, kb := 0, fx := [] }
theorem frac_powers_ok (u v t : Value) (i1 i2 l : List Int) (z : Int) (hu : IsL M (intVk .u32) u i1) (hv : IsL M (intVk .u32) v i2) (ht : IsL M intV64 t l) (o1 : ∀ x ∈ i1, (Lit.int .u32 x).wf = true) (o2 : ∀ x ∈ i2, (Lit.int .u32 x).wf = true)
    (hK : ∀ M', Mem.le M M' → K (.ext (.bool true)) [] M') : CallS Tryd.prog 7 [.ext u, .ext v, .ext (.int .i64 z), .ext t] [] M [] K := by
  obtain ⟨hu, o1⟩ := nats_of hu o1
  obtain ⟨hv, o2⟩ := nats_of hv o2
  have htM0 := ht
  generalize i1.map Int.toNat = i1 at *
  generalize i2.map Int.toNat = i2 at *
  refine inlS (cs := [14]) Tryd.mixed Tryd.func7 rfl (by kernel_rfl) 0 rfl rfl ?_
  simp only [Tryd.f7]
  (replace hb0 := true_and True); refine Go1.mk ?_; repeat' ((first | (with_reducible refine Go1.go ?_) | ((with_reducible first | refine brv_mk ?_ ?_ | refine gsplitD ?_ ?_ | refine gsplitG ?_ ?_) <;> intro h <;> (try simp only [Bool.not_eq_true', Bool.not_eq_false'] at h) <;> replace hb0 := h) | ((first | (with_reducible refine isCall (f := 19) ?_; refine callA_nil (by kernel_rfl) ?_) | (with_reducible refine isCall0 (f := 19) ?_; refine callA0_nil (by kernel_rfl) ?_)); refine (frac_ok u v i1 i2 z hu hv o1 o2 (fun a1 a2 M1 la ld m1 ha b1 b2 _ => Stop.mk ?_))) | (refine And.intro ?ob ?_; case ob => ((try simp only [sxO, ne_eq, maxLen] at *); omega)) | fail) <;> (try simp (config := { maxSteps := 1000000 }) only [hb0, hu.one, hv.one, ht.one, ↓hold_pre, awayP, runOps, regK, step1, newK, genR, appR, obl, buildR, Value.cells, closeK, keepH, outV, retK, ret1, retC, RetV, Option.getD, runD, stepD, afterK, undef, simprocAttr, sxB, ↓sxD, sxE, sxTab]))
  have m1 : Mem.le M M1 := m1
  have hu := hu.le m1
  have hv := hv.le m1
  have ht := ht.le m1
  have hm := m1
  refine Stop.go ?_
  obtain ⟨q1, q2⟩ := powF_len la ld z
  (replace hb0 := true_and True); refine Go1.mk ?_; repeat' ((first | (with_reducible refine Go1.go ?_) | ((with_reducible first | refine brv_mk ?_ ?_ | refine gsplitD ?_ ?_ | refine gsplitG ?_ ?_) <;> intro h <;> (try simp only [Bool.not_eq_true', Bool.not_eq_false'] at h) <;> replace hb0 := h) | ((first | (with_reducible refine isCall (f := 34) ?_; refine callA_nil (by kernel_rfl) ?_) | (with_reducible refine isCall0 (f := 34) ?_; refine callA0_nil (by kernel_rfl) ?_)); refine (fpow_ok z ha (fun w3 w4 M2 m2 h3 h4 f3 f4 => Stop.mk ?_))) | (refine And.intro ?ob ?_; case ob => ((try simp only [sxO, ne_eq, maxLen] at *); omega)) | fail) <;> (try simp (config := { maxSteps := 1000000 }) only [hb0, ht.one, ha.n.one, ha.d.one, ↓hold_pre, awayP, runOps, regK, step1, newK, genR, appR, obl, buildR, Value.cells, closeK, keepH, outV, retK, ret1, retC, RetV, Option.getD, runD, stepD, afterK, undef, simprocAttr, sxB, ↓sxD, sxE, sxTab]))
  have m2 : Mem.le M1 M2 := m2
  have ht := ht.le m2
  have ha := ha.le m2
  have f3 := f3.le hm
  have f4 := f4.le hm
  have hm := hm.trans m2
  refine Stop.go ?_
  (replace hb0 := true_and True); refine Go1.mk ?_; repeat' ((first | (with_reducible refine Go1.go ?_) | ((with_reducible first | refine brv_mk ?_ ?_ | refine gsplitD ?_ ?_ | refine gsplitG ?_ ?_) <;> intro h <;> (try simp only [Bool.not_eq_true', Bool.not_eq_false'] at h) <;> replace hb0 := h) | ((first | (with_reducible refine isCall (f := 35) ?_; refine callA_nil (by kernel_rfl) ?_) | (with_reducible refine isCall0 (f := 35) ?_; refine callA0_nil (by kernel_rfl) ?_)); refine (rfpow_ok z ha (fun w5 w6 M3 m3 h5 h6 f5 f6 => Stop.mk ?_))) | (refine And.intro ?ob ?_; case ob => ((try simp only [sxO, ne_eq, maxLen] at *); omega)) | fail) <;> (try simp (config := { maxSteps := 1000000 }) only [hb0, ht.one, h3.one, h4.one, ha.n.one, ha.d.one, ↓hold_pre, awayP, runOps, regK, step1, newK, genR, appR, obl, buildR, Value.cells, closeK, keepH, outV, retK, ret1, retC, RetV, Option.getD, runD, stepD, afterK, undef, simprocAttr, sxB, ↓sxD, sxE, sxTab]))
  have m3 : Mem.le M2 M3 := m3
  have ht := ht.le m3
  have h3 := h3.le m3
  have h4 := h4.le m3
  have ha := ha.le m3
  have f5 := f5.le hm
  have f6 := f6.le hm
  have hm := hm.trans m3
  refine Stop.go ?_
  (replace hb0 := true_and True); refine Go1.mk ?_; repeat' ((first | (with_reducible refine Go1.go ?_) | ((with_reducible first | refine brv_mk ?_ ?_ | refine gsplitD ?_ ?_ | refine gsplitG ?_ ?_) <;> intro h <;> (try simp only [Bool.not_eq_true', Bool.not_eq_false'] at h) <;> replace hb0 := h) | ((first | (with_reducible refine isCall (f := 15) ?_; refine callA_nil (by kernel_rfl) ?_) | (with_reducible refine isCall0 (f := 15) ?_; refine callA0_nil (by kernel_rfl) ?_)); refine (same02_ok _ h3 h4 h5 h6 (by omega) (by omega) ?_)) | ((with_reducible refine isCall (f := 36) ?_); refine callA ?_) | ((with_reducible refine isCall0 (f := 36) ?_); refine callA0 ?_) | ((with_reducible refine isCallS (f := 36) ?_); refine (nextI_ok 41 t l 0 9 ht (by omega) (by omega) (by omega) (fun x hx0 hx1 => Stop.mk ?_))) | (refine And.intro ?ob ?_; case ob => ((try simp only [sxO, ne_eq, maxLen] at *); omega)) | fail) <;> (try simp (config := { maxSteps := 1000000 }) only [hb0, ht.one, h3.one, h4.one, h5.one, h6.one, ha.n.one, ha.d.one, ↓hold_pre, awayP, runOps, regK, step1, newK, genR, appR, obl, buildR, Value.cells, closeK, keepH, outV, retK, ret1, retC, RetV, Option.getD, runD, stepD, afterK, undef, simprocAttr, sxB, ↓sxD, sxE, sxTab]))
  obtain ⟨j, rfl⟩ := Int.eq_ofNat_of_zero_le hx0
  clear q1 q2 hu hv
  refine Stop.go ?_
  (replace hb0 := true_and True); refine Go1.mk ?_; repeat' ((first | (with_reducible refine Go1.go ?_) | ((with_reducible first | refine brv_mk ?_ ?_ | refine gsplitD ?_ ?_ | refine gsplitG ?_ ?_) <;> intro h <;> (try simp only [Bool.not_eq_true', Bool.not_eq_false'] at h) <;> replace hb0 := h) | (refine And.intro ?ob ?_; case ob => ((try simp only [sxO, ne_eq, maxLen] at *); omega)) | fail) <;> (try simp (config := { maxSteps := 1000000 }) only [hb0, ht.one, h3.one, h4.one, h5.one, h6.one, ha.n.one, ha.d.one, ↓hold_pre, awayP, runOps, regK, step1, newK, genR, appR, obl, buildR, Value.cells, closeK, keepH, outV, retK, ret1, retC, RetV, Option.getD, runD, stepD, afterK, undef, simprocAttr, sxB, ↓sxD, sxE, sxTab]))
  refine ⟨fun d z => ∃ M' i L p, d = i ∧ L.length + i ≤ 9 ∧ p ≤ 100 - 10 * i ∧ Mem.le M M' ∧ IsF M' a1 a2 la ld ∧ okFL M' L ∧ z = plSt2 M' t p L L.length a1 a2 w3 w4 w5 w6 i,
    ⟨j, plSt2 M3 t 1 [] 0 a1 a2 w3 w4 w5 w6 j, (le_nil 15 52 25 2 rfl (.inl rfl)).trans (le_sub ⟨rfl, rfl, rfl, rfl, rfl, rfl, trivial⟩ ⟨rfl, rfl, rfl, rfl, rfl, trivial⟩ rfl rfl rfl (keepLt0 _)), ⟨M3, j, [], 1, rfl, by simp; omega, by omega, hm, ha, by simp [okFL], rfl⟩⟩, ?_⟩
  have htM := htM0
  clear ha h3 h4 h5 h6 f3 f4 f5 f6 hx0 hx1
  rintro d s ⟨N1, i, L, p, rfl, hLi, hp, hN1, ha, hL, rfl⟩
  have ht := htM.le hN1
  have hone := frC_one hL
  by_cases hi : 0 < d
  · have e1 : decide ((0 : Int) < (d : Int)) = true := by rw [decide_eq_true_eq]; omega
    have wi : IntKind.i64.wrap ((d : Int) - 1) = ((d - 1 : Nat) : Int) := pred_i hi (by omega)
    (replace hb0 := true_and True); refine Go1.mk ?_; repeat' ((first | (with_reducible refine Go1.go ?_) | ((with_reducible first | refine brv_mk ?_ ?_ | refine gsplitD ?_ ?_ | refine gsplitG ?_ ?_) <;> intro h <;> (try simp only [Bool.not_eq_true', Bool.not_eq_false'] at h) <;> replace hb0 := h) | ((with_reducible refine isCall (f := 30) ?_); refine callA ?_) | ((with_reducible refine isCall0 (f := 30) ?_); refine callA0 ?_) | ((with_reducible refine isCallS (f := 30) ?_); refine (chance41_ok t l p ht (by omega) (fun n1 d1 v1 v2 N2 c1 c2 c3 c4 c5 c6 c7 => Stop.mk ?_))) | (refine And.intro ?ob ?_; case ob => ((try simp only [sxO, ne_eq, maxLen] at *); omega)) | fail) <;> (try simp (config := { maxSteps := 1000000 }) only [hb0, plSt2, pcSt2, pwH, frC_len, frC_ment, frC_kill, hasK_nil, maxLen, ha.n.one, ha.d.one, e1, ↓hold_pre, awayP, runOps, regK, step1, newK, genR, appR, obl, buildR, Value.cells, closeK, keepH, outV, retK, ret1, retC, RetV, Option.getD, runD, stepD, afterK, undef, simprocAttr, sxB, ↓sxD, sxE, sxTab]))
    have c1 : Mem.le N1 N2 := c1
    have hfr : IsF N2 v1 v2 (ofN n1) (ofN d1) := ⟨c2, c3, okN_ofN _, okN_ofN _, small_len (by omega), small_len (by omega)⟩
    have s1 := frC_app L ⟨v1, v2, ofN n1, ofN d1⟩
    have ha := ha.le c1
    refine Stop.go ?_
    (replace hb0 := true_and True); refine Go1.mk ?_; repeat' ((first | (with_reducible refine Go1.go ?_) | ((with_reducible first | refine brv_mk ?_ ?_ | refine gsplitD ?_ ?_ | refine gsplitG ?_ ?_) <;> intro h <;> (try simp only [Bool.not_eq_true', Bool.not_eq_false'] at h) <;> replace hb0 := h) | (refine And.intro ?ob ?_; case ob => ((try simp only [sxO, ne_eq, maxLen] at *); omega)) | fail) <;> (try simp (config := { maxSteps := 1000000 }) only [hb0, plSt2, pcSt2, pwH, frC_len, frC_ment, frC_kill, hasK_nil, maxLen, ha.n.one, ha.d.one, hone, c2.one, c3.one, s1, wi, ↓hold_pre, awayP, runOps, regK, step1, newK, genR, appR, obl, buildR, Value.cells, closeK, keepH, outV, retK, ret1, retC, RetV, Option.getD, runD, stepD, afterK, undef, simprocAttr, sxB, ↓sxD, sxE, sxTab]))
    exact ⟨d - 1, plSt2 N2 t (p + 2) (L ++ [⟨v1, v2, ofN n1, ofN d1⟩]) (L.length + 1) a1 a2 w3 w4 w5 w6 (d - 1), by omega, le_sub ⟨rfl, rfl, rfl, rfl, rfl, rfl, trivial⟩ ⟨rfl, rfl, rfl, rfl, rfl, trivial⟩ rfl rfl rfl (keepLt0 _), N2, d - 1, L ++ [⟨v1, v2, ofN n1, ofN d1⟩], p + 2, rfl, by simp; omega, by omega, hN1.trans c1, ha, fun y hy => by
      rcases List.mem_append.1 hy with h | h
      · exact (hL y h).le c1
      · rw [List.mem_singleton.1 h]; exact hfr, by rw [List.length_append]; rfl⟩
  obtain rfl : d = 0 := by omega
  have e1 : decide ((0 : Int) < ((0 : Nat) : Int)) = false := by decide
  (replace hb0 := true_and True); refine Go1.mk ?_; repeat' ((first | (with_reducible refine Go1.go ?_) | ((with_reducible first | refine brv_mk ?_ ?_ | refine gsplitD ?_ ?_ | refine gsplitG ?_ ?_) <;> intro h <;> (try simp only [Bool.not_eq_true', Bool.not_eq_false'] at h) <;> replace hb0 := h) | (refine And.intro ?ob ?_; case ob => ((try simp only [sxO, ne_eq, maxLen] at *); omega)) | fail) <;> (try simp (config := { maxSteps := 1000000 }) only [hb0, plSt2, pcSt2, pwH, frC_len, frC_ment, frC_kill, hasK_nil, maxLen, ha.n.one, ha.d.one, e1, ↓hold_pre, awayP, runOps, regK, step1, newK, genR, appR, obl, buildR, Value.cells, closeK, keepH, outV, retK, ret1, retC, RetV, Option.getD, runD, stepD, afterK, undef, simprocAttr, sxB, ↓sxD, sxE, sxTab]))
  refine ⟨fun z => ∃ M' L p, L.length ≤ 11 ∧ Mem.le M M' ∧ okFL M' L ∧ z = pcSt2 M' t p L L.length a1 a2 w3 w4 w5 w6, ?_, ?_⟩
  · (replace hb0 := true_and True); refine Go1.mk ?_; repeat' ((first | (with_reducible refine Go1.go ?_) | ((with_reducible first | refine brv_mk ?_ ?_ | refine gsplitD ?_ ?_ | refine gsplitG ?_ ?_) <;> intro h <;> (try simp only [Bool.not_eq_true', Bool.not_eq_false'] at h) <;> replace hb0 := h) | ((with_reducible refine isCall (f := 37) ?_); refine callA ?_) | ((with_reducible refine isCall0 (f := 37) ?_); refine callA0 ?_) | ((with_reducible refine isCallS (f := 37) ?_); refine (chance_ok 41 t l p 1 8 ht (by omega) (by omega) (by omega) (fun b => Stop.mk ?_))) | (refine And.intro ?ob ?_; case ob => ((try simp only [sxO, ne_eq, maxLen] at *); omega)) | fail) <;> (try simp (config := { maxSteps := 1000000 }) only [hb0, plSt2, pcSt2, pwH, frC_len, frC_ment, frC_kill, hasK_nil, maxLen, ha.n.one, ha.d.one, ↓hold_pre, awayP, runOps, regK, step1, newK, genR, appR, obl, buildR, Value.cells, closeK, keepH, outV, retK, ret1, retC, RetV, Option.getD, runD, stepD, afterK, undef, simprocAttr, sxB, ↓sxD, sxE, sxTab]))
    refine Stop.go ?_
    cases b with
    | false =>
      (replace hb0 := true_and True); refine Go1.mk ?_; repeat' ((first | (with_reducible refine Go1.go ?_) | ((with_reducible first | refine brv_mk ?_ ?_ | refine gsplitD ?_ ?_ | refine gsplitG ?_ ?_) <;> intro h <;> (try simp only [Bool.not_eq_true', Bool.not_eq_false'] at h) <;> replace hb0 := h) | (refine And.intro ?ob ?_; case ob => ((try simp only [sxO, ne_eq, maxLen] at *); omega)) | fail) <;> (try simp (config := { maxSteps := 1000000 }) only [hb0, plSt2, pcSt2, pwH, frC_len, frC_ment, frC_kill, hasK_nil, maxLen, ha.n.one, ha.d.one, ↓hold_pre, awayP, runOps, regK, step1, newK, genR, appR, obl, buildR, Value.cells, closeK, keepH, outV, retK, ret1, retC, RetV, Option.getD, runD, stepD, afterK, undef, simprocAttr, sxB, ↓sxD, sxE, sxTab]))
      exact ⟨pcSt2 N1 t (p + 1) L L.length a1 a2 w3 w4 w5 w6, le_sub ⟨rfl, rfl, rfl, rfl, rfl, trivial⟩ ⟨rfl, rfl, rfl, rfl, rfl, trivial⟩ rfl rfl rfl (keepLt0 _), N1, L, p + 1, by omega, hN1, hL, rfl⟩
    | true =>
      have s1 := frC_app2 L ⟨.slice none 0 0, .slice none 0 0, [], []⟩ ⟨a1, a2, la, ld⟩
      have hz : IsF N1 (.slice none 0 0) (.slice none 0 0) [] [] := ⟨isL_nil _ _ _, isL_nil _ _ _, by simp [okN], by simp [okN], by simp, by simp⟩
      (replace hb0 := true_and True); refine Go1.mk ?_; repeat' ((first | (with_reducible refine Go1.go ?_) | ((with_reducible first | refine brv_mk ?_ ?_ | refine gsplitD ?_ ?_ | refine gsplitG ?_ ?_) <;> intro h <;> (try simp only [Bool.not_eq_true', Bool.not_eq_false'] at h) <;> replace hb0 := h) | (refine And.intro ?ob ?_; case ob => ((try simp only [sxO, ne_eq, maxLen] at *); omega)) | fail) <;> (try simp (config := { maxSteps := 1000000 }) only [hb0, plSt2, pcSt2, pwH, frC_len, frC_ment, frC_kill, hasK_nil, maxLen, ha.n.one, ha.d.one, hone, s1, ↓hold_pre, awayP, runOps, regK, step1, newK, genR, appR, obl, buildR, Value.cells, closeK, keepH, outV, retK, ret1, retC, RetV, Option.getD, runD, stepD, afterK, undef, simprocAttr, sxB, ↓sxD, sxE, sxTab]))
      exact ⟨pcSt2 N1 t (p + 1) (L ++ [⟨.slice none 0 0, .slice none 0 0, [], []⟩, ⟨a1, a2, la, ld⟩]) (L.length + 2) a1 a2 w3 w4 w5 w6, le_sub ⟨rfl, rfl, rfl, rfl, rfl, trivial⟩ ⟨rfl, rfl, rfl, rfl, rfl, trivial⟩ rfl rfl rfl (keepLt0 _), N1, L ++ [⟨.slice none 0 0, .slice none 0 0, [], []⟩, ⟨a1, a2, la, ld⟩], p + 1, by simp; omega, hN1, fun y hy => by
        rcases List.mem_append.1 hy with h | h
        · exact hL y h
        · rcases List.mem_cons.1 h with h | h
          · rw [h]; exact hz
          · rw [List.mem_singleton.1 h]; exact ha, by rw [List.length_append]; rfl⟩
  clear hL hone ha ht hN1 hLi hp e1
  rintro s ⟨N1, L, p, hLl, hN1, hL, rfl⟩
  obtain ⟨q1, q2⟩ := sumF_len L
  (replace hb0 := true_and True); refine Go1.mk ?_; repeat' ((first | (with_reducible refine Go1.go ?_) | ((with_reducible first | refine brv_mk ?_ ?_ | refine gsplitD ?_ ?_ | refine gsplitG ?_ ?_) <;> intro h <;> (try simp only [Bool.not_eq_true', Bool.not_eq_false'] at h) <;> replace hb0 := h) | ((with_reducible refine isCall (f := 38) ?_); refine callA ?_) | ((with_reducible refine isCall0 (f := 38) ?_); refine callA0 ?_) | ((with_reducible refine isCallS (f := 38) ?_); refine (fsum_bor 52 L.length _ rfl hL (by omega) (fun v1 v2 N2 c1 c2 c3 => Stop.mk ?_))) | (refine And.intro ?ob ?_; case ob => ((try simp only [sxO, ne_eq, maxLen] at *); omega)) | fail) <;> (try simp (config := { maxSteps := 1000000 }) only [hb0, plSt2, pcSt2, pwH, frC_len, frC_ment, frC_kill, hasK_nil, maxLen, ↓hold_pre, awayP, runOps, regK, step1, newK, genR, appR, obl, buildR, Value.cells, closeK, keepH, outV, retK, ret1, retC, RetV, Option.getD, runD, stepD, afterK, undef, simprocAttr, sxB, ↓sxD, sxE, sxTab]))
  have c1 : Mem.le N1 N2 := c1
  have hL := hL.le c1
  refine Stop.go ?_
  (replace hb0 := true_and True); refine Go1.mk ?_; repeat' ((first | (with_reducible refine Go1.go ?_) | ((with_reducible first | refine brv_mk ?_ ?_ | refine gsplitD ?_ ?_ | refine gsplitG ?_ ?_) <;> intro h <;> (try simp only [Bool.not_eq_true', Bool.not_eq_false'] at h) <;> replace hb0 := h) | ((with_reducible refine isCall (f := 39) ?_); refine callA ?_) | ((with_reducible refine isCall0 (f := 39) ?_); refine callA0 ?_) | ((with_reducible refine isCallS (f := 39) ?_); refine (rfsum_bor 52 L.length _ rfl hL (by omega) (fun v3 v4 N3 d1 d2 d3 => Stop.mk ?_))) | (refine And.intro ?ob ?_; case ob => ((try simp only [sxO, ne_eq, maxLen] at *); omega)) | fail) <;> (try simp (config := { maxSteps := 1000000 }) only [hb0, plSt2, pcSt2, pwH, frC_len, frC_ment, frC_kill, hasK_nil, maxLen, c2.one, c3.one, ↓hold_pre, awayP, runOps, regK, step1, newK, genR, appR, obl, buildR, Value.cells, closeK, keepH, outV, retK, ret1, retC, RetV, Option.getD, runD, stepD, afterK, undef, simprocAttr, sxB, ↓sxD, sxE, sxTab]))
  have d1 : Mem.le N2 N3 := d1
  have c2 := c2.le d1
  have c3 := c3.le d1
  refine Stop.go ?_
  (replace hb0 := true_and True); refine Go1.mk ?_; repeat' ((first | (with_reducible refine Go1.go ?_) | ((with_reducible first | refine brv_mk ?_ ?_ | refine gsplitD ?_ ?_ | refine gsplitG ?_ ?_) <;> intro h <;> (try simp only [Bool.not_eq_true', Bool.not_eq_false'] at h) <;> replace hb0 := h) | ((first | (with_reducible refine isCall (f := 15) ?_; refine callA_nil (by kernel_rfl) ?_) | (with_reducible refine isCall0 (f := 15) ?_; refine callA0_nil (by kernel_rfl) ?_)); refine (same02_ok _ c2 c3 d2 d3 (by omega) (by omega) ?_)) | ((first | (with_reducible refine isCall (f := 18) ?_; refine callA_nil (by kernel_rfl) ?_) | (with_reducible refine isCall0 (f := 18) ?_; refine callA0_nil (by kernel_rfl) ?_)); refine (awake02_ok (fun N4 e1 => Stop.mk ?_))) | (refine And.intro ?ob ?_; case ob => ((try simp only [sxO, ne_eq, maxLen] at *); omega)) | fail) <;> (try simp (config := { maxSteps := 1000000 }) only [hb0, plSt2, pcSt2, pwH, frC_len, frC_ment, frC_kill, hasK_nil, maxLen, c2.one, c3.one, d2.one, d3.one, ↓hold_pre, awayP, runOps, regK, step1, newK, genR, appR, obl, buildR, Value.cells, closeK, keepH, outV, retK, ret1, retC, RetV, Option.getD, runD, stepD, afterK, undef, simprocAttr, sxB, ↓sxD, sxE, sxTab]))
  have e1 : Mem.le N3 N4 := e1
  refine Stop.go ?_
  (replace hb0 := true_and True); refine Go1.mk ?_; repeat' ((first | (with_reducible refine Go1.go ?_) | ((with_reducible first | refine brv_mk ?_ ?_ | refine gsplitD ?_ ?_ | refine gsplitG ?_ ?_) <;> intro h <;> (try simp only [Bool.not_eq_true', Bool.not_eq_false'] at h) <;> replace hb0 := h) | (refine And.intro ?ob ?_; case ob => ((try simp only [sxO, ne_eq, maxLen] at *); omega)) | fail) <;> (try simp (config := { maxSteps := 1000000 }) only [hb0, pwH, ↓hold_pre, awayP, runOps, regK, step1, newK, genR, appR, obl, buildR, Value.cells, closeK, keepH, outV, retK, ret1, retC, RetV, Option.getD, runD, stepD, afterK, undef, simprocAttr, sxB, ↓sxD, sxE, sxTab]))
  exact hK _ (((hN1.trans c1).trans d1).trans e1)
end
end Go.Proofs.YtamghpnjdohnjaaDoor.Sx
