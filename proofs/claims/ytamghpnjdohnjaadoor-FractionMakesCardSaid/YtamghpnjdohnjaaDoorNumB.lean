import Derived.Test.YtamghpnjdohnjaaDoorNumA
/- Numbers: what the program makes of any lists of limbs. -/
namespace Go.Proofs.YtamghpnjdohnjaaDoor.Sx
open Go Go.RowKit
set_option linter.unusedVariables false
set_option linter.unusedSimpArgs false
set_option maxRecDepth 100000
set_option maxHeartbeats 8000000
attribute [local congr] fin_congr finG_congr stepG_congr step1_congr runOps_congr brv_congr obl_congr condK_congr LoopK_congr seqK_congr CutK_congr vc_congr DrawK_congr regK_congr CallK_congr AskK_congr newK_congr retC_congr ret1_congr retK_congr outV_congr closeK_congr genR_congr appR_congr finD_congr finGD_congr stepGD_congr stepD_congr CallK0_congr runD_congr okR_congr CallS_congr vcX_congr
attribute [local congr] Stop_congr
def NatR (M : Mem) (K : AV → Hp → Mem → Prop) (r : Int × List Nat) : Prop := ∀ w M', Mem.le M M' → IsL M' u32V w r.2 → FreshS M w → K (.ext (.tuple #[w, .int .i64 r.1])) [] M'
def limR (n : Nat) : Int × List Nat := if (ofN n).length ≤ 128 then (0, ofN n) else (2, [])
def addR (a b : List Nat) : Int × List Nat := if chkN a && chkN b then limR (valN a + valN b) else (1, [])
def subR (a b : List Nat) : Int × List Nat := if chkN a && chkN b then (if valN a < valN b then (5, []) else (0, ofN (valN a - valN b))) else (1, [])
def mulR (a b : List Nat) : Int × List Nat := if chkN a && chkN b then limR (valN a * valN b) else (1, [])
def gcdR (a b : List Nat) : Int × List Nat := if chkN a && chkN b then (0, ofN (Nat.gcd (valN a) (valN b))) else (1, [])
def powR (a : List Nat) (n : Int) : Int × List Nat := if chkN a then (if n < 0 ∨ 65536 < n then (3, []) else limR (valN a ^ n.toNat)) else (1, [])
def divR (a b : List Nat) : Int × List Nat × List Nat := if chkN a && chkN b then (if valN b = 0 then (4, [], []) else (0, ofN (valN a / valN b), ofN (valN a % valN b))) else (1, [], [])
def cmpR (a b : List Nat) : Int := if chkN a && chkN b then cmpN (valN a) (valN b) else 0
def bitsR (a : List Nat) : Nat := if chkN a then (if a.length = 0 then 0 else 32 * (a.length - 1) + blen (a.getD (a.length - 1) 0)) else 0
def uintR (a : List Nat) : Nat × Bool := if chkN a && decide (a.length ≤ 2) then (valN a, true) else (0, false)
section
variable {M : Mem} {K : AV → Hp → Mem → Prop}
theorem NatR.err (e : Int) (h : NatR M K (e, [])) : K (.ext (.tuple #[.slice none 0 0, .int .i64 e])) [] M := h _ _ (Mem.le.refl _) (isL_nil _ _ _) (freshS_nil _ _)
theorem natOf_ok (n : Nat) (hn : n < 18446744073709551616) (hK : NatK M K n) : CallS Tryd.prog 54 [.ext (.int .u64 (n : Int))] [] M [] K := by
  refine inlS (cs := []) Tryd.mixed Tryd.func54 rfl (by kernel_rfl) 0 rfl rfl ?_
  simp only [Tryd.f54]
  (replace hb0 := true_and True); refine Go1.mk ?_; repeat' ((first | (with_reducible refine Go1.go ?_) | ((with_reducible first | refine brv_mk ?_ ?_ | refine gsplitD ?_ ?_ | refine gsplitG ?_ ?_) <;> intro h <;> (try simp only [Bool.not_eq_true', Bool.not_eq_false'] at h) <;> replace hb0 := h) | ((first | (with_reducible refine isCall (f := 82) ?_; refine callA_nil (by kernel_rfl) ?_) | (with_reducible refine isCall0 (f := 82) ?_; refine callA0_nil (by kernel_rfl) ?_)); refine (of_ok n hn (fun w M' h1 h2 h3 => Stop.mk ?_))) | (refine And.intro ?ob ?_; case ob => ((try simp only [sxO, ne_eq, maxLen] at *); omega)) | fail) <;> (try simp (config := { maxSteps := 1000000 }) only [hb0, ↓hold_pre, awayP, runOps, regK, step1, newK, genR, appR, obl, buildR, Value.cells, closeK, keepH, outV, retK, ret1, retC, RetV, Option.getD, runD, stepD, afterK, undef, simprocAttr, sxB, ↓sxD, sxE, sxTab]))
  refine Stop.go ?_
  (replace hb0 := true_and True); refine Go1.mk ?_; repeat' ((first | (with_reducible refine Go1.go ?_) | ((with_reducible first | refine brv_mk ?_ ?_ | refine gsplitD ?_ ?_ | refine gsplitG ?_ ?_) <;> intro h <;> (try simp only [Bool.not_eq_true', Bool.not_eq_false'] at h) <;> replace hb0 := h) | (refine And.intro ?ob ?_; case ob => ((try simp only [sxO, ne_eq, maxLen] at *); omega)) | fail) <;> (try simp (config := { maxSteps := 1000000 }) only [hb0, h2.one, ↓hold_pre, awayP, runOps, regK, step1, newK, genR, appR, obl, buildR, Value.cells, closeK, keepH, outV, retK, ret1, retC, RetV, Option.getD, runD, stepD, afterK, undef, simprocAttr, sxB, ↓sxD, sxE, sxTab]))
  exact hK _ _ h1 h2 h3
theorem limit_ok (w : Value) (n : Nat) (hw : IsL M u32V w (ofN n)) (hK1 : (ofN n).length ≤ 128 → K (.ext (.tuple #[w, .int .i64 0])) [] M) (hK2 : 128 < (ofN n).length → K (.ext (.tuple #[.slice none 0 0, .int .i64 2])) [] M) : CallS Tryd.prog 112 [.ext w] [] M [] K := by
  refine inlS (cs := []) Tryd.mixed Tryd.func112 rfl (by kernel_rfl) 0 rfl rfl ?_
  simp only [Tryd.f112]
  by_cases h : (ofN n).length ≤ 128
  · have d1 : decide ((128 : Int) < ((ofN n).length : Int)) = false := by simp; omega
    (replace hb0 := true_and True); refine Go1.mk ?_; repeat' ((first | (with_reducible refine Go1.go ?_) | ((with_reducible first | refine brv_mk ?_ ?_ | refine gsplitD ?_ ?_ | refine gsplitG ?_ ?_) <;> intro h <;> (try simp only [Bool.not_eq_true', Bool.not_eq_false'] at h) <;> replace hb0 := h) | (refine And.intro ?ob ?_; case ob => ((try simp only [sxO, ne_eq, maxLen] at *); omega)) | fail) <;> (try simp (config := { maxSteps := 1000000 }) only [hb0, hw.one, hw.len, hw.sl, d1, ↓hold_pre, awayP, runOps, regK, step1, newK, genR, appR, obl, buildR, Value.cells, closeK, keepH, outV, retK, ret1, retC, RetV, Option.getD, runD, stepD, afterK, undef, simprocAttr, sxB, ↓sxD, sxE, sxTab]))
    exact hK1 h
  · have d1 : decide ((128 : Int) < ((ofN n).length : Int)) = true := by simp; omega
    (replace hb0 := true_and True); refine Go1.mk ?_; repeat' ((first | (with_reducible refine Go1.go ?_) | ((with_reducible first | refine brv_mk ?_ ?_ | refine gsplitD ?_ ?_ | refine gsplitG ?_ ?_) <;> intro h <;> (try simp only [Bool.not_eq_true', Bool.not_eq_false'] at h) <;> replace hb0 := h) | (refine And.intro ?ob ?_; case ob => ((try simp only [sxO, ne_eq, maxLen] at *); omega)) | fail) <;> (try simp (config := { maxSteps := 1000000 }) only [hb0, hw.one, hw.len, hw.sl, d1, ↓hold_pre, awayP, runOps, regK, step1, newK, genR, appR, obl, buildR, Value.cells, closeK, keepH, outV, retK, ret1, retC, RetV, Option.getD, runD, stepD, afterK, undef, simprocAttr, sxB, ↓sxD, sxE, sxTab]))
    exact hK2 (by omega)
theorem NatR.lim {n : Nat} {w : Value} {M1 : Mem} {MM : Mem} {KK : AV → Hp → Mem → Prop} (h : NatR MM KK (limR n)) (h1 : Mem.le MM M1) (h2 : IsL M1 u32V w (ofN n)) (h3 : FreshS MM w) :
    ((ofN n).length ≤ 128 → KK (.ext (.tuple #[w, .int .i64 0])) [] M1) ∧ (128 < (ofN n).length → KK (.ext (.tuple #[.slice none 0 0, .int .i64 2])) [] M1) := by
  unfold limR at h
  constructor
  · intro hl; rw [if_pos hl] at h; exact h _ _ h1 h2 h3
  · intro hl; rw [if_neg (by omega)] at h; exact h _ _ h1 (isL_nil _ _ _) (freshS_nil _ _)
variable {u v : Value} {l1 l2 : List Nat}
/-- a quotient, a remainder and an error -/
def NatD (M : Mem) (K : AV → Hp → Mem → Prop) (r : Int × List Nat × List Nat) : Prop := ∀ q w M', Mem.le M M' → IsL M' u32V q r.2.1 → IsL M' u32V w r.2.2 → FreshS M q → FreshS M w → K (.ext (.tuple #[q, w, .int .i64 r.1])) [] M'
theorem NatD.err (e : Int) (h : NatD M K (e, [], [])) : K (.ext (.tuple #[.slice none 0 0, .slice none 0 0, .int .i64 e])) [] M := h _ _ _ (Mem.le.refl _) (isL_nil _ _ _) (isL_nil _ _ _) (freshS_nil _ _) (freshS_nil _ _)
theorem valN_nil_iff {l : List Nat} (h : l = ofN (valN l)) : l.length = 0 ↔ valN l = 0 := by
  constructor
  · intro h1; rw [List.length_eq_zero_iff.1 h1]; rfl
  · intro h1; rw [h, h1, ofN_zero]; rfl
end
end Go.Proofs.YtamghpnjdohnjaaDoor.Sx
