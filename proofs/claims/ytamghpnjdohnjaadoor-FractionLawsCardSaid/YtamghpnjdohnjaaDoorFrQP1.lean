/- Part 1 of the texts of this claim: a symbolic executor and contracts of functions. -/
import Derived.Test.YtamghpnjdohnjaaDoorLimJ
import Derived.Test.YtamghpnjdohnjaaDoorBld
import Derived.Test.YtamghpnjdohnjaaDoorRow
import Derived.Test.YtamghpnjdohnjaaDoorLimB
namespace Go.Proofs.YtamghpnjdohnjaaDoor.Sx
open Go Go.RowKit
set_option linter.unusedVariables false
set_option linter.unusedSimpArgs false
set_option maxRecDepth 100000
set_option maxHeartbeats 8000000
attribute [local congr] fin_congr finG_congr stepG_congr step1_congr runOps_congr brv_congr obl_congr condK_congr LoopK_congr seqK_congr CutK_congr vc_congr DrawK_congr regK_congr CallK_congr AskK_congr newK_congr retC_congr ret1_congr retK_congr outV_congr closeK_congr genR_congr appR_congr finD_congr finGD_congr stepGD_congr stepD_congr CallK0_congr runD_congr okR_congr CallS_congr vcX_congr
attribute [local congr] Stop_congr
def chkN (l : List Nat) : Bool := decide (l.length ≤ 128) && (decide (l.length = 0) || !decide (l.getD (l.length - 1) 0 = 0))
theorem chkN_ok {l : List Nat} (ho : okN l) (h : chkN l = true) : l = ofN (valN l) ∧ l.length ≤ 128 := by
  simp only [chkN, Bool.and_eq_true, Bool.or_eq_true, decide_eq_true_eq, Bool.not_eq_true', decide_eq_false_iff_not] at h
  refine ⟨canon ho fun hl => ?_, h.1⟩
  have h2 := h.2.resolve_left (by omega)
  simpa [List.getD, show l.length - 1 < l.length by omega] using h2
theorem chkN_ofN {n : Nat} (h : (ofN n).length ≤ 128) : chkN (ofN n) = true := by
  simp only [chkN, Bool.and_eq_true, Bool.or_eq_true, decide_eq_true_eq, Bool.not_eq_true', decide_eq_false_iff_not]
  refine ⟨h, ?_⟩
  rcases Nat.eq_zero_or_pos (ofN n).length with h1 | h1
  · exact .inl h1
  · right
    have := trimmed_ofN n h1
    simpa [List.getD, show (ofN n).length - 1 < (ofN n).length by omega] using this
section
variable {M : Mem} {K : AV → Hp → Mem → Prop}
theorem check_ok (u : Value) (l : List Nat) (hu : IsL M u32V u l) (hb : l.length < 1000000000) (hK : K (.ext (.bool (chkN l))) [] M) : CallS Tryd.prog 50 [.ext u] [] M [] K := by
  refine inlS (cs := []) Tryd.mixed Tryd.func50 rfl (by kernel_rfl) 0 rfl rfl ?_
  simp only [Tryd.f50]
  by_cases h1 : l.length ≤ 128
  · have d1 : decide ((l.length : Int) ≤ 128) = true := by simp; omega
    by_cases h2 : l.length = 0
    · have d2 : decide ((l.length : Int) = 0) = true := by rw [h2]; rfl
      rw [show chkN l = true by simp [chkN, h1, h2]] at hK
      (replace hb0 := true_and True); refine Go1.mk ?_; repeat' ((first | (with_reducible refine Go1.go ?_) | ((with_reducible first | refine brv_mk ?_ ?_ | refine gsplitD ?_ ?_ | refine gsplitG ?_ ?_) <;> intro h <;> (try simp only [Bool.not_eq_true', Bool.not_eq_false'] at h) <;> replace hb0 := h) | (refine And.intro ?ob ?_; case ob => ((try simp only [sxO, ne_eq, maxLen] at *); omega)) | fail) <;> (try simp (config := { maxSteps := 1000000 }) only [hb0, cE_ment, hasK_nil, cE_kill, cE_len, u32_one, u32_app1, u32_set, Nat.mul_one, hu.one, hu.len, hu.sl, d1, d2, ↓hold_pre, awayP, runOps, regK, step1, newK, genR, appR, obl, buildR, Value.cells, closeK, keepH, outV, retK, ret1, retC, RetV, Option.getD, runD, stepD, afterK, undef, simprocAttr, sxB, ↓sxD, sxE, sxTab]))
      exact hK
    · have d2 : decide ((l.length : Int) = 0) = false := by rw [decide_eq_false_iff_not]; omega
      have hi := hu.idx (P := Tryd.prog) (T := 70) tk70 tz70 (by omega) (show l.length - 1 < l.length by omega)
      have w1 : IntKind.i64.wrap ((l.length : Int) - 1) = ((l.length - 1 : Nat) : Int) := pred_i (by omega) (by omega)
      have hc : chkN l = !decide ((l[l.length - 1]'(by omega) : Int) = 0) := by
        have e : decide ((l[l.length - 1]'(by omega) : Int) = 0) = decide (l[l.length - 1]'(by omega) = 0) := by
          rw [decide_eq_decide]; omega
        rw [e]
        simp [chkN, h1, h2, List.getD, show l.length - 1 < l.length by omega]
      rw [hc] at hK
      (replace hb0 := true_and True); refine Go1.mk ?_; repeat' ((first | (with_reducible refine Go1.go ?_) | ((with_reducible first | refine brv_mk ?_ ?_ | refine gsplitD ?_ ?_ | refine gsplitG ?_ ?_) <;> intro h <;> (try simp only [Bool.not_eq_true', Bool.not_eq_false'] at h) <;> replace hb0 := h) | (refine And.intro ?ob ?_; case ob => ((try simp only [sxO, ne_eq, maxLen] at *); omega)) | fail) <;> (try simp (config := { maxSteps := 1000000 }) only [hb0, cE_ment, hasK_nil, cE_kill, cE_len, u32_one, u32_app1, u32_set, Nat.mul_one, u32V, hu.one, hu.len, hu.sl, d1, d2, hi, w1, ↓hold_pre, awayP, runOps, regK, step1, newK, genR, appR, obl, buildR, Value.cells, closeK, keepH, outV, retK, ret1, retC, RetV, Option.getD, runD, stepD, afterK, undef, simprocAttr, sxB, ↓sxD, sxE, sxTab]))
      exact hK
  · have d1 : decide ((l.length : Int) ≤ 128) = false := by simp; omega
    rw [show chkN l = false by simp [chkN, h1]] at hK
    (replace hb0 := true_and True); refine Go1.mk ?_; repeat' ((first | (with_reducible refine Go1.go ?_) | ((with_reducible first | refine brv_mk ?_ ?_ | refine gsplitD ?_ ?_ | refine gsplitG ?_ ?_) <;> intro h <;> (try simp only [Bool.not_eq_true', Bool.not_eq_false'] at h) <;> replace hb0 := h) | (refine And.intro ?ob ?_; case ob => ((try simp only [sxO, ne_eq, maxLen] at *); omega)) | fail) <;> (try simp (config := { maxSteps := 1000000 }) only [hb0, cE_ment, hasK_nil, cE_kill, cE_len, u32_one, u32_app1, u32_set, Nat.mul_one, hu.one, hu.len, hu.sl, d1, ↓hold_pre, awayP, runOps, regK, step1, newK, genR, appR, obl, buildR, Value.cells, closeK, keepH, outV, retK, ret1, retC, RetV, Option.getD, runD, stepD, afterK, undef, simprocAttr, sxB, ↓sxD, sxE, sxTab]))
    exact hK
end
end Go.Proofs.YtamghpnjdohnjaaDoor.Sx
namespace Go.Proofs.YtamghpnjdohnjaaDoor.Sx
open Go Go.RowKit
set_option linter.unusedVariables false
set_option linter.unusedSimpArgs false
set_option maxRecDepth 100000
set_option maxHeartbeats 8000000
attribute [local congr] fin_congr finG_congr stepG_congr step1_congr runOps_congr brv_congr obl_congr condK_congr LoopK_congr seqK_congr CutK_congr vc_congr DrawK_congr regK_congr CallK_congr AskK_congr newK_congr retC_congr ret1_congr retK_congr outV_congr closeK_congr genR_congr appR_congr finD_congr finGD_congr stepGD_congr stepD_congr CallK0_congr runD_congr okR_congr CallS_congr vcX_congr
attribute [local congr] Stop_congr
def NatR (M : Mem) (K : AV → Hp → Mem → Prop) (r : Int × List Nat) : Prop := ∀ w M', Mem.le M M' → IsL M' u32V w r.2 → FreshS M w → K (.ext (.tuple #[w, .int .i64 r.1])) [] M'
section
variable {M : Mem} {K : AV → Hp → Mem → Prop}
theorem NatR.err (e : Int) (h : NatR M K (e, [])) : K (.ext (.tuple #[.slice none 0 0, .int .i64 e])) [] M := h _ _ (Mem.le.refl _) (isL_nil _ _ _) (freshS_nil _ _)
theorem natOf_ok (n : Nat) (hn : n < 18446744073709551616) (hK : NatK M K n) : CallS Tryd.prog 54 [.ext (.int .u64 (n : Int))] [] M [] K := by
  refine inlS (cs := []) Tryd.mixed Tryd.func54 rfl (by kernel_rfl) 0 rfl rfl ?_
  simp only [Tryd.f54]
  (replace hb0 := true_and True); refine Go1.mk ?_; repeat' ((first | (with_reducible refine Go1.go ?_) | ((with_reducible first | refine brv_mk ?_ ?_ | refine gsplitD ?_ ?_ | refine gsplitG ?_ ?_) <;> intro h <;> (try simp only [Bool.not_eq_true', Bool.not_eq_false'] at h) <;> replace hb0 := h) | ((first | (with_reducible refine isCall (f := 82) ?_; refine callA_nil (by kernel_rfl) ?_) | (with_reducible refine isCall0 (f := 82) ?_; refine callA0_nil (by kernel_rfl) ?_)); refine (of_ok n hn (fun w M' h1 h2 h3 => Stop.mk ?_))) | (refine And.intro ?ob ?_; case ob => ((try simp only [sxO, ne_eq, maxLen] at *); omega)) | fail) <;> (try simp (config := { maxSteps := 1000000 }) only [hb0, ↓hold_pre, awayP, runOps, regK, step1, newK, genR, appR, obl, buildR, Value.cells, closeK, keepH, outV, retK, ret1, retC, RetV, Option.getD, runD, stepD, afterK, undef, simprocAttr, sxB, ↓sxD, sxE, sxTab]))
  refine Stop.go ?_
  (replace hb0 := true_and True); refine Go1.mk ?_; repeat' ((first | (with_reducible refine Go1.go ?_) | ((with_reducible first | refine brv_mk ?_ ?_ | refine gsplitD ?_ ?_ | refine gsplitG ?_ ?_) <;> intro h <;> (try simp only [Bool.not_eq_true', Bool.not_eq_false'] at h) <;> replace hb0 := h) | (refine And.intro ?ob ?_; case ob => ((try simp only [sxO, ne_eq, maxLen] at *); omega)) | fail) <;> (try simp (config := { maxSteps := 1000000 }) only [hb0, h2.one, ↓hold_pre, awayP, runOps, regK, step1, newK, genR, appR, obl, buildR, Value.cells, closeK, keepH, outV, retK, ret1, retC, RetV, Option.getD, runD, stepD, afterK, undef, simprocAttr, sxB, ↓sxD, sxE, sxTab]))
  exact hK _ _ h1 h2 h3
variable {u v : Value} {l1 l2 : List Nat}
def NatD (M : Mem) (K : AV → Hp → Mem → Prop) (r : Int × List Nat × List Nat) : Prop := ∀ q w M', Mem.le M M' → IsL M' u32V q r.2.1 → IsL M' u32V w r.2.2 → FreshS M q → FreshS M w → K (.ext (.tuple #[q, w, .int .i64 r.1])) [] M'
theorem NatD.err (e : Int) (h : NatD M K (e, [], [])) : K (.ext (.tuple #[.slice none 0 0, .slice none 0 0, .int .i64 e])) [] M := h _ _ _ (Mem.le.refl _) (isL_nil _ _ _) (isL_nil _ _ _) (freshS_nil _ _) (freshS_nil _ _)
end
end Go.Proofs.YtamghpnjdohnjaaDoor.Sx
namespace Go.Proofs.YtamghpnjdohnjaaDoor.Sx
open Go Go.RowKit
set_option linter.unusedVariables false
set_option linter.unusedSimpArgs false
set_option maxRecDepth 100000
set_option maxHeartbeats 8000000
attribute [local congr] fin_congr finG_congr stepG_congr step1_congr runOps_congr brv_congr obl_congr condK_congr LoopK_congr seqK_congr CutK_congr vc_congr DrawK_congr regK_congr CallK_congr AskK_congr newK_congr retC_congr ret1_congr retK_congr outV_congr closeK_congr genR_congr appR_congr finD_congr finGD_congr stepGD_congr stepD_congr CallK0_congr runD_congr okR_congr CallS_congr vcX_congr
attribute [local congr] Stop_congr
theorem wN_two (i : Nat) : wN i = 2 ^ (32 * i) := by unfold wN; rw [Nat.pow_mul]
section
variable {M : Mem} {K : AV → Hp → Mem → Prop}
variable {u v : Value} {l1 l2 : List Nat}
end
end Go.Proofs.YtamghpnjdohnjaaDoor.Sx
set_option linter.unusedVariables false
namespace Go.Proofs.YtamghpnjdohnjaaDoor.Sx
def dgV (b : UInt8) : Nat := b.toNat - 48
def isDg (b : UInt8) : Prop := 48 ≤ b.toNat ∧ b.toNat ≤ 57
def dgB (n : Nat) : UInt8 := UInt8.ofNat (48 + n)
theorem dgB_nat {n : Nat} (h : n < 10) : (dgB n).toNat = 48 + n := by
  unfold dgB
  simp; omega
theorem dgB_is {n : Nat} (h : n < 10) : isDg (dgB n) := by
  unfold isDg
  rw [dgB_nat h]; omega
theorem dgV_dgB {n : Nat} (h : n < 10) : dgV (dgB n) = n := by unfold dgV; rw [dgB_nat h]; omega
theorem dgB_dgV {b : UInt8} (h : isDg b) : dgB (dgV b) = b := by
  apply UInt8.toNat_inj.1
  have h1 := h.1
  have h2 := h.2
  rw [dgB_nat (by unfold dgV; omega)]
  unfold dgV; omega
def numB (l : List UInt8) : Nat := l.foldl (fun a b => 10 * a + dgV b) 0
theorem numB_snoc (l : List UInt8) (b : UInt8) : numB (l ++ [b]) = 10 * numB l + dgV b := by simp [numB]
theorem numB_fold (l : List UInt8) : ∀ a, l.foldl (fun a b => 10 * a + dgV b) a = a * 10 ^ l.length + numB l := by
  induction l with
  | nil => intro a; simp [numB]
  | cons b r ih =>
    intro a
    unfold numB
    rw [List.foldl_cons, List.foldl_cons, ih, ih, List.length_cons, Nat.pow_succ]
    grind
theorem numB_app (a b : List UInt8) : numB (a ++ b) = numB a * 10 ^ b.length + numB b := by
  conv => lhs; unfold numB
  rw [List.foldl_append, numB_fold]; rfl
def dec (n : Nat) : List UInt8 := if h : n = 0 then [] else dec (n / 10) ++ [dgB (n % 10)]
termination_by n
decreasing_by exact Nat.div_lt_self (by omega) (by decide)
theorem dec_zero : dec 0 = [] := by rw [dec]; simp
theorem dec_pos {n : Nat} (h : n ≠ 0) : dec n = dec (n / 10) ++ [dgB (n % 10)] := by rw [dec]; simp [h]
def decB (n : Nat) : List UInt8 := if n = 0 then [48] else dec n
theorem numB_dec (n : Nat) : numB (dec n) = n := by
  induction n using Nat.strongRecOn with
  | _ n ih =>
    by_cases h : n = 0
    · subst h; rw [dec_zero]; rfl
    · rw [dec_pos h, numB_snoc, ih _ (Nat.div_lt_self (by omega) (by decide)), dgV_dgB (by omega)]; omega
theorem list_snoc {α : Type} (l : List α) : l = [] ∨ ∃ r x, l = r ++ [x] := by
  rcases List.eq_nil_or_concat l with h | ⟨r, x, h⟩
  · exact .inl h
  · exact .inr ⟨r, x, by simpa using h⟩
theorem dec_of : ∀ (n : Nat) (l : List UInt8), l.length = n → (∀ b ∈ l, isDg b) → (∀ b, l.head? = some b → b ≠ 48) → l = dec (numB l)
  | 0, l, hl, _, _ => by
    have : l = [] := List.length_eq_zero_iff.1 hl
    subst this
    rw [show numB [] = 0 from rfl, dec_zero]
  | n + 1, l, hl, hd, hh => by
    rcases list_snoc l with rfl | ⟨r, x, rfl⟩
    · simp at hl
    · have hr : r.length = n := by simpa using hl
      have hx : isDg x := hd x (by simp)
      have ih := dec_of n r hr (fun b hb => hd b (by simp [hb])) (fun b hb => by
        refine hh b ?_
        cases r with
        | nil => cases hb
        | cons c r => simpa using hb)
      have hv : dgV x < 10 := by have := hx.2; unfold dgV; omega
      have hne : numB (r ++ [x]) ≠ 0 := by
        rw [numB_snoc]
        intro e
        have e1 : numB r = 0 := by omega
        have e2 : dgV x = 0 := by omega
        rw [e1, dec_zero] at ih
        subst ih
        refine hh x rfl ?_
        rw [← dgB_dgV hx, e2]; rfl
      rw [dec_pos hne, numB_snoc]
      have e1 : (10 * numB r + dgV x) / 10 = numB r := by omega
      have e2 : (10 * numB r + dgV x) % 10 = dgV x := by omega
      rw [e1, e2, ← ih, dgB_dgV hx]
theorem drop_zeros (l : List UInt8) : numB (l.dropWhile (· == 48)) = numB l := by
  induction l with
  | nil => rfl
  | cons b r ih =>
    by_cases h : b = 48
    · subst h
      rw [show List.dropWhile (· == 48) ((48 : UInt8) :: r) = r.dropWhile (· == 48) by simp, ih]
      have := numB_app [48] r
      rw [show [(48 : UInt8)] ++ r = 48 :: r from rfl] at this
      rw [this, show numB [48] = 0 from rfl]; omega
    · rw [show List.dropWhile (· == 48) (b :: r) = b :: r by simp [h]]
theorem drop_head (l : List UInt8) : ∀ b, (l.dropWhile (· == 48)).head? = some b → b ≠ 48 := fun b hb => by
  have := List.head?_dropWhile_not (· == (48 : UInt8)) l
  rw [hb] at this
  simpa using this
theorem drop_dec {l : List UInt8} (h : ∀ b ∈ l, isDg b) : l.dropWhile (· == 48) = dec (numB l) := by
  have := dec_of _ (l.dropWhile (· == 48)) rfl (fun b hb => h b ((List.dropWhile_suffix _).mem hb)) (drop_head l)
  rw [drop_zeros] at this
  exact this
def pad : Nat → Nat → List UInt8
  | 0, _ => []
  | k + 1, x => dgB (x / 10 ^ k % 10) :: pad k x
theorem pad_is : ∀ (k x : Nat), ∀ b ∈ pad k x, isDg b
  | 0, x, b, hb => by cases hb
  | k + 1, x, b, hb => by
    rcases List.mem_cons.1 hb with rfl | h
    · exact dgB_is (Nat.mod_lt _ (by decide))
    · exact pad_is k x b h
theorem pad_len : ∀ (k x : Nat), (pad k x).length = k
  | 0, x => rfl
  | k + 1, x => by rw [pad, List.length_cons, pad_len k x]
theorem pad_val : ∀ (k x : Nat), numB (pad k x) = x % 10 ^ k
  | 0, x => by simp [pad, numB, Nat.mod_one]
  | k + 1, x => by
    have h := numB_app [dgB (x / 10 ^ k % 10)] (pad k x)
    rw [show [dgB (x / 10 ^ k % 10)] ++ pad k x = pad (k + 1) x from rfl] at h
    rw [h, pad_val k x, pad_len]
    have h5 : numB [dgB (x / 10 ^ k % 10)] = x / 10 ^ k % 10 := by
      have := numB_snoc [] (dgB (x / 10 ^ k % 10))
      rw [List.nil_append, dgV_dgB (Nat.mod_lt _ (by decide))] at this
      simpa [numB] using this
    rw [h5, Nat.pow_succ, Nat.mod_mul, Nat.mul_comm]; omega
def valG : List Nat → Nat
  | [] => 0
  | x :: r => x + 1000000000 * valG r
def joinG : List Nat → List UInt8
  | [] => []
  | x :: r => joinG r ++ pad 9 x
theorem joinG_is : ∀ (l : List Nat), ∀ b ∈ joinG l, isDg b
  | [], b, hb => by cases hb
  | x :: r, b, hb => by
    rcases List.mem_append.1 hb with h | h
    · exact joinG_is r b h
    · exact pad_is 9 x b h
theorem joinG_val : ∀ (l : List Nat), (∀ x ∈ l, x < 1000000000) → numB (joinG l) = valG l
  | [], _ => rfl
  | x :: r, h => by
    have hx := h x List.mem_cons_self
    rw [joinG, numB_app, joinG_val r fun y hy => h y (List.mem_cons_of_mem _ hy), pad_val, pad_len, valG, Nat.mod_eq_of_lt (by exact hx)]
    omega
theorem joinG_len : ∀ (l : List Nat), (joinG l).length = 9 * l.length
  | [] => rfl
  | x :: r => by rw [joinG, List.length_append, joinG_len r, pad_len, List.length_cons]; omega
theorem valG_app (a b : List Nat) : valG (a ++ b) = valG a + 1000000000 ^ a.length * valG b := by
  induction a with
  | nil => simp [valG]
  | cons x r ih => rw [List.cons_append, valG, valG, ih, List.length_cons, Nat.pow_succ]; grind
theorem joinG_drop {l : List Nat} {i : Nat} (h : i < l.length) : joinG (l.drop i) = joinG (l.drop (i + 1)) ++ pad 9 l[i] := by
  rw [List.drop_eq_getElem_cons h, joinG]
end Go.Proofs.YtamghpnjdohnjaaDoor.Sx
namespace Go.Proofs.YtamghpnjdohnjaaDoor.Sx
open Go Go.RowKit
set_option linter.unusedVariables false
set_option linter.unusedSimpArgs false
set_option maxRecDepth 100000
set_option maxHeartbeats 8000000
attribute [local congr] fin_congr finG_congr stepG_congr step1_congr runOps_congr brv_congr obl_congr condK_congr LoopK_congr seqK_congr CutK_congr vc_congr DrawK_congr regK_congr CallK_congr AskK_congr newK_congr retC_congr ret1_congr retK_congr outV_congr closeK_congr genR_congr appR_congr finD_congr finGD_congr stepGD_congr stepD_congr CallK0_congr runD_congr okR_congr CallS_congr vcX_congr
attribute [local congr] Stop_congr
section
variable {M : Mem} {K : AV → Hp → Mem → Prop}
def tlbSt (M : Mem) (c : UInt8) (r : List UInt8) : St := { env := [(0, .ext (.string (bs r))), (1, .ext (.int .u8 (c.toNat : Int)))], hp := [], M := M, kb := 0, fx := [] }
theorem trimLB_ok (c : UInt8) (l : List UInt8) (hb : l.length < 1000000000) (hK : K (.ext (.string (bs (l.dropWhile (· == c))))) [] M) : CallS Tryd.prog 118 [.ext (.string (bs l)), .ext (.int .u8 (c.toNat : Int))] [] M [] K := by
  refine inlS (cs := []) Tryd.mixed Tryd.func118 rfl (by kernel_rfl) 0 rfl rfl ?_
  simp only [Tryd.f118]
  (replace hb0 := true_and True); refine Go1.mk ?_; repeat' ((first | (with_reducible refine Go1.go ?_) | ((with_reducible first | refine brv_mk ?_ ?_ | refine gsplitD ?_ ?_ | refine gsplitG ?_ ?_) <;> intro h <;> (try simp only [Bool.not_eq_true', Bool.not_eq_false'] at h) <;> replace hb0 := h) | (refine And.intro ?ob ?_; case ob => ((try simp only [sxO, ne_eq, maxLen] at *); omega)) | fail) <;> (try simp (config := { maxSteps := 1000000 }) only [hb0, bs_mk, bs_app, bs_ext, bs_size, bs_toList, bs_at, bs_cells, List.take_length, imp_ga, guard_pk, guard_pk2, ↓hold_pre, awayP, runOps, regK, step1, newK, genR, appR, obl, buildR, Value.cells, closeK, keepH, outV, retK, ret1, retC, RetV, Option.getD, runD, stepD, afterK, undef, simprocAttr, sxB, ↓sxD, sxE, sxTab]))
  refine ⟨fun d z => ∃ r, r.length = d ∧ r.length ≤ l.length ∧ r.dropWhile (· == c) = l.dropWhile (· == c) ∧ z = tlbSt M c r, ⟨l.length, tlbSt M c l, le_sub ⟨rfl, rfl, trivial⟩ trivial rfl rfl rfl (keepLt0 _), ⟨l, rfl, Nat.le_refl _, rfl, rfl⟩⟩, ?_⟩
  rintro d z ⟨r, rfl, hr, hd, rfl⟩
  cases r with
  | nil =>
    have d1 : decide ((0 : Int) < ((0 : Nat) : Int)) = false := by decide
    rw [← hd] at hK
    (replace hb0 := true_and True); refine Go1.mk ?_; repeat' ((first | (with_reducible refine Go1.go ?_) | ((with_reducible first | refine brv_mk ?_ ?_ | refine gsplitD ?_ ?_ | refine gsplitG ?_ ?_) <;> intro h <;> (try simp only [Bool.not_eq_true', Bool.not_eq_false'] at h) <;> replace hb0 := h) | (refine And.intro ?ob ?_; case ob => ((try simp only [sxO, ne_eq, maxLen] at *); omega)) | fail) <;> (try simp (config := { maxSteps := 1000000 }) only [hb0, tlbSt, d1, bs_mk, bs_app, bs_ext, bs_size, bs_toList, bs_at, bs_cells, List.take_length, imp_ga, guard_pk, guard_pk2, ↓hold_pre, awayP, runOps, regK, step1, newK, genR, appR, obl, buildR, Value.cells, closeK, keepH, outV, retK, ret1, retC, RetV, Option.getD, runD, stepD, afterK, undef, simprocAttr, sxB, ↓sxD, sxE, sxTab]))
    exact hK
  | cons b t =>
    have hlt : (b :: t).length = t.length + 1 := rfl
    have d1 : decide ((0 : Int) < ((t.length + 1 : Nat) : Int)) = true := by rw [decide_eq_true_eq]; omega
    have d0 : (0 : Int) < ((t.length + 1 : Nat) : Int) := by omega
    have g0 : (b :: t).getD 0 0 = b := rfl
    have i1 : (1 : Int).toNat = 1 := rfl
    by_cases hbc : b = c
    · subst hbc
      have d2 : decide ((b.toNat : Int) = (b.toNat : Int)) = true := by simp
      have d3 : (1 : Int) ≤ ((t.length + 1 : Nat) : Int) := by omega
      (replace hb0 := true_and True); refine Go1.mk ?_; repeat' ((first | (with_reducible refine Go1.go ?_) | ((with_reducible first | refine brv_mk ?_ ?_ | refine gsplitD ?_ ?_ | refine gsplitG ?_ ?_) <;> intro h <;> (try simp only [Bool.not_eq_true', Bool.not_eq_false'] at h) <;> replace hb0 := h) | (refine And.intro ?ob ?_; case ob => ((try simp only [sxO, ne_eq, maxLen] at *); omega)) | fail) <;> (try simp (config := { maxSteps := 1000000 }) only [hb0, tlbSt, hlt, d0, d1, d2, d3, g0, i1, bs_mk, bs_app, bs_ext, bs_size, bs_toList, bs_at, bs_cells, List.take_length, imp_ga, guard_pk, guard_pk2, ↓hold_pre, awayP, runOps, regK, step1, newK, genR, appR, obl, buildR, Value.cells, closeK, keepH, outV, retK, ret1, retC, RetV, Option.getD, runD, stepD, afterK, undef, simprocAttr, sxB, ↓sxD, sxE, sxTab]))
      exact ⟨t.length, tlbSt M b t, by omega, le_sub ⟨rfl, rfl, trivial⟩ trivial rfl rfl rfl (keepLt0 _), t, rfl, by rw [hlt] at hr; omega, by rw [← hd]; simp, rfl⟩
    · have hne : b.toNat ≠ c.toNat := fun e => hbc (UInt8.toNat_inj.1 e)
      have d2 : decide ((b.toNat : Int) = (c.toNat : Int)) = false := by rw [decide_eq_false_iff_not]; omega
      rw [← hd, show List.dropWhile (· == c) (b :: t) = b :: t by simp [hbc]] at hK
      (replace hb0 := true_and True); refine Go1.mk ?_; repeat' ((first | (with_reducible refine Go1.go ?_) | ((with_reducible first | refine brv_mk ?_ ?_ | refine gsplitD ?_ ?_ | refine gsplitG ?_ ?_) <;> intro h <;> (try simp only [Bool.not_eq_true', Bool.not_eq_false'] at h) <;> replace hb0 := h) | (refine And.intro ?ob ?_; case ob => ((try simp only [sxO, ne_eq, maxLen] at *); omega)) | fail) <;> (try simp (config := { maxSteps := 1000000 }) only [hb0, tlbSt, hlt, d0, d1, d2, g0, i1, bs_mk, bs_app, bs_ext, bs_size, bs_toList, bs_at, bs_cells, List.take_length, imp_ga, guard_pk, guard_pk2, ↓hold_pre, awayP, runOps, regK, step1, newK, genR, appR, obl, buildR, Value.cells, closeK, keepH, outV, retK, ret1, retC, RetV, Option.getD, runD, stepD, afterK, undef, simprocAttr, sxB, ↓sxD, sxE, sxTab]))
      exact hK
theorem trimL0_ok (l : List UInt8) (hb : l.length < 1000000000) (hK : K (.ext (.string (bs (l.dropWhile (· == 48))))) [] M) : CallS Tryd.prog 107 [.ext (.string (bs l)), .ext (.string (bs [48]))] [] M [] K := by
  refine inlS (cs := []) Tryd.mixed Tryd.func107 rfl (by kernel_rfl) 0 rfl rfl ?_
  simp only [Tryd.f107]
  have c1 : ([(48 : UInt8)] == []) = false := rfl
  have g0 : [(48 : UInt8)].getD 0 0 = 48 := rfl
  have g1 : decide (((48 : UInt8).toNat : Int) < 128) = true := by decide
  have i1 : ((1 : Nat) : Int) = 1 := rfl
  cases l with
  | nil =>
    have c2 : (([] : List UInt8) == []) = true := rfl
    (replace hb0 := true_and True); refine Go1.mk ?_; repeat' ((first | (with_reducible refine Go1.go ?_) | ((with_reducible first | refine brv_mk ?_ ?_ | refine gsplitD ?_ ?_ | refine gsplitG ?_ ?_) <;> intro h <;> (try simp only [Bool.not_eq_true', Bool.not_eq_false'] at h) <;> replace hb0 := h) | (refine And.intro ?ob ?_; case ob => ((try simp only [sxO, ne_eq, maxLen] at *); omega)) | fail) <;> (try simp (config := { maxSteps := 1000000 }) only [hb0, c2, bs_mk, bs_app, bs_ext, bs_size, bs_toList, bs_at, bs_cells, List.take_length, imp_ga, guard_pk, guard_pk2, ↓hold_pre, awayP, runOps, regK, step1, newK, genR, appR, obl, buildR, Value.cells, closeK, keepH, outV, retK, ret1, retC, RetV, Option.getD, runD, stepD, afterK, undef, simprocAttr, sxB, ↓sxD, sxE, sxTab]))
    exact hK
  | cons b t =>
    have c2 : ((b :: t) == []) = false := rfl
    (replace hb0 := true_and True); refine Go1.mk ?_; repeat' ((first | (with_reducible refine Go1.go ?_) | ((with_reducible first | refine brv_mk ?_ ?_ | refine gsplitD ?_ ?_ | refine gsplitG ?_ ?_) <;> intro h <;> (try simp only [Bool.not_eq_true', Bool.not_eq_false'] at h) <;> replace hb0 := h) | ((first | (with_reducible refine isCall (f := 118) ?_; refine callA_nil (by kernel_rfl) ?_) | (with_reducible refine isCall0 (f := 118) ?_; refine callA0_nil (by kernel_rfl) ?_)); refine (trimLB_ok 48 (b :: t) hb ?_)) | (refine And.intro ?ob ?_; case ob => ((try simp only [sxO, ne_eq, maxLen] at *); omega)) | fail) <;> (try simp (config := { maxSteps := 1000000 }) only [hb0, c1, c2, g0, g1, i1, bs_mk, bs_app, bs_ext, bs_size, bs_toList, bs_at, bs_cells, List.take_length, imp_ga, guard_pk, guard_pk2, ↓hold_pre, awayP, runOps, regK, step1, newK, genR, appR, obl, buildR, Value.cells, closeK, keepH, outV, retK, ret1, retC, RetV, Option.getD, runD, stepD, afterK, undef, simprocAttr, sxB, ↓sxD, sxE, sxTab]))
    exact hK
def atN (k : Nat) : Nat := if k = 0 then 0 else 10 ^ (k - 1)
def joSt (M : Mem) (p : AV) (u : Value) (j : Nat) (o : List UInt8) : St := { env := [(4, .ext (.int .i64 ((j : Int) - 1))), (3, .own 3 0), (0, .ext u)], hp := bldH 3 90 p o, M := M, kb := 0, fx := [] }
def jiSt (M : Mem) (p : AV) (u : Value) (i k : Nat) (o : List UInt8) : St := { env := [(5, .ext (.int .u32 (atN k : Int))), (4, .ext (.int .i64 (i : Int))), (3, .own 3 0), (0, .ext u)], hp := bldH 3 90 p o, M := M, kb := 0, fx := [] }
def jnSt (M : Mem) (u : Value) : St := { env := [(4, .ext (.int .i64 (((0 : Nat) : Int) - 1))), (3, .own 3 0), (0, .ext u)], hp := [(3, 91, [.ext (.pointer none), .ext (.slice none 0 0)])], M := M, kb := 0, fx := [] }
theorem join_ok (u : Value) (L : List Nat) (hu : IsL M u32V u L) (ho : okN L) (hb : L.length < 10000) (hK : K (.ext (.string (bs (joinG L)))) [] M) : CallS Tryd.prog 108 [.ext u] [] M [] K := by
  refine inlS (cs := []) Tryd.mixed Tryd.func108 rfl (by kernel_rfl) 0 rfl rfl ?_
  simp only [Tryd.f108]
  by_cases hL : L = []
  · subst hL
    have w1 : IntKind.i64.wrap (((([] : List Nat).length : Nat) : Int) - 1) = ((0 : Nat) : Int) - 1 := by decide
    (replace hb0 := true_and True); refine Go1.mk ?_; repeat' ((first | (with_reducible refine Go1.go ?_) | ((with_reducible first | refine brv_mk ?_ ?_ | refine gsplitD ?_ ?_ | refine gsplitG ?_ ?_) <;> intro h <;> (try simp only [Bool.not_eq_true', Bool.not_eq_false'] at h) <;> replace hb0 := h) | (refine And.intro ?ob ?_; case ob => ((try simp only [sxO, ne_eq, maxLen] at *); omega)) | fail) <;> (try simp (config := { maxSteps := 1000000 }) only [hb0, hu.one, hu.len, hu.sl, w1, bs_mk, bs_app, bs_ext, bs_size, bs_toList, bs_at, bs_cells, List.take_length, imp_ga, guard_pk, guard_pk2, ↓hold_pre, awayP, runOps, regK, step1, newK, genR, appR, obl, buildR, Value.cells, closeK, keepH, outV, retK, ret1, retC, RetV, Option.getD, runD, stepD, afterK, undef, simprocAttr, sxB, ↓sxD, sxE, sxTab]))
    refine ⟨fun _ z => z = jnSt M u, ⟨0, jnSt M u, le_sub ⟨rfl, rfl, rfl, trivial⟩ ⟨rfl, trivial⟩ rfl rfl rfl (keepLt0 _), rfl⟩, ?_⟩
    rintro _ z rfl
    have d1 : decide ((0 : Int) ≤ ((0 : Nat) : Int) - 1) = false := by decide
    (replace hb0 := true_and True); refine Go1.mk ?_; repeat' ((first | (with_reducible refine Go1.go ?_) | ((with_reducible first | refine brv_mk ?_ ?_ | refine gsplitD ?_ ?_ | refine gsplitG ?_ ?_) <;> intro h <;> (try simp only [Bool.not_eq_true', Bool.not_eq_false'] at h) <;> replace hb0 := h) | ((with_reducible refine isCall (f := 83) ?_); refine callA ?_) | ((with_reducible refine isCall0 (f := 83) ?_); refine callA0 ?_) | ((with_reducible refine isCallS (f := 83) ?_); refine (string_nil 3 _ (by simp) ?_)) | (refine And.intro ?ob ?_; case ob => ((try simp only [sxO, ne_eq, maxLen] at *); omega)) | fail) <;> (try simp (config := { maxSteps := 1000000 }) only [hb0, jnSt, d1, bs_mk, bs_app, bs_ext, bs_size, bs_toList, bs_at, bs_cells, List.take_length, imp_ga, guard_pk, guard_pk2, ↓hold_pre, awayP, runOps, regK, step1, newK, genR, appR, obl, buildR, Value.cells, closeK, keepH, outV, retK, ret1, retC, RetV, Option.getD, runD, stepD, afterK, undef, simprocAttr, sxB, ↓sxD, sxE, sxTab]))
    exact hK
  have hl0 : 0 < L.length := List.length_pos_iff.2 hL
  have w1 : IntKind.i64.wrap ((L.length : Int) - 1) = (L.length : Int) - 1 := wrap_id (by omega) (by omega)
  (replace hb0 := true_and True); refine Go1.mk ?_; repeat' ((first | (with_reducible refine Go1.go ?_) | ((with_reducible first | refine brv_mk ?_ ?_ | refine gsplitD ?_ ?_ | refine gsplitG ?_ ?_) <;> intro h <;> (try simp only [Bool.not_eq_true', Bool.not_eq_false'] at h) <;> replace hb0 := h) | (refine And.intro ?ob ?_; case ob => ((try simp only [sxO, ne_eq, maxLen] at *); omega)) | fail) <;> (try simp (config := { maxSteps := 1000000 }) only [hb0, hu.one, hu.len, hu.sl, w1, bs_mk, bs_app, bs_ext, bs_size, bs_toList, bs_at, bs_cells, List.take_length, imp_ga, guard_pk, guard_pk2, ↓hold_pre, awayP, runOps, regK, step1, newK, genR, appR, obl, buildR, Value.cells, closeK, keepH, outV, retK, ret1, retC, RetV, Option.getD, runD, stepD, afterK, undef, simprocAttr, sxB, ↓sxD, sxE, sxTab]))
  refine ⟨fun d z => ∃ j p, (p = .ext (.pointer none) ∨ p = .own 3 0) ∧ j = d ∧ j ≤ L.length ∧ z = joSt M p u j (joinG (L.drop j)), ⟨L.length, joSt M (.ext (.pointer none)) u L.length [], (le_nilH 3 1 90 5 91 [.ext (.pointer none), .ext (.slice none 0 0)] 1 rfl rfl (.inl rfl)).trans (le_sub ⟨rfl, rfl, rfl, trivial⟩ ⟨rfl, rfl, trivial⟩ rfl rfl rfl (keepLt0 _)), ⟨L.length, _, .inl rfl, rfl, Nat.le_refl _, by rw [List.drop_of_length_le (Nat.le_refl _)]; rfl⟩⟩, ?_⟩
  rintro d z ⟨j, p, hp, rfl, hj, rfl⟩
  by_cases hlt : 0 < j
  case neg =>
    obtain rfl : j = 0 := by omega
    have d1 : decide ((0 : Int) ≤ ((0 : Nat) : Int) - 1) = false := by decide
    have hne : joinG (L.drop 0) ≠ [] := fun e => by
      have := joinG_len L
      rw [show L.drop 0 = L from rfl] at e
      rw [e] at this
      simp at this; omega
    have hlen : (joinG (L.drop 0)).length < 1000000000 := by rw [joinG_len, List.length_drop]; omega
    rw [show joinG L = joinG (L.drop 0) from rfl] at hK
    rcases hp with rfl | rfl
    all_goals (
      (replace hb0 := true_and True); refine Go1.mk ?_; repeat' ((first | (with_reducible refine Go1.go ?_) | ((with_reducible first | refine brv_mk ?_ ?_ | refine gsplitD ?_ ?_ | refine gsplitG ?_ ?_) <;> intro h <;> (try simp only [Bool.not_eq_true', Bool.not_eq_false'] at h) <;> replace hb0 := h) | ((with_reducible refine isCall (f := 83) ?_); refine callKm [90] rfl (by rfl) (by simp [hasK]) ?_) | ((with_reducible refine isCallS (f := 83) ?_); refine (string_ok 3 90 _ (joinG (L.drop 0)) (by decide) (by simp) hne hlen ?_)) | (refine And.intro ?ob ?_; case ob => ((try simp only [sxO, ne_eq, maxLen] at *); omega)) | fail) <;> (try simp (config := { maxSteps := 1000000 }) only [hb0, joSt, bldH, d1, cE_ment, cE_kill, hasK_nil, bs_mk, bs_app, bs_ext, bs_size, bs_toList, bs_at, bs_cells, List.take_length, imp_ga, guard_pk, guard_pk2, ↓hold_pre, awayP, runOps, regK, step1, newK, genR, appR, obl, buildR, Value.cells, closeK, keepH, outV, retK, ret1, retC, RetV, Option.getD, runD, stepD, afterK, undef, simprocAttr, sxB, ↓sxD, sxE, sxTab]))
      exact hK)
  obtain ⟨i, rfl⟩ : ∃ i, j = i + 1 := ⟨j - 1, by omega⟩
  have ej : (((i + 1 : Nat) : Int) - 1) = (i : Int) := by omega
  have d1 : decide ((0 : Int) ≤ (i : Int)) = true := by simp
  have hil : i < L.length := by omega
  have hxi := hu.idx (P := Tryd.prog) (T := 70) tk70 tz70 (by omega) hil
  have hx := okN_at ho hil
  have hjd := joinG_drop hil
  have hjl : (joinG (L.drop i)).length < 100000 := by rw [joinG_len, List.length_drop]; omega
  generalize L[i] = x at *
  have a9 : ((atN 9 : Nat) : Int) = 100000000 := by decide
  have inner : ∀ p, (p = .ext (.pointer none) ∨ p = .own 3 0) → ∀ (s : St), lk s.env 5 = .ext (.int .u32 100000000) → lk s.env 4 = .ext (.int .i64 (i : Int)) → lk s.env 3 = .own 3 0 → lk s.env 0 = .ext u → subHp (bldH 3 90 p (joinG (L.drop (i + 1)))) s.hp → s.M = M → s.kb = 0 → s.fx = [] → ∃ m z, Le s z ∧ ∃ k p o, (p = .ext (.pointer none) ∨ p = .own 3 0) ∧ k = m ∧ k ≤ 9 ∧ o ++ pad k x = joinG (L.drop i) ∧ z = jiSt M p u i k o := fun p hp s e5 e4 e3 e0 eh eM ek ef =>
    ⟨9, jiSt M p u i 9 (joinG (L.drop (i + 1))), le_sub ⟨by rw [e5, a9], e4, e3, e0, trivial⟩ eh eM.symm ek.symm ef.symm (by rw [ek]; exact keepLt0 _), 9, p, _, hp, rfl, Nat.le_refl _, hjd.symm, rfl⟩
  have w10 : IntKind.i64.wrap ((i : Int) - 1) = (i : Int) - 1 := wrap_id (by omega) (by omega)
  have step : ∀ (J : St → Prop) (p : AV), True := fun _ _ => trivial
  rcases hp with rfl | rfl
  all_goals (
    (replace hb0 := true_and True); refine Go1.mk ?_; repeat' ((first | (with_reducible refine Go1.go ?_) | ((with_reducible first | refine brv_mk ?_ ?_ | refine gsplitD ?_ ?_ | refine gsplitG ?_ ?_) <;> intro h <;> (try simp only [Bool.not_eq_true', Bool.not_eq_false'] at h) <;> replace hb0 := h) | (refine And.intro ?ob ?_; case ob => ((try simp only [sxO, ne_eq, maxLen] at *); omega)) | fail) <;> (try simp (config := { maxSteps := 1000000 }) only [hb0, joSt, bldH, ej, d1, cE_ment, cE_kill, hasK_nil, bs_mk, bs_app, bs_ext, bs_size, bs_toList, bs_at, bs_cells, List.take_length, imp_ga, guard_pk, guard_pk2, ↓hold_pre, awayP, runOps, regK, step1, newK, genR, appR, obl, buildR, Value.cells, closeK, keepH, outV, retK, ret1, retC, RetV, Option.getD, runD, stepD, afterK, undef, simprocAttr, sxB, ↓sxD, sxE, sxTab]))
    refine ⟨fun m z => ∃ k p o, (p = .ext (.pointer none) ∨ p = .own 3 0) ∧ k = m ∧ k ≤ 9 ∧ o ++ pad k x = joinG (L.drop i) ∧ z = jiSt M p u i k o, inner _ (by simp) _ rfl rfl rfl rfl ⟨rfl, rfl, trivial⟩ rfl rfl rfl, ?_⟩
    rintro m z ⟨k, p, o, hp, rfl, hk, hrel, rfl⟩
    have hol : o.length < 100000 := by
      have := congrArg List.length hrel
      rw [List.length_append] at this
      omega
    cases k with
    | zero =>
      have d2 : decide ((0 : Int) < ((atN 0 : Nat) : Int)) = false := by decide
      rw [pad, List.append_nil] at hrel
      subst hrel
      (replace hb0 := true_and True); refine Go1.mk ?_; repeat' ((first | (with_reducible refine Go1.go ?_) | ((with_reducible first | refine brv_mk ?_ ?_ | refine gsplitD ?_ ?_ | refine gsplitG ?_ ?_) <;> intro h <;> (try simp only [Bool.not_eq_true', Bool.not_eq_false'] at h) <;> replace hb0 := h) | (refine And.intro ?ob ?_; case ob => ((try simp only [sxO, ne_eq, maxLen] at *); omega)) | fail) <;> (try simp (config := { maxSteps := 1000000 }) only [hb0, jiSt, bldH, d2, w10, cE_ment, cE_kill, hasK_nil, bs_mk, bs_app, bs_ext, bs_size, bs_toList, bs_at, bs_cells, List.take_length, imp_ga, guard_pk, guard_pk2, ↓hold_pre, awayP, runOps, regK, step1, newK, genR, appR, obl, buildR, Value.cells, closeK, keepH, outV, retK, ret1, retC, RetV, Option.getD, runD, stepD, afterK, undef, simprocAttr, sxB, ↓sxD, sxE, sxTab]))
      exact ⟨i, joSt M p u i _, by omega, le_sub ⟨rfl, rfl, rfl, trivial⟩ ⟨rfl, rfl, trivial⟩ rfl rfl rfl (keepLt0 _), i, p, hp, rfl, by omega, rfl⟩
    | succ k =>
      have ha : atN (k + 1) = 10 ^ k := rfl
      have hp10 : 0 < 10 ^ k := Nat.pow_pos (by decide)
      have hp9 : 10 ^ k ≤ 10 ^ 8 := Nat.pow_le_pow_right (by decide) (by omega)
      have hnext : 10 ^ k / 10 = atN k := by
        unfold atN
        cases k with
        | zero => rfl
        | succ k => rw [if_neg (by omega), Nat.pow_succ, Nat.mul_div_cancel _ (by decide), Nat.add_sub_cancel]
      have hx1 : x / 10 ^ k ≤ x := Nat.div_le_self _ _
      have d2 : decide ((0 : Int) < ((10 ^ k : Nat) : Int)) = true := by rw [decide_eq_true_eq]; omega
      have w2 : IntKind.u32.wrap ((x : Int).tdiv ((10 ^ k : Nat) : Int)) = ((x / 10 ^ k : Nat) : Int) := by rw [← Int.ofNat_tdiv, wrap32_id (by omega)]
      have w3 : ((x / 10 ^ k : Nat) : Int).tmod 10 = ((x / 10 ^ k % 10 : Nat) : Int) := by rw [show (10 : Int) = ((10 : Nat) : Int) from rfl, ← Int.ofNat_tmod]
      have w4 : IntKind.u8.wrap ((x / 10 ^ k % 10 : Nat) : Int) = ((x / 10 ^ k % 10 : Nat) : Int) := by rw [wrap8, Nat.mod_eq_of_lt (a := x / 10 ^ k % 10) (by omega)]
      have w5 : IntKind.u8.wrap (48 + ((x / 10 ^ k % 10 : Nat) : Int)) = ((48 + x / 10 ^ k % 10 : Nat) : Int) := by
        rw [show (48 : Int) + ((x / 10 ^ k % 10 : Nat) : Int) = ((48 + x / 10 ^ k % 10 : Nat) : Int) by omega, wrap8, Nat.mod_eq_of_lt (by omega)]
      have w6 : IntKind.u32.wrap (((10 ^ k : Nat) : Int).tdiv 10) = ((atN k : Nat) : Int) := by
        rw [show (10 : Int) = ((10 : Nat) : Int) from rfl, ← Int.ofNat_tdiv, hnext, wrap32_id (by rw [← hnext]; omega)]
      have n1 : (((10 ^ k : Nat) : Int) = 0) = False := eq_false (fun h => by omega)
      rw [pad] at hrel
      have hrel2 : (o ++ [dgB (x / 10 ^ k % 10)]) ++ pad k x = joinG (L.drop i) := by rw [← hrel]; simp
      have hc := dgB_nat (show x / 10 ^ k % 10 < 10 by omega)
      generalize x / 10 ^ k % 10 = dg at *
      rcases hp with rfl | rfl
      all_goals (
        (replace hb0 := true_and True); refine Go1.mk ?_; repeat' ((first | (with_reducible refine Go1.go ?_) | ((with_reducible first | refine brv_mk ?_ ?_ | refine gsplitD ?_ ?_ | refine gsplitG ?_ ?_) <;> intro h <;> (try simp only [Bool.not_eq_true', Bool.not_eq_false'] at h) <;> replace hb0 := h) | ((with_reducible refine isCall (f := 81) ?_); refine callKm [90] rfl (by rfl) (by simp [hasK]) ?_) | ((with_reducible refine isCallS (f := 81) ?_); refine (wbyte_ok 3 90 _ o (dgB dg) _ (by rw [hc]) (by decide) (by omega) (by simp) ?_)) | (refine And.intro ?ob ?_; case ob => ((try simp only [sxO, ne_eq, maxLen] at *); omega)) | fail) <;> (try simp (config := { maxSteps := 1000000 }) only [hb0, jiSt, bldH, u32V, ha, d2, hxi, hu.one, hu.len, hu.sl, w2, w3, w4, w5, w6, n1, cE_ment, cE_kill, hasK_nil, bs_mk, bs_app, bs_ext, bs_size, bs_toList, bs_at, bs_cells, List.take_length, imp_ga, guard_pk, guard_pk2, ↓hold_pre, awayP, runOps, regK, step1, newK, genR, appR, obl, buildR, Value.cells, closeK, keepH, outV, retK, ret1, retC, RetV, Option.getD, runD, stepD, afterK, undef, simprocAttr, sxB, ↓sxD, sxE, sxTab]))
        exact ⟨k, jiSt M (.own 3 0) u i k (o ++ [dgB dg]), by omega, le_sub ⟨rfl, rfl, rfl, rfl, trivial⟩ ⟨rfl, rfl, trivial⟩ rfl rfl rfl (keepLt0 _), k, _, _, .inr rfl, rfl, by omega, hrel2, rfl⟩))
end
end Go.Proofs.YtamghpnjdohnjaaDoor.Sx
namespace Go.Proofs.YtamghpnjdohnjaaDoor.Sx
open Go Go.RowKit
set_option linter.unusedVariables false
set_option linter.unusedSimpArgs false
set_option maxRecDepth 100000
set_option maxHeartbeats 8000000
attribute [local congr] fin_congr finG_congr stepG_congr step1_congr runOps_congr brv_congr obl_congr condK_congr LoopK_congr seqK_congr CutK_congr vc_congr DrawK_congr regK_congr CallK_congr AskK_congr newK_congr retC_congr ret1_congr retK_congr outV_congr closeK_congr genR_congr appR_congr finD_congr finGD_congr stepGD_congr stepD_congr CallK0_congr runD_congr okR_congr CallS_congr vcX_congr
attribute [local congr] Stop_congr
def fmtR (l : List Nat) : Int × List UInt8 := if chkN l then (0, decB (valN l)) else (1, [])
section
variable {M : Mem} {K : AV → Hp → Mem → Prop}
theorem join_bor (k n : Nat) (T : TypeId) (L : List Nat) (hn : n = L.length) (ho : okN L) (hb : L.length < 10000) (hK : K (.ext (.string (bs (joinG L)))) [(k, T, cE u32V L)] M) :
    CallS Tryd.prog 108 [.slo k 0 n 1] [(k, T, cE u32V L)] M [] K := by
  refine CallS.bor ⟨⟨_, rfl⟩, trivial⟩ fun us M' hM hb' => ?_
  obtain ⟨v1, _, rfl, h1, rfl⟩ := hb'
  have g1 := h1.isL (g := u32V) (L := L) (T := T) (by simp [lkH]) hn
  exact join_ok v1 L g1 ho hb (BorK.same hK)
def fmSt (M : Mem) (w : Value) (n : Nat) (L : List Nat) : St := { env := [(5, .ext w), (4, .slo 90 0 n 1)], hp := [(90, 70, cE u32V L)], M := M, kb := 0, fx := [] }
theorem fmt_ok (u : Value) (l : List Nat) (hu : IsL M u32V u l) (ho : okN l) (hb : l.length < 1000000) (hK : ∀ M', Mem.le M M' → K (.ext (.tuple #[.string (bs (fmtR l).2), .int .i64 (fmtR l).1])) [] M') : CallS Tryd.prog 79 [.ext u] [] M [] K := by
  refine inlS (cs := []) Tryd.mixed Tryd.func79 rfl (by kernel_rfl) 0 rfl rfl ?_
  simp only [Tryd.f79]
  unfold fmtR at hK
  cases hc : chkN l with
  | false =>
    rw [hc] at hK
    (replace hb0 := true_and True); refine Go1.mk ?_; repeat' ((first | (with_reducible refine Go1.go ?_) | ((with_reducible first | refine brv_mk ?_ ?_ | refine gsplitD ?_ ?_ | refine gsplitG ?_ ?_) <;> intro h <;> (try simp only [Bool.not_eq_true', Bool.not_eq_false'] at h) <;> replace hb0 := h) | ((first | (with_reducible refine isCall (f := 50) ?_; refine callA_nil (by kernel_rfl) ?_) | (with_reducible refine isCall0 (f := 50) ?_; refine callA0_nil (by kernel_rfl) ?_)); refine (check_ok u l hu (by omega) ?_)) | (refine And.intro ?ob ?_; case ob => ((try simp only [sxO, ne_eq, maxLen] at *); omega)) | fail) <;> (try simp (config := { maxSteps := 1000000 }) only [hb0, hu.one, hc, bs_mk, bs_app, bs_ext, bs_size, bs_toList, bs_at, bs_cells, List.take_length, imp_ga, guard_pk, guard_pk2, ↓hold_pre, awayP, runOps, regK, step1, newK, genR, appR, obl, buildR, Value.cells, closeK, keepH, outV, retK, ret1, retC, RetV, Option.getD, runD, stepD, afterK, undef, simprocAttr, sxB, ↓sxD, sxE, sxTab]))
    exact hK _ (Mem.le.refl _)
  | true =>
    rw [hc, if_pos rfl] at hK
    obtain ⟨e1, b1⟩ := chkN_ok ho hc
    have hu' := hu
    rw [e1] at hu'
    obtain ⟨E, hE, hbd⟩ : ∃ E, E = 4096 ∧ valN l < 2 ^ E := by
      obtain ⟨i, hi⟩ : ∃ i, i = 128 := ⟨_, rfl⟩
      rw [← hi] at b1
      exact ⟨32 * i, by omega, by rw [← wN_two]; exact Nat.lt_of_lt_of_le (valN_lt ho) (wN_mono b1)⟩
    generalize valN l = N at *
    (replace hb0 := true_and True); refine Go1.mk ?_; repeat' ((first | (with_reducible refine Go1.go ?_) | ((with_reducible first | refine brv_mk ?_ ?_ | refine gsplitD ?_ ?_ | refine gsplitG ?_ ?_) <;> intro h <;> (try simp only [Bool.not_eq_true', Bool.not_eq_false'] at h) <;> replace hb0 := h) | ((first | (with_reducible refine isCall (f := 50) ?_; refine callA_nil (by kernel_rfl) ?_) | (with_reducible refine isCall0 (f := 50) ?_; refine callA0_nil (by kernel_rfl) ?_)); refine (check_ok u l hu (by omega) ?_)) | (refine And.intro ?ob ?_; case ob => ((try simp only [sxO, ne_eq, maxLen] at *); omega)) | fail) <;> (try simp (config := { maxSteps := 1000000 }) only [hb0, hu.one, hc, bs_mk, bs_app, bs_ext, bs_size, bs_toList, bs_at, bs_cells, List.take_length, imp_ga, guard_pk, guard_pk2, ↓hold_pre, awayP, runOps, regK, step1, newK, genR, appR, obl, buildR, Value.cells, closeK, keepH, outV, retK, ret1, retC, RetV, Option.getD, runD, stepD, afterK, undef, simprocAttr, sxB, ↓sxD, sxE, sxTab]))
    have hlen : (ofN N).length ≤ 128 := by rw [← e1]; exact b1
    refine ⟨fun d z => ∃ M' w n L, n = d ∧ Mem.le M M' ∧ IsL M' u32V w (ofN n) ∧ (ofN n).length ≤ 128 ∧ valG L + 1000000000 ^ L.length * n = N ∧ (∀ x ∈ L, x < 1000000000) ∧ 2 ^ L.length * n ≤ N ∧ L.length ≤ 5000 ∧ z = fmSt M' w L.length L,
      ⟨N, fmSt M u 0 [], (le_nil 4 90 70 1 rfl (.inl rfl)).trans (le_sub ⟨rfl, rfl, trivial⟩ ⟨rfl, trivial⟩ rfl rfl rfl (keepLt0 _)), ⟨M, u, N, [], rfl, Mem.le.refl _, hu', hlen, by simp [valG], by simp, by simp, by simp, rfl⟩⟩, ?_⟩
    clear hu hu' e1 hlen
    rintro d z ⟨M1, w, n, L, rfl, hM1, hw, hwl, hval, hL, h2, hLl, rfl⟩
    by_cases hn : n = 0
    · subst hn
      have d1 : decide ((0 : Int) < (((ofN 0).length : Nat) : Int)) = false := by rw [ofN_zero]; rfl
      have hoL : okN L := fun x hx => by have := hL x hx; omega
      rw [Nat.mul_zero, Nat.add_zero] at hval
      have hJ := joinG_val L hL
      rw [hval] at hJ
      have hD := drop_dec (joinG_is L)
      rw [hJ] at hD
      have hjl : (joinG L).length < 1000000000 := by rw [joinG_len]; omega
      (replace hb0 := true_and True); refine Go1.mk ?_; repeat' ((first | (with_reducible refine Go1.go ?_) | ((with_reducible first | refine brv_mk ?_ ?_ | refine gsplitD ?_ ?_ | refine gsplitG ?_ ?_) <;> intro h <;> (try simp only [Bool.not_eq_true', Bool.not_eq_false'] at h) <;> replace hb0 := h) | ((with_reducible refine isCall (f := 108) ?_); refine callA ?_) | ((with_reducible refine isCall0 (f := 108) ?_); refine callA0 ?_) | ((with_reducible refine isCallS (f := 108) ?_); refine (join_bor 90 L.length _ L rfl hoL (by omega) (Stop.mk ?_))) | (refine And.intro ?ob ?_; case ob => ((try simp only [sxO, ne_eq, maxLen] at *); omega)) | fail) <;> (try simp (config := { maxSteps := 1000000 }) only [hb0, cE_ment, hasK_nil, cE_kill, cE_len, u32_one, u32_app1, u32_set, Nat.mul_one, fmSt, d1, hw.one, hw.len, hw.sl, bs_mk, bs_app, bs_ext, bs_size, bs_toList, bs_at, bs_cells, List.take_length, imp_ga, guard_pk, guard_pk2, ↓hold_pre, awayP, runOps, regK, step1, newK, genR, appR, obl, buildR, Value.cells, closeK, keepH, outV, retK, ret1, retC, RetV, Option.getD, runD, stepD, afterK, undef, simprocAttr, sxB, ↓sxD, sxE, sxTab]))
      refine Stop.go ?_
      (replace hb0 := true_and True); refine Go1.mk ?_; repeat' ((first | (with_reducible refine Go1.go ?_) | ((with_reducible first | refine brv_mk ?_ ?_ | refine gsplitD ?_ ?_ | refine gsplitG ?_ ?_) <;> intro h <;> (try simp only [Bool.not_eq_true', Bool.not_eq_false'] at h) <;> replace hb0 := h) | ((first | (with_reducible refine isCall (f := 107) ?_; refine callA_nil (by kernel_rfl) ?_) | (with_reducible refine isCall0 (f := 107) ?_; refine callA0_nil (by kernel_rfl) ?_)); refine (trimL0_ok (joinG L) hjl (Stop.mk ?_))) | (refine And.intro ?ob ?_; case ob => ((try simp only [sxO, ne_eq, maxLen] at *); omega)) | fail) <;> (try simp (config := { maxSteps := 1000000 }) only [hb0, cE_ment, hasK_nil, cE_kill, cE_len, u32_one, u32_app1, u32_set, Nat.mul_one, bs_mk, bs_app, bs_ext, bs_size, bs_toList, bs_at, bs_cells, List.take_length, imp_ga, guard_pk, guard_pk2, ↓hold_pre, awayP, runOps, regK, step1, newK, genR, appR, obl, buildR, Value.cells, closeK, keepH, outV, retK, ret1, retC, RetV, Option.getD, runD, stepD, afterK, undef, simprocAttr, sxB, ↓sxD, sxE, sxTab]))
      rw [hD]
      refine Stop.go ?_
      unfold decB at hK
      by_cases h0 : N = 0
      · rw [if_pos h0] at hK
        have d2 : (dec N == []) = true := by rw [h0, dec_zero]; rfl
        (replace hb0 := true_and True); refine Go1.mk ?_; repeat' ((first | (with_reducible refine Go1.go ?_) | ((with_reducible first | refine brv_mk ?_ ?_ | refine gsplitD ?_ ?_ | refine gsplitG ?_ ?_) <;> intro h <;> (try simp only [Bool.not_eq_true', Bool.not_eq_false'] at h) <;> replace hb0 := h) | (refine And.intro ?ob ?_; case ob => ((try simp only [sxO, ne_eq, maxLen] at *); omega)) | fail) <;> (try simp (config := { maxSteps := 1000000 }) only [hb0, d2, bs_mk, bs_app, bs_ext, bs_size, bs_toList, bs_at, bs_cells, List.take_length, imp_ga, guard_pk, guard_pk2, ↓hold_pre, awayP, runOps, regK, step1, newK, genR, appR, obl, buildR, Value.cells, closeK, keepH, outV, retK, ret1, retC, RetV, Option.getD, runD, stepD, afterK, undef, simprocAttr, sxB, ↓sxD, sxE, sxTab]))
        exact hK _ hM1
      · rw [if_neg h0] at hK
        have d2 : (dec N == []) = false := by
          have hne : dec N ≠ [] := fun e => by
            have := numB_dec N
            rw [e] at this
            exact h0 this.symm
          simpa using hne
        (replace hb0 := true_and True); refine Go1.mk ?_; repeat' ((first | (with_reducible refine Go1.go ?_) | ((with_reducible first | refine brv_mk ?_ ?_ | refine gsplitD ?_ ?_ | refine gsplitG ?_ ?_) <;> intro h <;> (try simp only [Bool.not_eq_true', Bool.not_eq_false'] at h) <;> replace hb0 := h) | (refine And.intro ?ob ?_; case ob => ((try simp only [sxO, ne_eq, maxLen] at *); omega)) | fail) <;> (try simp (config := { maxSteps := 1000000 }) only [hb0, d2, bs_mk, bs_app, bs_ext, bs_size, bs_toList, bs_at, bs_cells, List.take_length, imp_ga, guard_pk, guard_pk2, ↓hold_pre, awayP, runOps, regK, step1, newK, genR, appR, obl, buildR, Value.cells, closeK, keepH, outV, retK, ret1, retC, RetV, Option.getD, runD, stepD, afterK, undef, simprocAttr, sxB, ↓sxD, sxE, sxTab]))
        exact hK _ hM1
    have hl0 : 0 < (ofN n).length := by
      rcases Nat.eq_zero_or_pos (ofN n).length with h | h
      · exact absurd (ofN_nil.1 (List.length_eq_zero_iff.1 h)) hn
      · exact h
    have d1 : decide ((0 : Int) < (((ofN n).length : Nat) : Int)) = true := by rw [decide_eq_true_eq]; omega
    have hLb : L.length < 4096 := by
      have h3 : 2 ^ L.length ≤ 2 ^ L.length * n := Nat.le_mul_of_pos_right _ (by omega)
      rcases Nat.lt_or_ge L.length E with h | h
      · omega
      · have := Nat.pow_le_pow_right (n := 2) (by decide) h
        omega
    have hq := Nat.div_add_mod n 1000000000
    have hr : n % 1000000000 < 1000000000 := Nat.mod_lt _ (by decide)
    have hql := len_mono (Nat.div_le_self n 1000000000)
    have i9 : ((1000000000 : Nat) : Int) = 1000000000 := rfl
    (replace hb0 := true_and True); refine Go1.mk ?_; repeat' ((first | (with_reducible refine Go1.go ?_) | ((with_reducible first | refine brv_mk ?_ ?_ | refine gsplitD ?_ ?_ | refine gsplitG ?_ ?_) <;> intro h <;> (try simp only [Bool.not_eq_true', Bool.not_eq_false'] at h) <;> replace hb0 := h) | (refine And.intro ?ob ?_; case ob => ((try simp only [sxO, ne_eq, maxLen] at *); omega)) | fail) <;> (try simp (config := { maxSteps := 1000000 }) only [hb0, cE_ment, hasK_nil, cE_kill, cE_len, u32_one, u32_app1, u32_set, Nat.mul_one, fmSt, d1, hw.one, hw.len, hw.sl, bs_mk, bs_app, bs_ext, bs_size, bs_toList, bs_at, bs_cells, List.take_length, imp_ga, guard_pk, guard_pk2, ↓hold_pre, awayP, runOps, regK, step1, newK, genR, appR, obl, buildR, Value.cells, closeK, keepH, outV, retK, ret1, retC, RetV, Option.getD, runD, stepD, afterK, undef, simprocAttr, sxB, ↓sxD, sxE, sxTab]))
    refine callA_nil (f := 98) (by kernel_rfl) (small_ok w n 1000000000 hw (by omega) (by decide) (by decide) (fun w2 M2 g1 g2 g3 => ?_))
    have g1 : Mem.le M1 M2 := g1
    (replace hb0 := true_and True); refine Go1.mk ?_; repeat' ((first | (with_reducible refine Go1.go ?_) | ((with_reducible first | refine brv_mk ?_ ?_ | refine gsplitD ?_ ?_ | refine gsplitG ?_ ?_) <;> intro h <;> (try simp only [Bool.not_eq_true', Bool.not_eq_false'] at h) <;> replace hb0 := h) | (refine And.intro ?ob ?_; case ob => ((try simp only [sxO, ne_eq, maxLen] at *); omega)) | fail) <;> (try simp (config := { maxSteps := 1000000 }) only [hb0, cE_ment, hasK_nil, cE_kill, cE_len, u32_one, u32_app1, u32_set, Nat.mul_one, fmSt, g2.one, bs_mk, bs_app, bs_ext, bs_size, bs_toList, bs_at, bs_cells, List.take_length, imp_ga, guard_pk, guard_pk2, ↓hold_pre, awayP, runOps, regK, step1, newK, genR, appR, obl, buildR, Value.cells, closeK, keepH, outV, retK, ret1, retC, RetV, Option.getD, runD, stepD, afterK, undef, simprocAttr, sxB, ↓sxD, sxE, sxTab]))
    exact ⟨n / 1000000000, fmSt M2 w2 (L.length + 1) (L ++ [n % 1000000000]), by omega, le_sub ⟨rfl, rfl, trivial⟩ ⟨rfl, trivial⟩ rfl rfl rfl (keepLt0 _), M2, w2, _, L ++ [n % 1000000000], rfl, hM1.trans g1, g2, by omega, by
      rw [valG_app, List.length_append, List.length_singleton, Nat.pow_succ, ← hval]
      simp only [valG, Nat.mul_zero, Nat.add_zero]
      conv => rhs; rw [← hq]
      generalize n / 1000000000 = a
      generalize n % 1000000000 = b
      grind, fun x hx => by
      rcases List.mem_append.1 hx with h | h
      · exact hL x h
      · rw [List.mem_singleton.1 h]; exact hr, by
      rw [List.length_append, List.length_singleton, Nat.pow_succ, Nat.mul_assoc]
      exact Nat.le_trans (Nat.mul_le_mul_left _ (by omega)) h2, by simp; omega, by simp [fmSt]⟩
def snSt (M : Mem) (u1 u2 : Value) (i : Nat) : St := { env := [(5, .ext (.int .i64 (i : Int))), (1, .ext u2), (0, .ext u1)], hp := [], M := M, kb := 0, fx := [] }
theorem sameNat_ok (u1 u2 : Value) (l : List Nat) (h1 : IsL M u32V u1 l) (h2 : IsL M u32V u2 l) (hb : l.length < 1000000000) (hK : K (.ext (.bool true)) [] M) : CallS Tryd.prog 42 [.ext u1, .ext u2] [] M [] K := by
  refine inlS (cs := []) Tryd.mixed Tryd.func42 rfl (by kernel_rfl) 0 rfl rfl ?_
  simp only [Tryd.f42]
  have hl2 : decide ((l.length : Int) = (l.length : Int)) = true := by simp
  (replace hb0 := true_and True); refine Go1.mk ?_; repeat' ((first | (with_reducible refine Go1.go ?_) | ((with_reducible first | refine brv_mk ?_ ?_ | refine gsplitD ?_ ?_ | refine gsplitG ?_ ?_) <;> intro h <;> (try simp only [Bool.not_eq_true', Bool.not_eq_false'] at h) <;> replace hb0 := h) | ((with_reducible refine isDraw [some 17, some 18, some 19, some 20, some 21, some 22, some 23, some 24, some 25] (by decide) ?_); refine draw_rule [(0, []), (1, []), (2, []), (3, []), (4, [3]), (5, [3]), (6, [3]), (7, [3]), (8, [])] [[], [], [0, 1], [0, 1, 2], [], [], [4, 5], [4, 5, 6], [0, 1, 2, 3, 4, 5, 6, 7]] [17, 18, 19, 20, 21, 22, 23, 24] [] (by kernel_rfl) (by kernel_rfl) (by kernel_rfl) (by kernel_rfl) (by exact trivial) ?_) | (refine And.intro ?ob ?_; case ob => ((try simp only [sxO, ne_eq, maxLen] at *); omega)) | fail) <;> (try simp (config := { maxSteps := 1000000 }) only [hb0, h1.len, h1.sl, h2.len, h2.sl, hl2, ↓hold_pre, awayP, runOps, regK, step1, newK, genR, appR, obl, buildR, Value.cells, closeK, keepH, outV, retK, ret1, retC, RetV, Option.getD, runD, stepD, afterK, undef, simprocAttr, sxB, ↓sxD, sxE, sxTab]))
  refine ⟨fun m z => ∃ i, i ≤ l.length ∧ m = l.length - i ∧ z = snSt M u1 u2 i, ⟨l.length, snSt M u1 u2 0, le_sub ⟨rfl, rfl, rfl, trivial⟩ trivial rfl rfl rfl (keepLt0 _), ⟨0, by omega, rfl, rfl⟩⟩, ?_⟩
  rintro m z ⟨i, hi, rfl, rfl⟩
  by_cases hlt : i < l.length
  · have f1 := h1.idx (P := Tryd.prog) (T := 70) tk70 tz70 (by omega) hlt
    have f2 := h2.idx (P := Tryd.prog) (T := 70) tk70 tz70 (by omega) hlt
    have d1 : decide ((l[i] : Int) = (l[i] : Int)) = true := by simp
    (replace hb0 := true_and True); refine Go1.mk ?_; repeat' ((first | (with_reducible refine Go1.go ?_) | ((with_reducible first | refine brv_mk ?_ ?_ | refine gsplitD ?_ ?_ | refine gsplitG ?_ ?_) <;> intro h <;> (try simp only [Bool.not_eq_true', Bool.not_eq_false'] at h) <;> replace hb0 := h) | ((with_reducible refine isDraw [some 17, some 18, some 19, some 20, some 21, some 22, some 23, some 24, some 25] (by decide) ?_); refine draw_rule [(0, []), (1, []), (2, []), (3, []), (4, [3]), (5, [3]), (6, [3]), (7, [3]), (8, [])] [[], [], [0, 1], [0, 1, 2], [], [], [4, 5], [4, 5, 6], [0, 1, 2, 3, 4, 5, 6, 7]] [17, 18, 19, 20, 21, 22, 23, 24] [] (by kernel_rfl) (by kernel_rfl) (by kernel_rfl) (by kernel_rfl) (by exact trivial) ?_) | (refine And.intro ?ob ?_; case ob => ((try simp only [sxO, ne_eq, maxLen] at *); omega)) | fail) <;> (try simp (config := { maxSteps := 1000000 }) only [hb0, f1, f2, d1, u32V, snSt, ↓hold_pre, awayP, runOps, regK, step1, newK, genR, appR, obl, buildR, Value.cells, closeK, keepH, outV, retK, ret1, retC, RetV, Option.getD, runD, stepD, afterK, undef, simprocAttr, sxB, ↓sxD, sxE, sxTab]))
    exact ⟨l.length - (i + 1), snSt M u1 u2 (i + 1), by omega, le_sub ⟨rfl, rfl, rfl, trivial⟩ trivial rfl rfl rfl (keepLt0 _), i + 1, by omega, rfl, rfl⟩
  · have f1 := h1.fin hlt
    obtain rfl : i = l.length := by omega
    (replace hb0 := true_and True); refine Go1.mk ?_; repeat' ((first | (with_reducible refine Go1.go ?_) | ((with_reducible first | refine brv_mk ?_ ?_ | refine gsplitD ?_ ?_ | refine gsplitG ?_ ?_) <;> intro h <;> (try simp only [Bool.not_eq_true', Bool.not_eq_false'] at h) <;> replace hb0 := h) | ((with_reducible refine isDraw [some 17, some 18, some 19, some 20, some 21, some 22, some 23, some 24, some 25] (by decide) ?_); refine draw_rule [(0, []), (1, []), (2, []), (3, []), (4, [3]), (5, [3]), (6, [3]), (7, [3]), (8, [])] [[], [], [0, 1], [0, 1, 2], [], [], [4, 5], [4, 5, 6], [0, 1, 2, 3, 4, 5, 6, 7]] [17, 18, 19, 20, 21, 22, 23, 24] [] (by kernel_rfl) (by kernel_rfl) (by kernel_rfl) (by kernel_rfl) (by exact trivial) ?_) | (refine And.intro ?ob ?_; case ob => ((try simp only [sxO, ne_eq, maxLen] at *); omega)) | fail) <;> (try simp (config := { maxSteps := 1000000 }) only [hb0, f1, snSt, ↓hold_pre, awayP, runOps, regK, step1, newK, genR, appR, obl, buildR, Value.cells, closeK, keepH, outV, retK, ret1, retC, RetV, Option.getD, runD, stepD, afterK, undef, simprocAttr, sxB, ↓sxD, sxE, sxTab]))
    exact hK
end
end Go.Proofs.YtamghpnjdohnjaaDoor.Sx
namespace Go.Proofs.YtamghpnjdohnjaaDoor.Sx
open Go Go.RowKit
set_option linter.unusedVariables false
set_option linter.unusedSimpArgs false
set_option maxRecDepth 100000
set_option maxHeartbeats 8000000
attribute [local congr] fin_congr finG_congr stepG_congr step1_congr runOps_congr brv_congr obl_congr condK_congr LoopK_congr seqK_congr CutK_congr vc_congr DrawK_congr regK_congr CallK_congr AskK_congr newK_congr retC_congr ret1_congr retK_congr outV_congr closeK_congr genR_congr appR_congr finD_congr finGD_congr stepGD_congr stepD_congr CallK0_congr runD_congr okR_congr CallS_congr vcX_congr
attribute [local congr] Stop_congr
def exF (n d : Nat) : Int × Nat × Nat := if (ofN (n / Nat.gcd n d)).length ≤ 128 ∧ (ofN (d / Nat.gcd n d)).length ≤ 128 then (0, n / Nat.gcd n d, d / Nat.gcd n d) else (2, 0, 0)
def makF (a b : List Nat) : Int × Nat × Nat := if chkN a && chkN b then (if valN b = 0 then (4, 0, 0) else exF (valN a) (valN b)) else (1, 0, 0)
def ofF (a b : Int) : Int × Nat × Nat := if a < 0 ∨ b < 0 then (5, 0, 0) else makF (ofN a.toNat) (ofN b.toNat)
def chkF (a b : List Nat) : Bool := chkN a && chkN b && !decide (valN b = 0) && (Nat.gcd (valN a) (valN b) == 1)
theorem exF_is {n d : Nat} (h1 : (ofN n).length ≤ 128) (h2 : (ofN d).length ≤ 128) : exF n d = (0, n / Nat.gcd n d, d / Nat.gcd n d) := by
  unfold exF
  have := len_mono (Nat.div_le_self n (Nat.gcd n d))
  have := len_mono (Nat.div_le_self d (Nat.gcd n d))
  rw [if_pos ⟨by omega, by omega⟩]
theorem chkF_ok {a b : List Nat} (ha : okN a) (hb : okN b) (h : chkF a b = true) : a = ofN (valN a) ∧ b = ofN (valN b) ∧ a.length ≤ 128 ∧ b.length ≤ 128 ∧ 0 < valN b ∧ Nat.gcd (valN a) (valN b) = 1 := by
  unfold chkF at h
  simp only [Bool.and_eq_true, Bool.not_eq_true', decide_eq_false_iff_not, beq_iff_eq] at h
  obtain ⟨⟨⟨h1, h2⟩, h3⟩, h4⟩ := h
  obtain ⟨e1, b1⟩ := chkN_ok ha h1
  obtain ⟨e2, b2⟩ := chkN_ok hb h2
  exact ⟨e1, e2, b1, b2, by omega, h4⟩
theorem nil_iff {l : List Nat} (h : l = ofN (valN l)) : l.length = 0 ↔ valN l = 0 := by
  constructor
  · intro h0
    rw [List.length_eq_zero_iff.1 h0]; rfl
  · intro h0
    rw [h, h0, ofN_zero]; rfl
def FracK (M : Mem) (K : AV → Hp → Mem → Prop) (r : Int × Nat × Nat) : Prop := ∀ w1 w2 M', Mem.le M M' → IsL M' u32V w1 (ofN r.2.1) → IsL M' u32V w2 (ofN r.2.2) → FreshS M w1 → FreshS M w2 → K (.ext (.tuple #[.agg #[w1, w2], .int .i64 r.1])) [] M'
section
variable {M : Mem} {K : AV → Hp → Mem → Prop} {u1 u2 : Value} {l1 l2 : List Nat}
theorem FracK.err {M' : Mem} (e : Int) (h : FracK M K (e, 0, 0)) (hM : Mem.le M M') : K (.ext (.tuple #[.agg #[.slice none 0 0, .slice none 0 0], .int .i64 e])) [] M' := h _ _ _ hM (by rw [ofN_zero]; exact isL_nil _ _ _) (by rw [ofN_zero]; exact isL_nil _ _ _) (freshS_nil _ _) (freshS_nil _ _)
theorem FracK.from {M' : Mem} {r : Int × Nat × Nat} (h : FracK M K r) (hM : Mem.le M M') : FracK M' K r := fun w1 w2 M2 a1 a2 a3 a4 a5 => h w1 w2 M2 (hM.trans a1) a2 a3 (a4.le hM) (a5.le hM)
theorem exact_ok (u v : Value) (n d : Nat) (hu : IsL M u32V u (ofN n)) (hv : IsL M u32V v (ofN d)) (hn : (ofN n).length < 1000000) (hd : (ofN d).length < 1000000) (hd0 : 0 < d) (hK : FracK M K (exF n d)) : CallS Tryd.prog 51 [.ext u, .ext v] [] M [] K := by
  refine inlS (cs := []) Tryd.mixed Tryd.func51 rfl (by kernel_rfl) 0 rfl rfl ?_
  simp only [Tryd.f51]
  unfold exF at hK
  have hg0 : 0 < Nat.gcd n d := Nat.gcd_pos_of_pos_right _ hd0
  have hgl := len_mono (Nat.gcd_le_right n hd0)
  have hn2 := len_mono (Nat.div_le_self n (Nat.gcd n d))
  have hd2 := len_mono (Nat.div_le_self d (Nat.gcd n d))
  (replace hb0 := true_and True); refine Go1.mk ?_; repeat' ((first | (with_reducible refine Go1.go ?_) | ((with_reducible first | refine brv_mk ?_ ?_ | refine gsplitD ?_ ?_ | refine gsplitG ?_ ?_) <;> intro h <;> (try simp only [Bool.not_eq_true', Bool.not_eq_false'] at h) <;> replace hb0 := h) | ((first | (with_reducible refine isCall (f := 56) ?_; refine callA_nil (by kernel_rfl) ?_) | (with_reducible refine isCall0 (f := 56) ?_; refine callA0_nil (by kernel_rfl) ?_)); refine (gcd_ok u v n d hu hv (by omega) (by omega) (fun g M1 a1 a2 a3 => Stop.mk ?_))) | (refine And.intro ?ob ?_; case ob => ((try simp only [sxO, ne_eq, maxLen] at *); omega)) | fail) <;> (try simp (config := { maxSteps := 1000000 }) only [hb0, hu.one, hv.one, ↓hold_pre, awayP, runOps, regK, step1, newK, genR, appR, obl, buildR, Value.cells, closeK, keepH, outV, retK, ret1, retC, RetV, Option.getD, runD, stepD, afterK, undef, simprocAttr, sxB, ↓sxD, sxE, sxTab]))
  have a1 : Mem.le M M1 := a1
  generalize Nat.gcd n d = gg at *
  have hu1 := hu.le a1
  have hv1 := hv.le a1
  refine Stop.go ?_
  (replace hb0 := true_and True); refine Go1.mk ?_; repeat' ((first | (with_reducible refine Go1.go ?_) | ((with_reducible first | refine brv_mk ?_ ?_ | refine gsplitD ?_ ?_ | refine gsplitG ?_ ?_) <;> intro h <;> (try simp only [Bool.not_eq_true', Bool.not_eq_false'] at h) <;> replace hb0 := h) | ((first | (with_reducible refine isCall (f := 77) ?_; refine callA_nil (by kernel_rfl) ?_) | (with_reducible refine isCall0 (f := 77) ?_; refine callA0_nil (by kernel_rfl) ?_)); refine (divide_ok u g n gg hu1 a2 (by omega) (by omega) hg0 (fun q1 r1 M2 b1 b2 b3 b4 b5 => Stop.mk ?_))) | (refine And.intro ?ob ?_; case ob => ((try simp only [sxO, ne_eq, maxLen] at *); omega)) | fail) <;> (try simp (config := { maxSteps := 1000000 }) only [hb0, hu1.one, hv1.one, a2.one, ↓hold_pre, awayP, runOps, regK, step1, newK, genR, appR, obl, buildR, Value.cells, closeK, keepH, outV, retK, ret1, retC, RetV, Option.getD, runD, stepD, afterK, undef, simprocAttr, sxB, ↓sxD, sxE, sxTab]))
  have b1 : Mem.le M1 M2 := b1
  have hv2 := hv1.le b1
  have a2' := a2.le b1
  refine Stop.go ?_
  (replace hb0 := true_and True); refine Go1.mk ?_; repeat' ((first | (with_reducible refine Go1.go ?_) | ((with_reducible first | refine brv_mk ?_ ?_ | refine gsplitD ?_ ?_ | refine gsplitG ?_ ?_) <;> intro h <;> (try simp only [Bool.not_eq_true', Bool.not_eq_false'] at h) <;> replace hb0 := h) | ((first | (with_reducible refine isCall (f := 77) ?_; refine callA_nil (by kernel_rfl) ?_) | (with_reducible refine isCall0 (f := 77) ?_; refine callA0_nil (by kernel_rfl) ?_)); refine (divide_ok v g d gg hv2 a2' (by omega) (by omega) hg0 (fun q2 r2 M3 c1 c2 c3 c4 c5 => Stop.mk ?_))) | (refine And.intro ?ob ?_; case ob => ((try simp only [sxO, ne_eq, maxLen] at *); omega)) | fail) <;> (try simp (config := { maxSteps := 1000000 }) only [hb0, hv2.one, a2'.one, b2.one, b3.one, ↓hold_pre, awayP, runOps, regK, step1, newK, genR, appR, obl, buildR, Value.cells, closeK, keepH, outV, retK, ret1, retC, RetV, Option.getD, runD, stepD, afterK, undef, simprocAttr, sxB, ↓sxD, sxE, sxTab]))
  have c1 : Mem.le M2 M3 := c1
  have b2' := b2.le c1
  have b3' := b3.le c1
  have hM := (a1.trans b1).trans c1
  refine Stop.go ?_
  by_cases h1 : (ofN (n / gg)).length ≤ 128
  · have d1 : decide ((128 : Int) < ((ofN (n / gg)).length : Int)) = false := by rw [decide_eq_false_iff_not]; omega
    by_cases h2 : (ofN (d / gg)).length ≤ 128
    · have d2 : decide ((128 : Int) < ((ofN (d / gg)).length : Int)) = false := by rw [decide_eq_false_iff_not]; omega
      rw [if_pos ⟨h1, h2⟩] at hK
      (replace hb0 := true_and True); refine Go1.mk ?_; repeat' ((first | (with_reducible refine Go1.go ?_) | ((with_reducible first | refine brv_mk ?_ ?_ | refine gsplitD ?_ ?_ | refine gsplitG ?_ ?_) <;> intro h <;> (try simp only [Bool.not_eq_true', Bool.not_eq_false'] at h) <;> replace hb0 := h) | (refine And.intro ?ob ?_; case ob => ((try simp only [sxO, ne_eq, maxLen] at *); omega)) | fail) <;> (try simp (config := { maxSteps := 1000000 }) only [hb0, b2'.one, b2'.len, b2'.sl, b3'.one, c2.one, c2.len, c2.sl, c3.one, d1, d2, ↓hold_pre, awayP, runOps, regK, step1, newK, genR, appR, obl, buildR, Value.cells, closeK, keepH, outV, retK, ret1, retC, RetV, Option.getD, runD, stepD, afterK, undef, simprocAttr, sxB, ↓sxD, sxE, sxTab]))
      exact hK _ _ _ hM b2' c2 (b4.le a1) (c4.le (a1.trans b1))
    · have d2 : decide ((128 : Int) < ((ofN (d / gg)).length : Int)) = true := by rw [decide_eq_true_eq]; omega
      rw [if_neg (fun h => h2 h.2)] at hK
      (replace hb0 := true_and True); refine Go1.mk ?_; repeat' ((first | (with_reducible refine Go1.go ?_) | ((with_reducible first | refine brv_mk ?_ ?_ | refine gsplitD ?_ ?_ | refine gsplitG ?_ ?_) <;> intro h <;> (try simp only [Bool.not_eq_true', Bool.not_eq_false'] at h) <;> replace hb0 := h) | (refine And.intro ?ob ?_; case ob => ((try simp only [sxO, ne_eq, maxLen] at *); omega)) | fail) <;> (try simp (config := { maxSteps := 1000000 }) only [hb0, b2'.one, b2'.len, b2'.sl, b3'.one, c2.one, c2.len, c2.sl, c3.one, d1, d2, ↓hold_pre, awayP, runOps, regK, step1, newK, genR, appR, obl, buildR, Value.cells, closeK, keepH, outV, retK, ret1, retC, RetV, Option.getD, runD, stepD, afterK, undef, simprocAttr, sxB, ↓sxD, sxE, sxTab]))
      exact hK.err _ hM
  · have d1 : decide ((128 : Int) < ((ofN (n / gg)).length : Int)) = true := by rw [decide_eq_true_eq]; omega
    rw [if_neg (fun h => h1 h.1)] at hK
    (replace hb0 := true_and True); refine Go1.mk ?_; repeat' ((first | (with_reducible refine Go1.go ?_) | ((with_reducible first | refine brv_mk ?_ ?_ | refine gsplitD ?_ ?_ | refine gsplitG ?_ ?_) <;> intro h <;> (try simp only [Bool.not_eq_true', Bool.not_eq_false'] at h) <;> replace hb0 := h) | (refine And.intro ?ob ?_; case ob => ((try simp only [sxO, ne_eq, maxLen] at *); omega)) | fail) <;> (try simp (config := { maxSteps := 1000000 }) only [hb0, b2'.one, b2'.len, b2'.sl, b3'.one, c2.one, c2.len, c2.sl, c3.one, d1, ↓hold_pre, awayP, runOps, regK, step1, newK, genR, appR, obl, buildR, Value.cells, closeK, keepH, outV, retK, ret1, retC, RetV, Option.getD, runD, stepD, afterK, undef, simprocAttr, sxB, ↓sxD, sxE, sxTab]))
    exact hK.err _ hM
theorem fmake_ok (h1 : IsL M u32V u1 l1) (h2 : IsL M u32V u2 l2) (o1 : okN l1) (o2 : okN l2) (b1 : l1.length < 1000000) (b2 : l2.length < 1000000) (hK : FracK M K (makF l1 l2)) : CallS Tryd.prog 10 [.ext u1, .ext u2] [] M [] K := by
  refine inlS (cs := []) Tryd.mixed Tryd.func10 rfl (by kernel_rfl) 0 rfl rfl ?_
  simp only [Tryd.f10]
  unfold makF at hK
  cases hc1 : chkN l1 with
  | false =>
    rw [hc1] at hK
    (replace hb0 := true_and True); refine Go1.mk ?_; repeat' ((first | (with_reducible refine Go1.go ?_) | ((with_reducible first | refine brv_mk ?_ ?_ | refine gsplitD ?_ ?_ | refine gsplitG ?_ ?_) <;> intro h <;> (try simp only [Bool.not_eq_true', Bool.not_eq_false'] at h) <;> replace hb0 := h) | ((first | (with_reducible refine isCall (f := 50) ?_; refine callA_nil (by kernel_rfl) ?_) | (with_reducible refine isCall0 (f := 50) ?_; refine callA0_nil (by kernel_rfl) ?_)); refine (check_ok u1 l1 h1 (by omega) ?_)) | (refine And.intro ?ob ?_; case ob => ((try simp only [sxO, ne_eq, maxLen] at *); omega)) | fail) <;> (try simp (config := { maxSteps := 1000000 }) only [hb0, h1.one, h2.one, hc1, ↓hold_pre, awayP, runOps, regK, step1, newK, genR, appR, obl, buildR, Value.cells, closeK, keepH, outV, retK, ret1, retC, RetV, Option.getD, runD, stepD, afterK, undef, simprocAttr, sxB, ↓sxD, sxE, sxTab]))
    exact hK.err _ (Mem.le.refl _)
  | true =>
    cases hc2 : chkN l2 with
    | false =>
      rw [hc1, hc2] at hK
      (replace hb0 := true_and True); refine Go1.mk ?_; repeat' ((first | (with_reducible refine Go1.go ?_) | ((with_reducible first | refine brv_mk ?_ ?_ | refine gsplitD ?_ ?_ | refine gsplitG ?_ ?_) <;> intro h <;> (try simp only [Bool.not_eq_true', Bool.not_eq_false'] at h) <;> replace hb0 := h) | ((first | (with_reducible refine isCall (f := 50) ?_; refine callA_nil (by kernel_rfl) ?_) | (with_reducible refine isCall0 (f := 50) ?_; refine callA0_nil (by kernel_rfl) ?_)); refine (check_ok u1 l1 h1 (by omega) ?_)) | ((first | (with_reducible refine isCall (f := 50) ?_; refine callA_nil (by kernel_rfl) ?_) | (with_reducible refine isCall0 (f := 50) ?_; refine callA0_nil (by kernel_rfl) ?_)); refine (check_ok u2 l2 h2 (by omega) ?_)) | (refine And.intro ?ob ?_; case ob => ((try simp only [sxO, ne_eq, maxLen] at *); omega)) | fail) <;> (try simp (config := { maxSteps := 1000000 }) only [hb0, h1.one, h2.one, hc1, hc2, ↓hold_pre, awayP, runOps, regK, step1, newK, genR, appR, obl, buildR, Value.cells, closeK, keepH, outV, retK, ret1, retC, RetV, Option.getD, runD, stepD, afterK, undef, simprocAttr, sxB, ↓sxD, sxE, sxTab]))
      exact hK.err _ (Mem.le.refl _)
    | true =>
      rw [hc1, hc2, Bool.and_self, if_pos rfl] at hK
      obtain ⟨e1, _⟩ := chkN_ok o1 hc1
      obtain ⟨e2, _⟩ := chkN_ok o2 hc2
      have h1' := h1
      have h2' := h2
      rw [e1] at h1'
      rw [e2] at h2'
      have hz := nil_iff e2
      by_cases h0 : valN l2 = 0
      · rw [if_pos h0] at hK
        have d1 : decide ((l2.length : Int) = 0) = true := by rw [decide_eq_true_eq]; have := hz.2 h0; omega
        (replace hb0 := true_and True); refine Go1.mk ?_; repeat' ((first | (with_reducible refine Go1.go ?_) | ((with_reducible first | refine brv_mk ?_ ?_ | refine gsplitD ?_ ?_ | refine gsplitG ?_ ?_) <;> intro h <;> (try simp only [Bool.not_eq_true', Bool.not_eq_false'] at h) <;> replace hb0 := h) | ((first | (with_reducible refine isCall (f := 50) ?_; refine callA_nil (by kernel_rfl) ?_) | (with_reducible refine isCall0 (f := 50) ?_; refine callA0_nil (by kernel_rfl) ?_)); refine (check_ok u1 l1 h1 (by omega) ?_)) | ((first | (with_reducible refine isCall (f := 50) ?_; refine callA_nil (by kernel_rfl) ?_) | (with_reducible refine isCall0 (f := 50) ?_; refine callA0_nil (by kernel_rfl) ?_)); refine (check_ok u2 l2 h2 (by omega) ?_)) | (refine And.intro ?ob ?_; case ob => ((try simp only [sxO, ne_eq, maxLen] at *); omega)) | fail) <;> (try simp (config := { maxSteps := 1000000 }) only [hb0, h1.one, h2.one, h2.len, h2.sl, hc1, hc2, d1, ↓hold_pre, awayP, runOps, regK, step1, newK, genR, appR, obl, buildR, Value.cells, closeK, keepH, outV, retK, ret1, retC, RetV, Option.getD, runD, stepD, afterK, undef, simprocAttr, sxB, ↓sxD, sxE, sxTab]))
        exact hK.err _ (Mem.le.refl _)
      · rw [if_neg h0] at hK
        have d1 : decide ((l2.length : Int) = 0) = false := by rw [decide_eq_false_iff_not]; have := fun h => h0 (hz.1 h); omega
        (replace hb0 := true_and True); refine Go1.mk ?_; repeat' ((first | (with_reducible refine Go1.go ?_) | ((with_reducible first | refine brv_mk ?_ ?_ | refine gsplitD ?_ ?_ | refine gsplitG ?_ ?_) <;> intro h <;> (try simp only [Bool.not_eq_true', Bool.not_eq_false'] at h) <;> replace hb0 := h) | ((first | (with_reducible refine isCall (f := 50) ?_; refine callA_nil (by kernel_rfl) ?_) | (with_reducible refine isCall0 (f := 50) ?_; refine callA0_nil (by kernel_rfl) ?_)); refine (check_ok u1 l1 h1 (by omega) ?_)) | ((first | (with_reducible refine isCall (f := 50) ?_; refine callA_nil (by kernel_rfl) ?_) | (with_reducible refine isCall0 (f := 50) ?_; refine callA0_nil (by kernel_rfl) ?_)); refine (check_ok u2 l2 h2 (by omega) ?_)) | ((first | (with_reducible refine isCall (f := 51) ?_; refine callA_nil (by kernel_rfl) ?_) | (with_reducible refine isCall0 (f := 51) ?_; refine callA0_nil (by kernel_rfl) ?_)); refine (exact_ok u1 u2 _ _ h1' h2' (by rw [← e1]; omega) (by rw [← e2]; omega) (by omega) (fun w1 w2 M1 a1 a2 a3 a4 a5 => Stop.mk ?_))) | (refine And.intro ?ob ?_; case ob => ((try simp only [sxO, ne_eq, maxLen] at *); omega)) | fail) <;> (try simp (config := { maxSteps := 1000000 }) only [hb0, h1.one, h2.one, h2.len, h2.sl, hc1, hc2, d1, ↓hold_pre, awayP, runOps, regK, step1, newK, genR, appR, obl, buildR, Value.cells, closeK, keepH, outV, retK, ret1, retC, RetV, Option.getD, runD, stepD, afterK, undef, simprocAttr, sxB, ↓sxD, sxE, sxTab]))
        refine Stop.go ?_
        (replace hb0 := true_and True); refine Go1.mk ?_; repeat' ((first | (with_reducible refine Go1.go ?_) | ((with_reducible first | refine brv_mk ?_ ?_ | refine gsplitD ?_ ?_ | refine gsplitG ?_ ?_) <;> intro h <;> (try simp only [Bool.not_eq_true', Bool.not_eq_false'] at h) <;> replace hb0 := h) | (refine And.intro ?ob ?_; case ob => ((try simp only [sxO, ne_eq, maxLen] at *); omega)) | fail) <;> (try simp (config := { maxSteps := 1000000 }) only [hb0, a2.one, a3.one, ↓hold_pre, awayP, runOps, regK, step1, newK, genR, appR, obl, buildR, Value.cells, closeK, keepH, outV, retK, ret1, retC, RetV, Option.getD, runD, stepD, afterK, undef, simprocAttr, sxB, ↓sxD, sxE, sxTab]))
        exact hK _ _ _ a1 a2 a3 a4 a5
theorem fof_ok (a b : Int) (ha : -9223372036854775808 ≤ a) (ha2 : a ≤ 9223372036854775807) (hb : -9223372036854775808 ≤ b) (hb2 : b ≤ 9223372036854775807) (hK : FracK M K (ofF a b)) : CallS Tryd.prog 13 [.ext (.int .i64 a), .ext (.int .i64 b)] [] M [] K := by
  refine inlS (cs := []) Tryd.mixed Tryd.func13 rfl (by kernel_rfl) 0 rfl rfl ?_
  simp only [Tryd.f13]
  unfold ofF at hK
  by_cases h1 : a < 0
  · have d1 : decide (a < 0) = true := by rw [decide_eq_true_eq]; exact h1
    rw [if_pos (.inl h1)] at hK
    (replace hb0 := true_and True); refine Go1.mk ?_; repeat' ((first | (with_reducible refine Go1.go ?_) | ((with_reducible first | refine brv_mk ?_ ?_ | refine gsplitD ?_ ?_ | refine gsplitG ?_ ?_) <;> intro h <;> (try simp only [Bool.not_eq_true', Bool.not_eq_false'] at h) <;> replace hb0 := h) | (refine And.intro ?ob ?_; case ob => ((try simp only [sxO, ne_eq, maxLen] at *); omega)) | fail) <;> (try simp (config := { maxSteps := 1000000 }) only [hb0, d1, ↓hold_pre, awayP, runOps, regK, step1, newK, genR, appR, obl, buildR, Value.cells, closeK, keepH, outV, retK, ret1, retC, RetV, Option.getD, runD, stepD, afterK, undef, simprocAttr, sxB, ↓sxD, sxE, sxTab]))
    exact hK.err _ (Mem.le.refl _)
  have d1 : decide (a < 0) = false := by rw [decide_eq_false_iff_not]; exact h1
  by_cases h2 : b < 0
  · have d2 : decide (b < 0) = true := by rw [decide_eq_true_eq]; exact h2
    rw [if_pos (.inr h2)] at hK
    (replace hb0 := true_and True); refine Go1.mk ?_; repeat' ((first | (with_reducible refine Go1.go ?_) | ((with_reducible first | refine brv_mk ?_ ?_ | refine gsplitD ?_ ?_ | refine gsplitG ?_ ?_) <;> intro h <;> (try simp only [Bool.not_eq_true', Bool.not_eq_false'] at h) <;> replace hb0 := h) | (refine And.intro ?ob ?_; case ob => ((try simp only [sxO, ne_eq, maxLen] at *); omega)) | fail) <;> (try simp (config := { maxSteps := 1000000 }) only [hb0, d1, d2, ↓hold_pre, awayP, runOps, regK, step1, newK, genR, appR, obl, buildR, Value.cells, closeK, keepH, outV, retK, ret1, retC, RetV, Option.getD, runD, stepD, afterK, undef, simprocAttr, sxB, ↓sxD, sxE, sxTab]))
    exact hK.err _ (Mem.le.refl _)
  have d2 : decide (b < 0) = false := by rw [decide_eq_false_iff_not]; exact h2
  rw [if_neg (by omega)] at hK
  obtain ⟨x, rfl⟩ := Int.eq_ofNat_of_zero_le (show 0 ≤ a by omega)
  obtain ⟨y, rfl⟩ := Int.eq_ofNat_of_zero_le (show 0 ≤ b by omega)
  have wx : IntKind.u64.wrap (x : Int) = (x : Int) := wrap64_id (by omega)
  have wy : IntKind.u64.wrap (y : Int) = (y : Int) := wrap64_id (by omega)
  have hxl : (ofN x).length ≤ 2 := ofN_len_le (by rw [show wN 2 = 18446744073709551616 from rfl]; omega)
  have hyl : (ofN y).length ≤ 2 := ofN_len_le (by rw [show wN 2 = 18446744073709551616 from rfl]; omega)
  rw [Int.toNat_natCast, Int.toNat_natCast] at hK
  (replace hb0 := true_and True); refine Go1.mk ?_; repeat' ((first | (with_reducible refine Go1.go ?_) | ((with_reducible first | refine brv_mk ?_ ?_ | refine gsplitD ?_ ?_ | refine gsplitG ?_ ?_) <;> intro h <;> (try simp only [Bool.not_eq_true', Bool.not_eq_false'] at h) <;> replace hb0 := h) | ((first | (with_reducible refine isCall (f := 54) ?_; refine callA_nil (by kernel_rfl) ?_) | (with_reducible refine isCall0 (f := 54) ?_; refine callA0_nil (by kernel_rfl) ?_)); refine (natOf_ok x (by omega) (fun w1 M1 a1 a2 a3 => Stop.mk ?_))) | (refine And.intro ?ob ?_; case ob => ((try simp only [sxO, ne_eq, maxLen] at *); omega)) | fail) <;> (try simp (config := { maxSteps := 1000000 }) only [hb0, d1, d2, wx, wy, ↓hold_pre, awayP, runOps, regK, step1, newK, genR, appR, obl, buildR, Value.cells, closeK, keepH, outV, retK, ret1, retC, RetV, Option.getD, runD, stepD, afterK, undef, simprocAttr, sxB, ↓sxD, sxE, sxTab]))
  have a1 : Mem.le M M1 := a1
  refine Stop.go ?_
  (replace hb0 := true_and True); refine Go1.mk ?_; repeat' ((first | (with_reducible refine Go1.go ?_) | ((with_reducible first | refine brv_mk ?_ ?_ | refine gsplitD ?_ ?_ | refine gsplitG ?_ ?_) <;> intro h <;> (try simp only [Bool.not_eq_true', Bool.not_eq_false'] at h) <;> replace hb0 := h) | ((first | (with_reducible refine isCall (f := 54) ?_; refine callA_nil (by kernel_rfl) ?_) | (with_reducible refine isCall0 (f := 54) ?_; refine callA0_nil (by kernel_rfl) ?_)); refine (natOf_ok y (by omega) (fun w2 M2 b1 b2 b3 => Stop.mk ?_))) | (refine And.intro ?ob ?_; case ob => ((try simp only [sxO, ne_eq, maxLen] at *); omega)) | fail) <;> (try simp (config := { maxSteps := 1000000 }) only [hb0, a2.one, wy, ↓hold_pre, awayP, runOps, regK, step1, newK, genR, appR, obl, buildR, Value.cells, closeK, keepH, outV, retK, ret1, retC, RetV, Option.getD, runD, stepD, afterK, undef, simprocAttr, sxB, ↓sxD, sxE, sxTab]))
  have b1 : Mem.le M1 M2 := b1
  have a2' := a2.le b1
  refine Stop.go ?_
  (replace hb0 := true_and True); refine Go1.mk ?_; repeat' ((first | (with_reducible refine Go1.go ?_) | ((with_reducible first | refine brv_mk ?_ ?_ | refine gsplitD ?_ ?_ | refine gsplitG ?_ ?_) <;> intro h <;> (try simp only [Bool.not_eq_true', Bool.not_eq_false'] at h) <;> replace hb0 := h) | ((first | (with_reducible refine isCall (f := 10) ?_; refine callA_nil (by kernel_rfl) ?_) | (with_reducible refine isCall0 (f := 10) ?_; refine callA0_nil (by kernel_rfl) ?_)); refine (fmake_ok a2' b2 (okN_ofN _) (okN_ofN _) (by omega) (by omega) (fun w3 w4 M3 c1 c2 c3 c4 c5 => Stop.mk ?_))) | (refine And.intro ?ob ?_; case ob => ((try simp only [sxO, ne_eq, maxLen] at *); omega)) | fail) <;> (try simp (config := { maxSteps := 1000000 }) only [hb0, a2'.one, b2.one, ↓hold_pre, awayP, runOps, regK, step1, newK, genR, appR, obl, buildR, Value.cells, closeK, keepH, outV, retK, ret1, retC, RetV, Option.getD, runD, stepD, afterK, undef, simprocAttr, sxB, ↓sxD, sxE, sxTab]))
  have c1 : Mem.le M2 M3 := c1
  refine Stop.go ?_
  (replace hb0 := true_and True); refine Go1.mk ?_; repeat' ((first | (with_reducible refine Go1.go ?_) | ((with_reducible first | refine brv_mk ?_ ?_ | refine gsplitD ?_ ?_ | refine gsplitG ?_ ?_) <;> intro h <;> (try simp only [Bool.not_eq_true', Bool.not_eq_false'] at h) <;> replace hb0 := h) | (refine And.intro ?ob ?_; case ob => ((try simp only [sxO, ne_eq, maxLen] at *); omega)) | fail) <;> (try simp (config := { maxSteps := 1000000 }) only [hb0, c2.one, c3.one, ↓hold_pre, awayP, runOps, regK, step1, newK, genR, appR, obl, buildR, Value.cells, closeK, keepH, outV, retK, ret1, retC, RetV, Option.getD, runD, stepD, afterK, undef, simprocAttr, sxB, ↓sxD, sxE, sxTab]))
  exact hK _ _ _ ((a1.trans b1).trans c1) c2 c3 (c4.le (a1.trans b1)) (c5.le (a1.trans b1))
theorem one_iff (g : Nat) : (g = 1) ↔ ((ofN g).length = 1 ∧ (ofN g).getD 0 0 = 1) := by
  constructor
  · rintro rfl
    have : ofN 1 = [1] := by rw [ofN_pos (by decide), show 1 / 4294967296 = 0 from rfl, ofN_zero]
    rw [this]; simp
  · rintro ⟨h1, h2⟩
    have := valN_ofN g
    generalize ofN g = l at *
    match l, h1 with
    | [a], _ => simp [valN] at this h2; omega
theorem fcheck_ok (h1 : IsL M u32V u1 l1) (h2 : IsL M u32V u2 l2) (o1 : okN l1) (o2 : okN l2) (b1 : l1.length < 1000000) (b2 : l2.length < 1000000) (hK : ∀ M', Mem.le M M' → K (.ext (.bool (chkF l1 l2))) [] M') : CallS Tryd.prog 16 [.ext (.agg #[u1, u2])] [] M [] K := by
  refine inlS (cs := []) Tryd.mixed Tryd.func16 rfl (by kernel_rfl) 0 rfl rfl ?_
  simp only [Tryd.f16]
  unfold chkF at hK
  cases hc1 : chkN l1 with
  | false =>
    rw [hc1] at hK
    (replace hb0 := true_and True); refine Go1.mk ?_; repeat' ((first | (with_reducible refine Go1.go ?_) | ((with_reducible first | refine brv_mk ?_ ?_ | refine gsplitD ?_ ?_ | refine gsplitG ?_ ?_) <;> intro h <;> (try simp only [Bool.not_eq_true', Bool.not_eq_false'] at h) <;> replace hb0 := h) | ((first | (with_reducible refine isCall (f := 50) ?_; refine callA_nil (by kernel_rfl) ?_) | (with_reducible refine isCall0 (f := 50) ?_; refine callA0_nil (by kernel_rfl) ?_)); refine (check_ok u1 l1 h1 (by omega) ?_)) | (refine And.intro ?ob ?_; case ob => ((try simp only [sxO, ne_eq, maxLen] at *); omega)) | fail) <;> (try simp (config := { maxSteps := 1000000 }) only [hb0, h1.one, h2.one, hc1, ↓hold_pre, awayP, runOps, regK, step1, newK, genR, appR, obl, buildR, Value.cells, closeK, keepH, outV, retK, ret1, retC, RetV, Option.getD, runD, stepD, afterK, undef, simprocAttr, sxB, ↓sxD, sxE, sxTab]))
    exact hK _ (Mem.le.refl _)
  | true =>
    cases hc2 : chkN l2 with
    | false =>
      rw [hc1, hc2] at hK
      (replace hb0 := true_and True); refine Go1.mk ?_; repeat' ((first | (with_reducible refine Go1.go ?_) | ((with_reducible first | refine brv_mk ?_ ?_ | refine gsplitD ?_ ?_ | refine gsplitG ?_ ?_) <;> intro h <;> (try simp only [Bool.not_eq_true', Bool.not_eq_false'] at h) <;> replace hb0 := h) | ((first | (with_reducible refine isCall (f := 50) ?_; refine callA_nil (by kernel_rfl) ?_) | (with_reducible refine isCall0 (f := 50) ?_; refine callA0_nil (by kernel_rfl) ?_)); refine (check_ok u1 l1 h1 (by omega) ?_)) | ((first | (with_reducible refine isCall (f := 50) ?_; refine callA_nil (by kernel_rfl) ?_) | (with_reducible refine isCall0 (f := 50) ?_; refine callA0_nil (by kernel_rfl) ?_)); refine (check_ok u2 l2 h2 (by omega) ?_)) | (refine And.intro ?ob ?_; case ob => ((try simp only [sxO, ne_eq, maxLen] at *); omega)) | fail) <;> (try simp (config := { maxSteps := 1000000 }) only [hb0, h1.one, h2.one, hc1, hc2, ↓hold_pre, awayP, runOps, regK, step1, newK, genR, appR, obl, buildR, Value.cells, closeK, keepH, outV, retK, ret1, retC, RetV, Option.getD, runD, stepD, afterK, undef, simprocAttr, sxB, ↓sxD, sxE, sxTab]))
      exact hK _ (Mem.le.refl _)
    | true =>
      obtain ⟨e1, _⟩ := chkN_ok o1 hc1
      obtain ⟨e2, _⟩ := chkN_ok o2 hc2
      have h1' := h1
      have h2' := h2
      rw [e1] at h1'
      rw [e2] at h2'
      have hz := nil_iff e2
      by_cases h0 : valN l2 = 0
      · rw [hc1, hc2, decide_eq_true h0] at hK
        have d1 : decide ((l2.length : Int) = 0) = true := by rw [decide_eq_true_eq]; have := hz.2 h0; omega
        (replace hb0 := true_and True); refine Go1.mk ?_; repeat' ((first | (with_reducible refine Go1.go ?_) | ((with_reducible first | refine brv_mk ?_ ?_ | refine gsplitD ?_ ?_ | refine gsplitG ?_ ?_) <;> intro h <;> (try simp only [Bool.not_eq_true', Bool.not_eq_false'] at h) <;> replace hb0 := h) | ((first | (with_reducible refine isCall (f := 50) ?_; refine callA_nil (by kernel_rfl) ?_) | (with_reducible refine isCall0 (f := 50) ?_; refine callA0_nil (by kernel_rfl) ?_)); refine (check_ok u1 l1 h1 (by omega) ?_)) | ((first | (with_reducible refine isCall (f := 50) ?_; refine callA_nil (by kernel_rfl) ?_) | (with_reducible refine isCall0 (f := 50) ?_; refine callA0_nil (by kernel_rfl) ?_)); refine (check_ok u2 l2 h2 (by omega) ?_)) | (refine And.intro ?ob ?_; case ob => ((try simp only [sxO, ne_eq, maxLen] at *); omega)) | fail) <;> (try simp (config := { maxSteps := 1000000 }) only [hb0, h1.one, h2.one, h2.len, h2.sl, hc1, hc2, d1, ↓hold_pre, awayP, runOps, regK, step1, newK, genR, appR, obl, buildR, Value.cells, closeK, keepH, outV, retK, ret1, retC, RetV, Option.getD, runD, stepD, afterK, undef, simprocAttr, sxB, ↓sxD, sxE, sxTab]))
        exact hK _ (Mem.le.refl _)
      have d1 : decide ((l2.length : Int) = 0) = false := by rw [decide_eq_false_iff_not]; have := fun h => h0 (hz.1 h); omega
      rw [hc1, hc2, decide_eq_false h0] at hK
      (replace hb0 := true_and True); refine Go1.mk ?_; repeat' ((first | (with_reducible refine Go1.go ?_) | ((with_reducible first | refine brv_mk ?_ ?_ | refine gsplitD ?_ ?_ | refine gsplitG ?_ ?_) <;> intro h <;> (try simp only [Bool.not_eq_true', Bool.not_eq_false'] at h) <;> replace hb0 := h) | ((first | (with_reducible refine isCall (f := 50) ?_; refine callA_nil (by kernel_rfl) ?_) | (with_reducible refine isCall0 (f := 50) ?_; refine callA0_nil (by kernel_rfl) ?_)); refine (check_ok u1 l1 h1 (by omega) ?_)) | ((first | (with_reducible refine isCall (f := 50) ?_; refine callA_nil (by kernel_rfl) ?_) | (with_reducible refine isCall0 (f := 50) ?_; refine callA0_nil (by kernel_rfl) ?_)); refine (check_ok u2 l2 h2 (by omega) ?_)) | ((first | (with_reducible refine isCall (f := 56) ?_; refine callA_nil (by kernel_rfl) ?_) | (with_reducible refine isCall0 (f := 56) ?_; refine callA0_nil (by kernel_rfl) ?_)); refine (gcd_ok u1 u2 _ _ h1' h2' (by rw [← e1]; omega) (by rw [← e2]; omega) (fun g M1 a1 a2 a3 => Stop.mk ?_))) | (refine And.intro ?ob ?_; case ob => ((try simp only [sxO, ne_eq, maxLen] at *); omega)) | fail) <;> (try simp (config := { maxSteps := 1000000 }) only [hb0, h1.one, h2.one, h2.len, h2.sl, hc1, hc2, d1, ↓hold_pre, awayP, runOps, regK, step1, newK, genR, appR, obl, buildR, Value.cells, closeK, keepH, outV, retK, ret1, retC, RetV, Option.getD, runD, stepD, afterK, undef, simprocAttr, sxB, ↓sxD, sxE, sxTab]))
      have a1 : Mem.le M M1 := a1
      have hgl := len_mono (Nat.gcd_le_right (valN l1) (show 0 < valN l2 by omega))
      rw [← e2] at hgl
      have hiff := one_iff (Nat.gcd (valN l1) (valN l2))
      refine Stop.go ?_
      obtain ⟨gg, hgg⟩ : ∃ gg, gg = Nat.gcd (valN l1) (valN l2) := ⟨_, rfl⟩
      rw [← hgg] at hK hgl hiff a2
      clear hgg
      by_cases hl : (ofN gg).length = 1
      · have d2 : decide (((ofN gg).length : Int) = 1) = true := by rw [decide_eq_true_eq]; omega
        have hyi := a2.idx (P := Tryd.prog) (T := 70) tk70 tz70 (by omega) (show 0 < (ofN gg).length by omega)
        have hat : (ofN gg).getD 0 0 = (ofN gg)[0] := by simp [List.getD_eq_getElem?_getD, hl]
        rw [hat] at hiff
        have d3 : decide ((((ofN gg)[0] : Nat) : Int) = 1) = (gg == 1) := by
          rw [Bool.eq_iff_iff, decide_eq_true_eq, beq_iff_eq, hiff]
          constructor
          · intro h; exact ⟨hl, by omega⟩
          · intro h; omega
        generalize (ofN gg)[0] = g0 at *
        (replace hb0 := true_and True); refine Go1.mk ?_; repeat' ((first | (with_reducible refine Go1.go ?_) | ((with_reducible first | refine brv_mk ?_ ?_ | refine gsplitD ?_ ?_ | refine gsplitG ?_ ?_) <;> intro h <;> (try simp only [Bool.not_eq_true', Bool.not_eq_false'] at h) <;> replace hb0 := h) | (refine And.intro ?ob ?_; case ob => ((try simp only [sxO, ne_eq, maxLen] at *); omega)) | fail) <;> (try simp (config := { maxSteps := 1000000 }) only [hb0, u32V, a2.one, a2.len, a2.sl, d2, d3, hyi, Int.natCast_zero, Int.cast_ofNat_Int, ↓hold_pre, awayP, runOps, regK, step1, newK, genR, appR, obl, buildR, Value.cells, closeK, keepH, outV, retK, ret1, retC, RetV, Option.getD, runD, stepD, afterK, undef, simprocAttr, sxB, ↓sxD, sxE, sxTab]))
        exact hK _ a1
      · have d2 : decide (((ofN gg).length : Int) = 1) = false := by rw [decide_eq_false_iff_not]; omega
        rw [show (gg == 1) = false from beq_eq_false_iff_ne.2 (fun h => hl (hiff.1 h).1)] at hK
        (replace hb0 := true_and True); refine Go1.mk ?_; repeat' ((first | (with_reducible refine Go1.go ?_) | ((with_reducible first | refine brv_mk ?_ ?_ | refine gsplitD ?_ ?_ | refine gsplitG ?_ ?_) <;> intro h <;> (try simp only [Bool.not_eq_true', Bool.not_eq_false'] at h) <;> replace hb0 := h) | (refine And.intro ?ob ?_; case ob => ((try simp only [sxO, ne_eq, maxLen] at *); omega)) | fail) <;> (try simp (config := { maxSteps := 1000000 }) only [hb0, a2.one, a2.len, a2.sl, d2, ↓hold_pre, awayP, runOps, regK, step1, newK, genR, appR, obl, buildR, Value.cells, closeK, keepH, outV, retK, ret1, retC, RetV, Option.getD, runD, stepD, afterK, undef, simprocAttr, sxB, ↓sxD, sxE, sxTab]))
        exact hK _ a1
def CrossK (M : Mem) (K : AV → Hp → Mem → Prop) (x y : Nat) : Prop := ∀ w1 w2 M', Mem.le M M' → IsL M' u32V w1 (ofN x) → IsL M' u32V w2 (ofN y) → FreshS M w1 → FreshS M w2 → K (.ext (.tuple #[w1, w2])) [] M'
theorem cross_ok {v1 v2 : Value} {n1 d1 n2 d2 : Nat} (h1 : IsL M u32V u1 (ofN n1)) (h2 : IsL M u32V u2 (ofN d1)) (k1 : IsL M u32V v1 (ofN n2)) (k2 : IsL M u32V v2 (ofN d2)) (b1 : (ofN n1).length < 1000000) (b2 : (ofN d1).length < 1000000) (b3 : (ofN n2).length < 1000000) (b4 : (ofN d2).length < 1000000) (hK : CrossK M K (n1 * d2) (n2 * d1)) : CallS Tryd.prog 61 [.ext (.agg #[u1, u2]), .ext (.agg #[v1, v2])] [] M [] K := by
  refine inlS (cs := []) Tryd.mixed Tryd.func61 rfl (by kernel_rfl) 0 rfl rfl ?_
  simp only [Tryd.f61]
  (replace hb0 := true_and True); refine Go1.mk ?_; repeat' ((first | (with_reducible refine Go1.go ?_) | ((with_reducible first | refine brv_mk ?_ ?_ | refine gsplitD ?_ ?_ | refine gsplitG ?_ ?_) <;> intro h <;> (try simp only [Bool.not_eq_true', Bool.not_eq_false'] at h) <;> replace hb0 := h) | ((first | (with_reducible refine isCall (f := 64) ?_; refine callA_nil (by kernel_rfl) ?_) | (with_reducible refine isCall0 (f := 64) ?_; refine callA0_nil (by kernel_rfl) ?_)); refine (mul_ok u1 v2 n1 d2 h1 k2 (by omega) (by omega) (fun w1 M1 a1 a2 a3 => Stop.mk ?_))) | ((with_reducible refine isDraw [some 6, some 7, some 8, some 9, some 10, some 11, some 12, some 13, some 14, some 15, some 4, some 5] (by decide) ?_); refine draw_rule [(0, []), (1, []), (2, [1]), (3, [1]), (5, [1, 3]), (6, [1, 3]), (7, [1, 3, 6]), (8, [1, 3, 6]), (4, [6, 8]), (9, []), (10, []), (11, [])] [[], [0], [], [2], [0, 1, 2, 3], [], [5], [], [7], [0, 1, 2, 3, 4, 5, 6, 7, 8], [0, 1, 2, 3, 4, 5, 6, 7, 8, 9], [0, 1, 2, 3, 4, 5, 6, 7, 8, 9, 10]] [6, 7, 8, 9, 10, 11, 12, 13, 14] [] (by kernel_rfl) (by kernel_rfl) (by kernel_rfl) (by kernel_rfl) (by exact trivial) ?_) | (refine And.intro ?ob ?_; case ob => ((try simp only [sxO, ne_eq, maxLen] at *); omega)) | fail) <;> (try simp (config := { maxSteps := 1000000 }) only [hb0, h1.one, h2.one, k1.one, k2.one, ↓hold_pre, awayP, runOps, regK, step1, newK, genR, appR, obl, buildR, Value.cells, closeK, keepH, outV, retK, ret1, retC, RetV, Option.getD, runD, stepD, afterK, undef, simprocAttr, sxB, ↓sxD, sxE, sxTab]))
  have a1 : Mem.le M M1 := a1
  have h1' := h1.le a1
  have h2' := h2.le a1
  have k1' := k1.le a1
  have k2' := k2.le a1
  refine Stop.go ?_
  (replace hb0 := true_and True); refine Go1.mk ?_; repeat' ((first | (with_reducible refine Go1.go ?_) | ((with_reducible first | refine brv_mk ?_ ?_ | refine gsplitD ?_ ?_ | refine gsplitG ?_ ?_) <;> intro h <;> (try simp only [Bool.not_eq_true', Bool.not_eq_false'] at h) <;> replace hb0 := h) | ((first | (with_reducible refine isCall (f := 64) ?_; refine callA_nil (by kernel_rfl) ?_) | (with_reducible refine isCall0 (f := 64) ?_; refine callA0_nil (by kernel_rfl) ?_)); refine (mul_ok v1 u2 n2 d1 k1' h2' (by omega) (by omega) (fun w2 M2 c1 c2 c3 => Stop.mk ?_))) | ((with_reducible refine isDraw [some 6, some 7, some 8, some 9, some 10, some 11, some 12, some 13, some 14, some 15, some 4, some 5] (by decide) ?_); refine draw_rule [(0, []), (1, []), (2, [1]), (3, [1]), (5, [1, 3]), (6, [1, 3]), (7, [1, 3, 6]), (8, [1, 3, 6]), (4, [6, 8]), (9, []), (10, []), (11, [])] [[], [0], [], [2], [0, 1, 2, 3], [], [5], [], [7], [0, 1, 2, 3, 4, 5, 6, 7, 8], [0, 1, 2, 3, 4, 5, 6, 7, 8, 9], [0, 1, 2, 3, 4, 5, 6, 7, 8, 9, 10]] [6, 7, 8, 9, 10, 11, 12, 13, 14] [] (by kernel_rfl) (by kernel_rfl) (by kernel_rfl) (by kernel_rfl) (by exact trivial) ?_) | (refine And.intro ?ob ?_; case ob => ((try simp only [sxO, ne_eq, maxLen] at *); omega)) | fail) <;> (try simp (config := { maxSteps := 1000000 }) only [hb0, h1'.one, h2'.one, k1'.one, k2'.one, a2.one, ↓hold_pre, awayP, runOps, regK, step1, newK, genR, appR, obl, buildR, Value.cells, closeK, keepH, outV, retK, ret1, retC, RetV, Option.getD, runD, stepD, afterK, undef, simprocAttr, sxB, ↓sxD, sxE, sxTab]))
  have c1 : Mem.le M1 M2 := c1
  refine Stop.go ?_
  (replace hb0 := true_and True); refine Go1.mk ?_; repeat' ((first | (with_reducible refine Go1.go ?_) | ((with_reducible first | refine brv_mk ?_ ?_ | refine gsplitD ?_ ?_ | refine gsplitG ?_ ?_) <;> intro h <;> (try simp only [Bool.not_eq_true', Bool.not_eq_false'] at h) <;> replace hb0 := h) | (refine And.intro ?ob ?_; case ob => ((try simp only [sxO, ne_eq, maxLen] at *); omega)) | fail) <;> (try simp (config := { maxSteps := 1000000 }) only [hb0, a2.one, c2.one, ↓hold_pre, awayP, runOps, regK, step1, newK, genR, appR, obl, buildR, Value.cells, closeK, keepH, outV, retK, ret1, retC, RetV, Option.getD, runD, stepD, afterK, undef, simprocAttr, sxB, ↓sxD, sxE, sxTab]))
  exact hK _ _ _ (a1.trans c1) (a2.le c1) c2 a3 (c3.le a1)
end
end Go.Proofs.YtamghpnjdohnjaaDoor.Sx
namespace Go.Proofs.YtamghpnjdohnjaaDoor.Sx
open Go Go.RowKit
set_option linter.unusedVariables false
set_option linter.unusedSimpArgs false
set_option maxRecDepth 100000
set_option maxHeartbeats 8000000
attribute [local congr] fin_congr finG_congr stepG_congr step1_congr runOps_congr brv_congr obl_congr condK_congr LoopK_congr seqK_congr CutK_congr vc_congr DrawK_congr regK_congr CallK_congr AskK_congr newK_congr retC_congr ret1_congr retK_congr outV_congr closeK_congr genR_congr appR_congr finD_congr finGD_congr stepGD_congr stepD_congr CallK0_congr runD_congr okR_congr CallS_congr vcX_congr
attribute [local congr] Stop_congr
structure IsF (M : Mem) (u1 u2 : Value) (l1 l2 : List Nat) : Prop where
  n : IsL M u32V u1 l1
  d : IsL M u32V u2 l2
  on : okN l1
  od : okN l2
  bn : l1.length < 1000000
  bd : l2.length < 1000000
theorem IsF.le {M M' : Mem} {u1 u2 : Value} {l1 l2 : List Nat} (h : IsF M u1 u2 l1 l2) (hM : Mem.le M M') : IsF M' u1 u2 l1 l2 := ⟨h.n.le hM, h.d.le hM, h.on, h.od, h.bn, h.bd⟩
theorem IsF.num {M : Mem} {u1 u2 : Value} {l1 l2 : List Nat} (h : IsF M u1 u2 l1 l2) (hc : chkF l1 l2 = true) : ∃ n d, IsL M u32V u1 (ofN n) ∧ IsL M u32V u2 (ofN d) ∧ valN l1 = n ∧ valN l2 = d ∧ (ofN n).length ≤ 128 ∧ (ofN d).length ≤ 128 ∧ 0 < d := by
  obtain ⟨e1, e2, b1, b2, h0, _⟩ := chkF_ok h.on h.od hc
  refine ⟨valN l1, valN l2, ?_, ?_, rfl, rfl, ?_, ?_, h0⟩
  · rw [← e1]; exact h.n
  · rw [← e2]; exact h.d
  · rw [← e1]; exact b1
  · rw [← e2]; exact b2
theorem mul_len (x y : Nat) : (ofN (x * y)).length ≤ (ofN x).length + (ofN y).length := ofN_len_le (by
  rw [wN_add]
  exact Nat.mul_lt_mul_of_lt_of_lt (ofN_len_lt (Nat.le_refl _)) (ofN_len_lt (Nat.le_refl _)))
theorem add_len {x y k : Nat} (h1 : (ofN x).length ≤ k) (h2 : (ofN y).length ≤ k) : (ofN (x + y)).length ≤ k + 1 := ofN_len_le (by
  have := ofN_len_lt h1
  have := ofN_len_lt h2
  rw [wN_succ]; omega)
def addF (a b c d : List Nat) : Int × Nat × Nat := if chkF a b && chkF c d then exF (valN a * valN d + valN c * valN b) (valN b * valN d) else (1, 0, 0)
def subF (a b c d : List Nat) : Int × Nat × Nat := if chkF a b && chkF c d then (if valN a * valN d < valN c * valN b then (5, 0, 0) else exF (valN a * valN d - valN c * valN b) (valN b * valN d)) else (1, 0, 0)
def mulF (a b c d : List Nat) : Int × Nat × Nat := if chkF a b && chkF c d then exF (valN a * valN c) (valN b * valN d) else (1, 0, 0)
def divF (a b c d : List Nat) : Int × Nat × Nat := if chkF a b && chkF c d then (if valN c = 0 then (4, 0, 0) else exF (valN a * valN d) (valN c * valN b)) else (1, 0, 0)
def cmpF (a b c d : List Nat) : Int := if chkF a b && chkF c d then cmpN (valN a * valN d) (valN c * valN b) else 0
section
variable {M : Mem} {K : AV → Hp → Mem → Prop} {u1 u2 v1 v2 : Value} {l1 l2 k1 k2 : List Nat}
theorem fcmp_ok (ha : IsF M u1 u2 l1 l2) (hb : IsF M v1 v2 k1 k2) (hK : ∀ M', Mem.le M M' → K (.ext (.int .i64 (cmpF l1 l2 k1 k2))) [] M') : CallS Tryd.prog 20 [.ext (.agg #[u1, u2]), .ext (.agg #[v1, v2])] [] M [] K := by
  refine inlS (cs := []) Tryd.mixed Tryd.func20 rfl (by kernel_rfl) 0 rfl rfl ?_
  simp only [Tryd.f20]
  unfold cmpF at hK
  (replace hb0 := true_and True); refine Go1.mk ?_; repeat' ((first | (with_reducible refine Go1.go ?_) | ((with_reducible first | refine brv_mk ?_ ?_ | refine gsplitD ?_ ?_ | refine gsplitG ?_ ?_) <;> intro h <;> (try simp only [Bool.not_eq_true', Bool.not_eq_false'] at h) <;> replace hb0 := h) | ((first | (with_reducible refine isCall (f := 16) ?_; refine callA_nil (by kernel_rfl) ?_) | (with_reducible refine isCall0 (f := 16) ?_; refine callA0_nil (by kernel_rfl) ?_)); refine (fcheck_ok ha.n ha.d ha.on ha.od ha.bn ha.bd (fun M1 m1 => Stop.mk ?_))) | (refine And.intro ?ob ?_; case ob => ((try simp only [sxO, ne_eq, maxLen] at *); omega)) | fail) <;> (try simp (config := { maxSteps := 1000000 }) only [hb0, ha.n.one, ha.d.one, hb.n.one, hb.d.one, ↓hold_pre, awayP, runOps, regK, step1, newK, genR, appR, obl, buildR, Value.cells, closeK, keepH, outV, retK, ret1, retC, RetV, Option.getD, runD, stepD, afterK, undef, simprocAttr, sxB, ↓sxD, sxE, sxTab]))
  have m1 : Mem.le M M1 := m1
  have ha1 := ha.le m1
  have hb1 := hb.le m1
  refine Stop.go ?_
  cases hc1 : chkF l1 l2 with
  | false =>
    rw [hc1] at hK
    (replace hb0 := true_and True); refine Go1.mk ?_; repeat' ((first | (with_reducible refine Go1.go ?_) | ((with_reducible first | refine brv_mk ?_ ?_ | refine gsplitD ?_ ?_ | refine gsplitG ?_ ?_) <;> intro h <;> (try simp only [Bool.not_eq_true', Bool.not_eq_false'] at h) <;> replace hb0 := h) | (refine And.intro ?ob ?_; case ob => ((try simp only [sxO, ne_eq, maxLen] at *); omega)) | fail) <;> (try simp (config := { maxSteps := 1000000 }) only [hb0, ha1.n.one, ha1.d.one, hb1.n.one, hb1.d.one, ↓hold_pre, awayP, runOps, regK, step1, newK, genR, appR, obl, buildR, Value.cells, closeK, keepH, outV, retK, ret1, retC, RetV, Option.getD, runD, stepD, afterK, undef, simprocAttr, sxB, ↓sxD, sxE, sxTab]))
    exact hK _ m1
  | true =>
  (replace hb0 := true_and True); refine Go1.mk ?_; repeat' ((first | (with_reducible refine Go1.go ?_) | ((with_reducible first | refine brv_mk ?_ ?_ | refine gsplitD ?_ ?_ | refine gsplitG ?_ ?_) <;> intro h <;> (try simp only [Bool.not_eq_true', Bool.not_eq_false'] at h) <;> replace hb0 := h) | ((first | (with_reducible refine isCall (f := 16) ?_; refine callA_nil (by kernel_rfl) ?_) | (with_reducible refine isCall0 (f := 16) ?_; refine callA0_nil (by kernel_rfl) ?_)); refine (fcheck_ok hb1.n hb1.d hb1.on hb1.od hb1.bn hb1.bd (fun M2 m2 => Stop.mk ?_))) | (refine And.intro ?ob ?_; case ob => ((try simp only [sxO, ne_eq, maxLen] at *); omega)) | fail) <;> (try simp (config := { maxSteps := 1000000 }) only [hb0, ha1.n.one, ha1.d.one, hb1.n.one, hb1.d.one, ↓hold_pre, awayP, runOps, regK, step1, newK, genR, appR, obl, buildR, Value.cells, closeK, keepH, outV, retK, ret1, retC, RetV, Option.getD, runD, stepD, afterK, undef, simprocAttr, sxB, ↓sxD, sxE, sxTab]))
  have m2 : Mem.le M1 M2 := m2
  have ha2 := ha1.le m2
  have hb2 := hb1.le m2
  have hm := m1.trans m2
  refine Stop.go ?_
  cases hc2 : chkF k1 k2 with
  | false =>
    rw [hc1, hc2] at hK
    (replace hb0 := true_and True); refine Go1.mk ?_; repeat' ((first | (with_reducible refine Go1.go ?_) | ((with_reducible first | refine brv_mk ?_ ?_ | refine gsplitD ?_ ?_ | refine gsplitG ?_ ?_) <;> intro h <;> (try simp only [Bool.not_eq_true', Bool.not_eq_false'] at h) <;> replace hb0 := h) | (refine And.intro ?ob ?_; case ob => ((try simp only [sxO, ne_eq, maxLen] at *); omega)) | fail) <;> (try simp (config := { maxSteps := 1000000 }) only [hb0, ha2.n.one, ha2.d.one, hb2.n.one, hb2.d.one, ↓hold_pre, awayP, runOps, regK, step1, newK, genR, appR, obl, buildR, Value.cells, closeK, keepH, outV, retK, ret1, retC, RetV, Option.getD, runD, stepD, afterK, undef, simprocAttr, sxB, ↓sxD, sxE, sxTab]))
    exact hK _ hm
  | true =>
  rw [hc1, hc2, Bool.and_self, if_pos rfl] at hK
  obtain ⟨n1, d1, hn1, hd1, e1, e2, q1, q2, q3⟩ := ha2.num hc1
  obtain ⟨n2, d2, hn2, hd2, e3, e4, r1, r2, r3⟩ := hb2.num hc2
  rw [e1, e2, e3, e4] at hK
  have t1 := mul_len n1 d2
  have t2 := mul_len n2 d1
  have t3 := mul_len d1 d2
  have t4 := mul_len n1 n2
  have t0 : 0 < d1 * d2 := Nat.mul_pos q3 r3
  (replace hb0 := true_and True); refine Go1.mk ?_; repeat' ((first | (with_reducible refine Go1.go ?_) | ((with_reducible first | refine brv_mk ?_ ?_ | refine gsplitD ?_ ?_ | refine gsplitG ?_ ?_) <;> intro h <;> (try simp only [Bool.not_eq_true', Bool.not_eq_false'] at h) <;> replace hb0 := h) | ((first | (with_reducible refine isCall (f := 61) ?_; refine callA_nil (by kernel_rfl) ?_) | (with_reducible refine isCall0 (f := 61) ?_; refine callA0_nil (by kernel_rfl) ?_)); refine (cross_ok hn1 hd1 hn2 hd2 (by omega) (by omega) (by omega) (by omega) (fun wx wy M3 m3 hx hy fx fy => Stop.mk ?_))) | (refine And.intro ?ob ?_; case ob => ((try simp only [sxO, ne_eq, maxLen] at *); omega)) | fail) <;> (try simp (config := { maxSteps := 1000000 }) only [hb0, hn1.one, hd1.one, hn2.one, hd2.one, ↓hold_pre, awayP, runOps, regK, step1, newK, genR, appR, obl, buildR, Value.cells, closeK, keepH, outV, retK, ret1, retC, RetV, Option.getD, runD, stepD, afterK, undef, simprocAttr, sxB, ↓sxD, sxE, sxTab]))
  have m3 : Mem.le M2 M3 := m3
  have hn1 := hn1.le m3
  have hd1 := hd1.le m3
  have hn2 := hn2.le m3
  have hd2 := hd2.le m3
  have fx := fx.le hm
  have fy := fy.le hm
  have hm := hm.trans m3
  refine Stop.go ?_
  (replace hb0 := true_and True); refine Go1.mk ?_; repeat' ((first | (with_reducible refine Go1.go ?_) | ((with_reducible first | refine brv_mk ?_ ?_ | refine gsplitD ?_ ?_ | refine gsplitG ?_ ?_) <;> intro h <;> (try simp only [Bool.not_eq_true', Bool.not_eq_false'] at h) <;> replace hb0 := h) | ((first | (with_reducible refine isCall (f := 60) ?_; refine callA_nil (by kernel_rfl) ?_) | (with_reducible refine isCall0 (f := 60) ?_; refine callA0_nil (by kernel_rfl) ?_)); refine (compare_ok wx wy _ _ hx hy (by omega) (by omega) ?_)) | (refine And.intro ?ob ?_; case ob => ((try simp only [sxO, ne_eq, maxLen] at *); omega)) | fail) <;> (try simp (config := { maxSteps := 1000000 }) only [hb0, hn1.one, hd1.one, hn2.one, hd2.one, hx.one, hy.one, ↓hold_pre, awayP, runOps, regK, step1, newK, genR, appR, obl, buildR, Value.cells, closeK, keepH, outV, retK, ret1, retC, RetV, Option.getD, runD, stepD, afterK, undef, simprocAttr, sxB, ↓sxD, sxE, sxTab]))
  exact hK _ hm
theorem fadd_ok (ha : IsF M u1 u2 l1 l2) (hb : IsF M v1 v2 k1 k2) (hK : FracK M K (addF l1 l2 k1 k2)) : CallS Tryd.prog 22 [.ext (.agg #[u1, u2]), .ext (.agg #[v1, v2])] [] M [] K := by
  refine inlS (cs := []) Tryd.mixed Tryd.func22 rfl (by kernel_rfl) 0 rfl rfl ?_
  simp only [Tryd.f22]
  unfold addF at hK
  (replace hb0 := true_and True); refine Go1.mk ?_; repeat' ((first | (with_reducible refine Go1.go ?_) | ((with_reducible first | refine brv_mk ?_ ?_ | refine gsplitD ?_ ?_ | refine gsplitG ?_ ?_) <;> intro h <;> (try simp only [Bool.not_eq_true', Bool.not_eq_false'] at h) <;> replace hb0 := h) | ((first | (with_reducible refine isCall (f := 16) ?_; refine callA_nil (by kernel_rfl) ?_) | (with_reducible refine isCall0 (f := 16) ?_; refine callA0_nil (by kernel_rfl) ?_)); refine (fcheck_ok ha.n ha.d ha.on ha.od ha.bn ha.bd (fun M1 m1 => Stop.mk ?_))) | (refine And.intro ?ob ?_; case ob => ((try simp only [sxO, ne_eq, maxLen] at *); omega)) | fail) <;> (try simp (config := { maxSteps := 1000000 }) only [hb0, ha.n.one, ha.d.one, hb.n.one, hb.d.one, ↓hold_pre, awayP, runOps, regK, step1, newK, genR, appR, obl, buildR, Value.cells, closeK, keepH, outV, retK, ret1, retC, RetV, Option.getD, runD, stepD, afterK, undef, simprocAttr, sxB, ↓sxD, sxE, sxTab]))
  have m1 : Mem.le M M1 := m1
  have ha1 := ha.le m1
  have hb1 := hb.le m1
  refine Stop.go ?_
  cases hc1 : chkF l1 l2 with
  | false =>
    rw [hc1] at hK
    (replace hb0 := true_and True); refine Go1.mk ?_; repeat' ((first | (with_reducible refine Go1.go ?_) | ((with_reducible first | refine brv_mk ?_ ?_ | refine gsplitD ?_ ?_ | refine gsplitG ?_ ?_) <;> intro h <;> (try simp only [Bool.not_eq_true', Bool.not_eq_false'] at h) <;> replace hb0 := h) | (refine And.intro ?ob ?_; case ob => ((try simp only [sxO, ne_eq, maxLen] at *); omega)) | fail) <;> (try simp (config := { maxSteps := 1000000 }) only [hb0, ha1.n.one, ha1.d.one, hb1.n.one, hb1.d.one, ↓hold_pre, awayP, runOps, regK, step1, newK, genR, appR, obl, buildR, Value.cells, closeK, keepH, outV, retK, ret1, retC, RetV, Option.getD, runD, stepD, afterK, undef, simprocAttr, sxB, ↓sxD, sxE, sxTab]))
    exact hK.err _ m1
  | true =>
  (replace hb0 := true_and True); refine Go1.mk ?_; repeat' ((first | (with_reducible refine Go1.go ?_) | ((with_reducible first | refine brv_mk ?_ ?_ | refine gsplitD ?_ ?_ | refine gsplitG ?_ ?_) <;> intro h <;> (try simp only [Bool.not_eq_true', Bool.not_eq_false'] at h) <;> replace hb0 := h) | ((first | (with_reducible refine isCall (f := 16) ?_; refine callA_nil (by kernel_rfl) ?_) | (with_reducible refine isCall0 (f := 16) ?_; refine callA0_nil (by kernel_rfl) ?_)); refine (fcheck_ok hb1.n hb1.d hb1.on hb1.od hb1.bn hb1.bd (fun M2 m2 => Stop.mk ?_))) | (refine And.intro ?ob ?_; case ob => ((try simp only [sxO, ne_eq, maxLen] at *); omega)) | fail) <;> (try simp (config := { maxSteps := 1000000 }) only [hb0, ha1.n.one, ha1.d.one, hb1.n.one, hb1.d.one, ↓hold_pre, awayP, runOps, regK, step1, newK, genR, appR, obl, buildR, Value.cells, closeK, keepH, outV, retK, ret1, retC, RetV, Option.getD, runD, stepD, afterK, undef, simprocAttr, sxB, ↓sxD, sxE, sxTab]))
  have m2 : Mem.le M1 M2 := m2
  have ha2 := ha1.le m2
  have hb2 := hb1.le m2
  have hm := m1.trans m2
  refine Stop.go ?_
  cases hc2 : chkF k1 k2 with
  | false =>
    rw [hc1, hc2] at hK
    (replace hb0 := true_and True); refine Go1.mk ?_; repeat' ((first | (with_reducible refine Go1.go ?_) | ((with_reducible first | refine brv_mk ?_ ?_ | refine gsplitD ?_ ?_ | refine gsplitG ?_ ?_) <;> intro h <;> (try simp only [Bool.not_eq_true', Bool.not_eq_false'] at h) <;> replace hb0 := h) | (refine And.intro ?ob ?_; case ob => ((try simp only [sxO, ne_eq, maxLen] at *); omega)) | fail) <;> (try simp (config := { maxSteps := 1000000 }) only [hb0, ha2.n.one, ha2.d.one, hb2.n.one, hb2.d.one, ↓hold_pre, awayP, runOps, regK, step1, newK, genR, appR, obl, buildR, Value.cells, closeK, keepH, outV, retK, ret1, retC, RetV, Option.getD, runD, stepD, afterK, undef, simprocAttr, sxB, ↓sxD, sxE, sxTab]))
    exact hK.err _ hm
  | true =>
  rw [hc1, hc2, Bool.and_self, if_pos rfl] at hK
  obtain ⟨n1, d1, hn1, hd1, e1, e2, q1, q2, q3⟩ := ha2.num hc1
  obtain ⟨n2, d2, hn2, hd2, e3, e4, r1, r2, r3⟩ := hb2.num hc2
  rw [e1, e2, e3, e4] at hK
  have t1 := mul_len n1 d2
  have t2 := mul_len n2 d1
  have t3 := mul_len d1 d2
  have t4 := mul_len n1 n2
  have t0 : 0 < d1 * d2 := Nat.mul_pos q3 r3
  (replace hb0 := true_and True); refine Go1.mk ?_; repeat' ((first | (with_reducible refine Go1.go ?_) | ((with_reducible first | refine brv_mk ?_ ?_ | refine gsplitD ?_ ?_ | refine gsplitG ?_ ?_) <;> intro h <;> (try simp only [Bool.not_eq_true', Bool.not_eq_false'] at h) <;> replace hb0 := h) | ((first | (with_reducible refine isCall (f := 61) ?_; refine callA_nil (by kernel_rfl) ?_) | (with_reducible refine isCall0 (f := 61) ?_; refine callA0_nil (by kernel_rfl) ?_)); refine (cross_ok hn1 hd1 hn2 hd2 (by omega) (by omega) (by omega) (by omega) (fun wx wy M3 m3 hx hy fx fy => Stop.mk ?_))) | ((with_reducible refine isDraw [some 15, some 16, some 17, some 18, some 19, some 20, some 21, some 22, some 23, some 24, some 25, some 26, some 27, some 28, none, some 5] (by decide) ?_); refine draw_rule [(0, []), (1, [0]), (6, [0, 1]), (7, [0, 1]), (8, [0, 1, 7]), (9, [0, 1, 7]), (2, [7, 9]), (3, [7, 9]), (4, [7, 9]), (5, [7, 9]), (10, []), (11, []), (12, []), (13, []), (14, []), (15, [])] [[], [], [0, 1], [0, 1, 2], [0, 1, 2], [0, 1, 2, 3, 4], [], [6], [], [8], [0, 1, 2, 3, 4, 5, 6, 7, 8, 9], [0, 1, 2, 3, 4, 5, 6, 7, 8, 9, 10], [0, 1, 2, 3, 4, 5, 6, 7, 8, 9, 10, 11], [0, 1, 2, 3, 4, 5, 6, 7, 8, 9, 10, 11], [0, 1, 2, 3, 4, 5, 6, 7, 8, 9, 10, 11, 12, 13], [0, 1, 2, 3, 4, 5, 6, 7, 8, 9, 10, 11, 12, 13, 14]] [15, 16, 17, 18, 19, 20, 21, 22, 23, 24, 27, 28] [] (by kernel_rfl) (by kernel_rfl) (by kernel_rfl) (by kernel_rfl) (by exact trivial) ?_) | (refine And.intro ?ob ?_; case ob => ((try simp only [sxO, ne_eq, maxLen] at *); omega)) | fail) <;> (try simp (config := { maxSteps := 1000000 }) only [hb0, hn1.one, hd1.one, hn2.one, hd2.one, ↓hold_pre, awayP, runOps, regK, step1, newK, genR, appR, obl, buildR, Value.cells, closeK, keepH, outV, retK, ret1, retC, RetV, Option.getD, runD, stepD, afterK, undef, simprocAttr, sxB, ↓sxD, sxE, sxTab]))
  have m3 : Mem.le M2 M3 := m3
  have hn1 := hn1.le m3
  have hd1 := hd1.le m3
  have hn2 := hn2.le m3
  have hd2 := hd2.le m3
  have fx := fx.le hm
  have fy := fy.le hm
  have hm := hm.trans m3
  refine Stop.go ?_
  (replace hb0 := true_and True); refine Go1.mk ?_; repeat' ((first | (with_reducible refine Go1.go ?_) | ((with_reducible first | refine brv_mk ?_ ?_ | refine gsplitD ?_ ?_ | refine gsplitG ?_ ?_) <;> intro h <;> (try simp only [Bool.not_eq_true', Bool.not_eq_false'] at h) <;> replace hb0 := h) | ((first | (with_reducible refine isCall (f := 63) ?_; refine callA_nil (by kernel_rfl) ?_) | (with_reducible refine isCall0 (f := 63) ?_; refine callA0_nil (by kernel_rfl) ?_)); refine (add_ok wx wy _ _ hx hy (by omega) (by omega) (fun ws M4 m4 hs fs => Stop.mk ?_))) | ((with_reducible refine isDraw [some 15, some 16, some 17, some 18, some 19, some 20, some 21, some 22, some 23, some 24, some 25, some 26, some 27, some 28, none, some 5] (by decide) ?_); refine draw_rule [(0, []), (1, [0]), (6, [0, 1]), (7, [0, 1]), (8, [0, 1, 7]), (9, [0, 1, 7]), (2, [7, 9]), (3, [7, 9]), (4, [7, 9]), (5, [7, 9]), (10, []), (11, []), (12, []), (13, []), (14, []), (15, [])] [[], [], [0, 1], [0, 1, 2], [0, 1, 2], [0, 1, 2, 3, 4], [], [6], [], [8], [0, 1, 2, 3, 4, 5, 6, 7, 8, 9], [0, 1, 2, 3, 4, 5, 6, 7, 8, 9, 10], [0, 1, 2, 3, 4, 5, 6, 7, 8, 9, 10, 11], [0, 1, 2, 3, 4, 5, 6, 7, 8, 9, 10, 11], [0, 1, 2, 3, 4, 5, 6, 7, 8, 9, 10, 11, 12, 13], [0, 1, 2, 3, 4, 5, 6, 7, 8, 9, 10, 11, 12, 13, 14]] [15, 16, 17, 18, 19, 20, 21, 22, 23, 24, 27, 28] [] (by kernel_rfl) (by kernel_rfl) (by kernel_rfl) (by kernel_rfl) (by exact trivial) ?_) | (refine And.intro ?ob ?_; case ob => ((try simp only [sxO, ne_eq, maxLen] at *); omega)) | fail) <;> (try simp (config := { maxSteps := 1000000 }) only [hb0, hn1.one, hd1.one, hn2.one, hd2.one, hx.one, hy.one, ↓hold_pre, awayP, runOps, regK, step1, newK, genR, appR, obl, buildR, Value.cells, closeK, keepH, outV, retK, ret1, retC, RetV, Option.getD, runD, stepD, afterK, undef, simprocAttr, sxB, ↓sxD, sxE, sxTab]))
  have m4 : Mem.le M3 M4 := m4
  have hn1 := hn1.le m4
  have hd1 := hd1.le m4
  have hn2 := hn2.le m4
  have hd2 := hd2.le m4
  have hx := hx.le m4
  have hy := hy.le m4
  have fs := fs.le hm
  have hm := hm.trans m4
  refine Stop.go ?_
  (replace hb0 := true_and True); refine Go1.mk ?_; repeat' ((first | (with_reducible refine Go1.go ?_) | ((with_reducible first | refine brv_mk ?_ ?_ | refine gsplitD ?_ ?_ | refine gsplitG ?_ ?_) <;> intro h <;> (try simp only [Bool.not_eq_true', Bool.not_eq_false'] at h) <;> replace hb0 := h) | ((first | (with_reducible refine isCall (f := 64) ?_; refine callA_nil (by kernel_rfl) ?_) | (with_reducible refine isCall0 (f := 64) ?_; refine callA0_nil (by kernel_rfl) ?_)); refine (mul_ok u2 v2 d1 d2 hd1 hd2 (by omega) (by omega) (fun wp M5 m5 hp fp => Stop.mk ?_))) | ((with_reducible refine isDraw [some 15, some 16, some 17, some 18, some 19, some 20, some 21, some 22, some 23, some 24, some 25, some 26, some 27, some 28, none, some 5] (by decide) ?_); refine draw_rule [(0, []), (1, [0]), (6, [0, 1]), (7, [0, 1]), (8, [0, 1, 7]), (9, [0, 1, 7]), (2, [7, 9]), (3, [7, 9]), (4, [7, 9]), (5, [7, 9]), (10, []), (11, []), (12, []), (13, []), (14, []), (15, [])] [[], [], [0, 1], [0, 1, 2], [0, 1, 2], [0, 1, 2, 3, 4], [], [6], [], [8], [0, 1, 2, 3, 4, 5, 6, 7, 8, 9], [0, 1, 2, 3, 4, 5, 6, 7, 8, 9, 10], [0, 1, 2, 3, 4, 5, 6, 7, 8, 9, 10, 11], [0, 1, 2, 3, 4, 5, 6, 7, 8, 9, 10, 11], [0, 1, 2, 3, 4, 5, 6, 7, 8, 9, 10, 11, 12, 13], [0, 1, 2, 3, 4, 5, 6, 7, 8, 9, 10, 11, 12, 13, 14]] [15, 16, 17, 18, 19, 20, 21, 22, 23, 24, 27, 28] [] (by kernel_rfl) (by kernel_rfl) (by kernel_rfl) (by kernel_rfl) (by exact trivial) ?_) | (refine And.intro ?ob ?_; case ob => ((try simp only [sxO, ne_eq, maxLen] at *); omega)) | fail) <;> (try simp (config := { maxSteps := 1000000 }) only [hb0, hn1.one, hd1.one, hn2.one, hd2.one, hx.one, hy.one, hs.one, ↓hold_pre, awayP, runOps, regK, step1, newK, genR, appR, obl, buildR, Value.cells, closeK, keepH, outV, retK, ret1, retC, RetV, Option.getD, runD, stepD, afterK, undef, simprocAttr, sxB, ↓sxD, sxE, sxTab]))
  have m5 : Mem.le M4 M5 := m5
  have hn1 := hn1.le m5
  have hd1 := hd1.le m5
  have hn2 := hn2.le m5
  have hd2 := hd2.le m5
  have hx := hx.le m5
  have hy := hy.le m5
  have hs := hs.le m5
  have fp := fp.le hm
  have hm := hm.trans m5
  refine Stop.go ?_
  have t5 := add_len (x := n1 * d2) (y := n2 * d1) (k := 256) (by omega) (by omega)
  (replace hb0 := true_and True); refine Go1.mk ?_; repeat' ((first | (with_reducible refine Go1.go ?_) | ((with_reducible first | refine brv_mk ?_ ?_ | refine gsplitD ?_ ?_ | refine gsplitG ?_ ?_) <;> intro h <;> (try simp only [Bool.not_eq_true', Bool.not_eq_false'] at h) <;> replace hb0 := h) | ((first | (with_reducible refine isCall (f := 51) ?_; refine callA_nil (by kernel_rfl) ?_) | (with_reducible refine isCall0 (f := 51) ?_; refine callA0_nil (by kernel_rfl) ?_)); refine (exact_ok ws wp _ _ hs hp (by omega) (by omega) t0 (fun w1 w2 M6 m6 h1 h2 f1 f2 => Stop.mk ?_))) | ((with_reducible refine isDraw [some 15, some 16, some 17, some 18, some 19, some 20, some 21, some 22, some 23, some 24, some 25, some 26, some 27, some 28, none, some 5] (by decide) ?_); refine draw_rule [(0, []), (1, [0]), (6, [0, 1]), (7, [0, 1]), (8, [0, 1, 7]), (9, [0, 1, 7]), (2, [7, 9]), (3, [7, 9]), (4, [7, 9]), (5, [7, 9]), (10, []), (11, []), (12, []), (13, []), (14, []), (15, [])] [[], [], [0, 1], [0, 1, 2], [0, 1, 2], [0, 1, 2, 3, 4], [], [6], [], [8], [0, 1, 2, 3, 4, 5, 6, 7, 8, 9], [0, 1, 2, 3, 4, 5, 6, 7, 8, 9, 10], [0, 1, 2, 3, 4, 5, 6, 7, 8, 9, 10, 11], [0, 1, 2, 3, 4, 5, 6, 7, 8, 9, 10, 11], [0, 1, 2, 3, 4, 5, 6, 7, 8, 9, 10, 11, 12, 13], [0, 1, 2, 3, 4, 5, 6, 7, 8, 9, 10, 11, 12, 13, 14]] [15, 16, 17, 18, 19, 20, 21, 22, 23, 24, 27, 28] [] (by kernel_rfl) (by kernel_rfl) (by kernel_rfl) (by kernel_rfl) (by exact trivial) ?_) | (refine And.intro ?ob ?_; case ob => ((try simp only [sxO, ne_eq, maxLen] at *); omega)) | fail) <;> (try simp (config := { maxSteps := 1000000 }) only [hb0, hn1.one, hd1.one, hn2.one, hd2.one, hx.one, hy.one, hs.one, hp.one, ↓hold_pre, awayP, runOps, regK, step1, newK, genR, appR, obl, buildR, Value.cells, closeK, keepH, outV, retK, ret1, retC, RetV, Option.getD, runD, stepD, afterK, undef, simprocAttr, sxB, ↓sxD, sxE, sxTab]))
  have m6 : Mem.le M5 M6 := m6
  have hn1 := hn1.le m6
  have hd1 := hd1.le m6
  have hn2 := hn2.le m6
  have hd2 := hd2.le m6
  have hx := hx.le m6
  have hy := hy.le m6
  have hs := hs.le m6
  have hp := hp.le m6
  have f1 := f1.le hm
  have f2 := f2.le hm
  have hm := hm.trans m6
  refine Stop.go ?_
  (replace hb0 := true_and True); refine Go1.mk ?_; repeat' ((first | (with_reducible refine Go1.go ?_) | ((with_reducible first | refine brv_mk ?_ ?_ | refine gsplitD ?_ ?_ | refine gsplitG ?_ ?_) <;> intro h <;> (try simp only [Bool.not_eq_true', Bool.not_eq_false'] at h) <;> replace hb0 := h) | (refine And.intro ?ob ?_; case ob => ((try simp only [sxO, ne_eq, maxLen] at *); omega)) | fail) <;> (try simp (config := { maxSteps := 1000000 }) only [hb0, hn1.one, hd1.one, hn2.one, hd2.one, hx.one, hy.one, hs.one, hp.one, h1.one, h2.one, ↓hold_pre, awayP, runOps, regK, step1, newK, genR, appR, obl, buildR, Value.cells, closeK, keepH, outV, retK, ret1, retC, RetV, Option.getD, runD, stepD, afterK, undef, simprocAttr, sxB, ↓sxD, sxE, sxTab]))
  exact hK _ _ _ hm h1 h2 f1 f2
theorem fmul_ok (ha : IsF M u1 u2 l1 l2) (hb : IsF M v1 v2 k1 k2) (hK : FracK M K (mulF l1 l2 k1 k2)) : CallS Tryd.prog 26 [.ext (.agg #[u1, u2]), .ext (.agg #[v1, v2])] [] M [] K := by
  refine inlS (cs := []) Tryd.mixed Tryd.func26 rfl (by kernel_rfl) 0 rfl rfl ?_
  simp only [Tryd.f26]
  unfold mulF at hK
  (replace hb0 := true_and True); refine Go1.mk ?_; repeat' ((first | (with_reducible refine Go1.go ?_) | ((with_reducible first | refine brv_mk ?_ ?_ | refine gsplitD ?_ ?_ | refine gsplitG ?_ ?_) <;> intro h <;> (try simp only [Bool.not_eq_true', Bool.not_eq_false'] at h) <;> replace hb0 := h) | ((first | (with_reducible refine isCall (f := 16) ?_; refine callA_nil (by kernel_rfl) ?_) | (with_reducible refine isCall0 (f := 16) ?_; refine callA0_nil (by kernel_rfl) ?_)); refine (fcheck_ok ha.n ha.d ha.on ha.od ha.bn ha.bd (fun M1 m1 => Stop.mk ?_))) | (refine And.intro ?ob ?_; case ob => ((try simp only [sxO, ne_eq, maxLen] at *); omega)) | fail) <;> (try simp (config := { maxSteps := 1000000 }) only [hb0, ha.n.one, ha.d.one, hb.n.one, hb.d.one, ↓hold_pre, awayP, runOps, regK, step1, newK, genR, appR, obl, buildR, Value.cells, closeK, keepH, outV, retK, ret1, retC, RetV, Option.getD, runD, stepD, afterK, undef, simprocAttr, sxB, ↓sxD, sxE, sxTab]))
  have m1 : Mem.le M M1 := m1
  have ha1 := ha.le m1
  have hb1 := hb.le m1
  refine Stop.go ?_
  cases hc1 : chkF l1 l2 with
  | false =>
    rw [hc1] at hK
    (replace hb0 := true_and True); refine Go1.mk ?_; repeat' ((first | (with_reducible refine Go1.go ?_) | ((with_reducible first | refine brv_mk ?_ ?_ | refine gsplitD ?_ ?_ | refine gsplitG ?_ ?_) <;> intro h <;> (try simp only [Bool.not_eq_true', Bool.not_eq_false'] at h) <;> replace hb0 := h) | (refine And.intro ?ob ?_; case ob => ((try simp only [sxO, ne_eq, maxLen] at *); omega)) | fail) <;> (try simp (config := { maxSteps := 1000000 }) only [hb0, ha1.n.one, ha1.d.one, hb1.n.one, hb1.d.one, ↓hold_pre, awayP, runOps, regK, step1, newK, genR, appR, obl, buildR, Value.cells, closeK, keepH, outV, retK, ret1, retC, RetV, Option.getD, runD, stepD, afterK, undef, simprocAttr, sxB, ↓sxD, sxE, sxTab]))
    exact hK.err _ m1
  | true =>
  (replace hb0 := true_and True); refine Go1.mk ?_; repeat' ((first | (with_reducible refine Go1.go ?_) | ((with_reducible first | refine brv_mk ?_ ?_ | refine gsplitD ?_ ?_ | refine gsplitG ?_ ?_) <;> intro h <;> (try simp only [Bool.not_eq_true', Bool.not_eq_false'] at h) <;> replace hb0 := h) | ((first | (with_reducible refine isCall (f := 16) ?_; refine callA_nil (by kernel_rfl) ?_) | (with_reducible refine isCall0 (f := 16) ?_; refine callA0_nil (by kernel_rfl) ?_)); refine (fcheck_ok hb1.n hb1.d hb1.on hb1.od hb1.bn hb1.bd (fun M2 m2 => Stop.mk ?_))) | (refine And.intro ?ob ?_; case ob => ((try simp only [sxO, ne_eq, maxLen] at *); omega)) | fail) <;> (try simp (config := { maxSteps := 1000000 }) only [hb0, ha1.n.one, ha1.d.one, hb1.n.one, hb1.d.one, ↓hold_pre, awayP, runOps, regK, step1, newK, genR, appR, obl, buildR, Value.cells, closeK, keepH, outV, retK, ret1, retC, RetV, Option.getD, runD, stepD, afterK, undef, simprocAttr, sxB, ↓sxD, sxE, sxTab]))
  have m2 : Mem.le M1 M2 := m2
  have ha2 := ha1.le m2
  have hb2 := hb1.le m2
  have hm := m1.trans m2
  refine Stop.go ?_
  cases hc2 : chkF k1 k2 with
  | false =>
    rw [hc1, hc2] at hK
    (replace hb0 := true_and True); refine Go1.mk ?_; repeat' ((first | (with_reducible refine Go1.go ?_) | ((with_reducible first | refine brv_mk ?_ ?_ | refine gsplitD ?_ ?_ | refine gsplitG ?_ ?_) <;> intro h <;> (try simp only [Bool.not_eq_true', Bool.not_eq_false'] at h) <;> replace hb0 := h) | (refine And.intro ?ob ?_; case ob => ((try simp only [sxO, ne_eq, maxLen] at *); omega)) | fail) <;> (try simp (config := { maxSteps := 1000000 }) only [hb0, ha2.n.one, ha2.d.one, hb2.n.one, hb2.d.one, ↓hold_pre, awayP, runOps, regK, step1, newK, genR, appR, obl, buildR, Value.cells, closeK, keepH, outV, retK, ret1, retC, RetV, Option.getD, runD, stepD, afterK, undef, simprocAttr, sxB, ↓sxD, sxE, sxTab]))
    exact hK.err _ hm
  | true =>
  rw [hc1, hc2, Bool.and_self, if_pos rfl] at hK
  obtain ⟨n1, d1, hn1, hd1, e1, e2, q1, q2, q3⟩ := ha2.num hc1
  obtain ⟨n2, d2, hn2, hd2, e3, e4, r1, r2, r3⟩ := hb2.num hc2
  rw [e1, e2, e3, e4] at hK
  have t1 := mul_len n1 d2
  have t2 := mul_len n2 d1
  have t3 := mul_len d1 d2
  have t4 := mul_len n1 n2
  have t0 : 0 < d1 * d2 := Nat.mul_pos q3 r3
  (replace hb0 := true_and True); refine Go1.mk ?_; repeat' ((first | (with_reducible refine Go1.go ?_) | ((with_reducible first | refine brv_mk ?_ ?_ | refine gsplitD ?_ ?_ | refine gsplitG ?_ ?_) <;> intro h <;> (try simp only [Bool.not_eq_true', Bool.not_eq_false'] at h) <;> replace hb0 := h) | ((first | (with_reducible refine isCall (f := 64) ?_; refine callA_nil (by kernel_rfl) ?_) | (with_reducible refine isCall0 (f := 64) ?_; refine callA0_nil (by kernel_rfl) ?_)); refine (mul_ok u1 v1 n1 n2 hn1 hn2 (by omega) (by omega) (fun ws M3 m3 hs fs => Stop.mk ?_))) | ((with_reducible refine isDraw [some 15, some 16, some 17, some 18, some 19, some 20, some 21, some 22, some 23, some 24, some 25, some 26, some 27, none, some 5] (by decide) ?_); refine draw_rule [(0, []), (1, []), (2, [1]), (3, [1]), (5, [1, 3]), (6, [1, 3]), (7, [1, 3, 6]), (8, [1, 3, 6]), (4, [6, 8]), (9, []), (10, []), (11, []), (12, []), (13, []), (14, [])] [[], [0], [], [2], [0, 1, 2, 3], [], [5], [], [7], [0, 1, 2, 3, 4, 5, 6, 7, 8], [0, 1, 2, 3, 4, 5, 6, 7, 8, 9], [0, 1, 2, 3, 4, 5, 6, 7, 8, 9, 10], [0, 1, 2, 3, 4, 5, 6, 7, 8, 9, 10], [0, 1, 2, 3, 4, 5, 6, 7, 8, 9, 10, 11, 12], [0, 1, 2, 3, 4, 5, 6, 7, 8, 9, 10, 11, 12, 13]] [15, 16, 17, 18, 19, 20, 21, 22, 23, 26, 27] [] (by kernel_rfl) (by kernel_rfl) (by kernel_rfl) (by kernel_rfl) (by exact trivial) ?_) | (refine And.intro ?ob ?_; case ob => ((try simp only [sxO, ne_eq, maxLen] at *); omega)) | fail) <;> (try simp (config := { maxSteps := 1000000 }) only [hb0, hn1.one, hd1.one, hn2.one, hd2.one, ↓hold_pre, awayP, runOps, regK, step1, newK, genR, appR, obl, buildR, Value.cells, closeK, keepH, outV, retK, ret1, retC, RetV, Option.getD, runD, stepD, afterK, undef, simprocAttr, sxB, ↓sxD, sxE, sxTab]))
  have m3 : Mem.le M2 M3 := m3
  have hn1 := hn1.le m3
  have hd1 := hd1.le m3
  have hn2 := hn2.le m3
  have hd2 := hd2.le m3
  have fs := fs.le hm
  have hm := hm.trans m3
  refine Stop.go ?_
  (replace hb0 := true_and True); refine Go1.mk ?_; repeat' ((first | (with_reducible refine Go1.go ?_) | ((with_reducible first | refine brv_mk ?_ ?_ | refine gsplitD ?_ ?_ | refine gsplitG ?_ ?_) <;> intro h <;> (try simp only [Bool.not_eq_true', Bool.not_eq_false'] at h) <;> replace hb0 := h) | ((first | (with_reducible refine isCall (f := 64) ?_; refine callA_nil (by kernel_rfl) ?_) | (with_reducible refine isCall0 (f := 64) ?_; refine callA0_nil (by kernel_rfl) ?_)); refine (mul_ok u2 v2 d1 d2 hd1 hd2 (by omega) (by omega) (fun wp M4 m4 hp fp => Stop.mk ?_))) | ((with_reducible refine isDraw [some 15, some 16, some 17, some 18, some 19, some 20, some 21, some 22, some 23, some 24, some 25, some 26, some 27, none, some 5] (by decide) ?_); refine draw_rule [(0, []), (1, []), (2, [1]), (3, [1]), (5, [1, 3]), (6, [1, 3]), (7, [1, 3, 6]), (8, [1, 3, 6]), (4, [6, 8]), (9, []), (10, []), (11, []), (12, []), (13, []), (14, [])] [[], [0], [], [2], [0, 1, 2, 3], [], [5], [], [7], [0, 1, 2, 3, 4, 5, 6, 7, 8], [0, 1, 2, 3, 4, 5, 6, 7, 8, 9], [0, 1, 2, 3, 4, 5, 6, 7, 8, 9, 10], [0, 1, 2, 3, 4, 5, 6, 7, 8, 9, 10], [0, 1, 2, 3, 4, 5, 6, 7, 8, 9, 10, 11, 12], [0, 1, 2, 3, 4, 5, 6, 7, 8, 9, 10, 11, 12, 13]] [15, 16, 17, 18, 19, 20, 21, 22, 23, 26, 27] [] (by kernel_rfl) (by kernel_rfl) (by kernel_rfl) (by kernel_rfl) (by exact trivial) ?_) | (refine And.intro ?ob ?_; case ob => ((try simp only [sxO, ne_eq, maxLen] at *); omega)) | fail) <;> (try simp (config := { maxSteps := 1000000 }) only [hb0, hn1.one, hd1.one, hn2.one, hd2.one, hs.one, ↓hold_pre, awayP, runOps, regK, step1, newK, genR, appR, obl, buildR, Value.cells, closeK, keepH, outV, retK, ret1, retC, RetV, Option.getD, runD, stepD, afterK, undef, simprocAttr, sxB, ↓sxD, sxE, sxTab]))
  have m4 : Mem.le M3 M4 := m4
  have hn1 := hn1.le m4
  have hd1 := hd1.le m4
  have hn2 := hn2.le m4
  have hd2 := hd2.le m4
  have hs := hs.le m4
  have fp := fp.le hm
  have hm := hm.trans m4
  refine Stop.go ?_
  (replace hb0 := true_and True); refine Go1.mk ?_; repeat' ((first | (with_reducible refine Go1.go ?_) | ((with_reducible first | refine brv_mk ?_ ?_ | refine gsplitD ?_ ?_ | refine gsplitG ?_ ?_) <;> intro h <;> (try simp only [Bool.not_eq_true', Bool.not_eq_false'] at h) <;> replace hb0 := h) | ((first | (with_reducible refine isCall (f := 51) ?_; refine callA_nil (by kernel_rfl) ?_) | (with_reducible refine isCall0 (f := 51) ?_; refine callA0_nil (by kernel_rfl) ?_)); refine (exact_ok ws wp _ _ hs hp (by omega) (by omega) t0 (fun w1 w2 M5 m5 h1 h2 f1 f2 => Stop.mk ?_))) | ((with_reducible refine isDraw [some 15, some 16, some 17, some 18, some 19, some 20, some 21, some 22, some 23, some 24, some 25, some 26, some 27, none, some 5] (by decide) ?_); refine draw_rule [(0, []), (1, []), (2, [1]), (3, [1]), (5, [1, 3]), (6, [1, 3]), (7, [1, 3, 6]), (8, [1, 3, 6]), (4, [6, 8]), (9, []), (10, []), (11, []), (12, []), (13, []), (14, [])] [[], [0], [], [2], [0, 1, 2, 3], [], [5], [], [7], [0, 1, 2, 3, 4, 5, 6, 7, 8], [0, 1, 2, 3, 4, 5, 6, 7, 8, 9], [0, 1, 2, 3, 4, 5, 6, 7, 8, 9, 10], [0, 1, 2, 3, 4, 5, 6, 7, 8, 9, 10], [0, 1, 2, 3, 4, 5, 6, 7, 8, 9, 10, 11, 12], [0, 1, 2, 3, 4, 5, 6, 7, 8, 9, 10, 11, 12, 13]] [15, 16, 17, 18, 19, 20, 21, 22, 23, 26, 27] [] (by kernel_rfl) (by kernel_rfl) (by kernel_rfl) (by kernel_rfl) (by exact trivial) ?_) | (refine And.intro ?ob ?_; case ob => ((try simp only [sxO, ne_eq, maxLen] at *); omega)) | fail) <;> (try simp (config := { maxSteps := 1000000 }) only [hb0, hn1.one, hd1.one, hn2.one, hd2.one, hs.one, hp.one, ↓hold_pre, awayP, runOps, regK, step1, newK, genR, appR, obl, buildR, Value.cells, closeK, keepH, outV, retK, ret1, retC, RetV, Option.getD, runD, stepD, afterK, undef, simprocAttr, sxB, ↓sxD, sxE, sxTab]))
  have m5 : Mem.le M4 M5 := m5
  have hn1 := hn1.le m5
  have hd1 := hd1.le m5
  have hn2 := hn2.le m5
  have hd2 := hd2.le m5
  have hs := hs.le m5
  have hp := hp.le m5
  have f1 := f1.le hm
  have f2 := f2.le hm
  have hm := hm.trans m5
  refine Stop.go ?_
  (replace hb0 := true_and True); refine Go1.mk ?_; repeat' ((first | (with_reducible refine Go1.go ?_) | ((with_reducible first | refine brv_mk ?_ ?_ | refine gsplitD ?_ ?_ | refine gsplitG ?_ ?_) <;> intro h <;> (try simp only [Bool.not_eq_true', Bool.not_eq_false'] at h) <;> replace hb0 := h) | (refine And.intro ?ob ?_; case ob => ((try simp only [sxO, ne_eq, maxLen] at *); omega)) | fail) <;> (try simp (config := { maxSteps := 1000000 }) only [hb0, hn1.one, hd1.one, hn2.one, hd2.one, hs.one, hp.one, h1.one, h2.one, ↓hold_pre, awayP, runOps, regK, step1, newK, genR, appR, obl, buildR, Value.cells, closeK, keepH, outV, retK, ret1, retC, RetV, Option.getD, runD, stepD, afterK, undef, simprocAttr, sxB, ↓sxD, sxE, sxTab]))
  exact hK _ _ _ hm h1 h2 f1 f2
theorem fdiv_ok (ha : IsF M u1 u2 l1 l2) (hb : IsF M v1 v2 k1 k2) (hK : FracK M K (divF l1 l2 k1 k2)) : CallS Tryd.prog 28 [.ext (.agg #[u1, u2]), .ext (.agg #[v1, v2])] [] M [] K := by
  refine inlS (cs := []) Tryd.mixed Tryd.func28 rfl (by kernel_rfl) 0 rfl rfl ?_
  simp only [Tryd.f28]
  unfold divF at hK
  (replace hb0 := true_and True); refine Go1.mk ?_; repeat' ((first | (with_reducible refine Go1.go ?_) | ((with_reducible first | refine brv_mk ?_ ?_ | refine gsplitD ?_ ?_ | refine gsplitG ?_ ?_) <;> intro h <;> (try simp only [Bool.not_eq_true', Bool.not_eq_false'] at h) <;> replace hb0 := h) | ((first | (with_reducible refine isCall (f := 16) ?_; refine callA_nil (by kernel_rfl) ?_) | (with_reducible refine isCall0 (f := 16) ?_; refine callA0_nil (by kernel_rfl) ?_)); refine (fcheck_ok ha.n ha.d ha.on ha.od ha.bn ha.bd (fun M1 m1 => Stop.mk ?_))) | (refine And.intro ?ob ?_; case ob => ((try simp only [sxO, ne_eq, maxLen] at *); omega)) | fail) <;> (try simp (config := { maxSteps := 1000000 }) only [hb0, ha.n.one, ha.d.one, hb.n.one, hb.d.one, ↓hold_pre, awayP, runOps, regK, step1, newK, genR, appR, obl, buildR, Value.cells, closeK, keepH, outV, retK, ret1, retC, RetV, Option.getD, runD, stepD, afterK, undef, simprocAttr, sxB, ↓sxD, sxE, sxTab]))
  have m1 : Mem.le M M1 := m1
  have ha1 := ha.le m1
  have hb1 := hb.le m1
  refine Stop.go ?_
  cases hc1 : chkF l1 l2 with
  | false =>
    rw [hc1] at hK
    (replace hb0 := true_and True); refine Go1.mk ?_; repeat' ((first | (with_reducible refine Go1.go ?_) | ((with_reducible first | refine brv_mk ?_ ?_ | refine gsplitD ?_ ?_ | refine gsplitG ?_ ?_) <;> intro h <;> (try simp only [Bool.not_eq_true', Bool.not_eq_false'] at h) <;> replace hb0 := h) | (refine And.intro ?ob ?_; case ob => ((try simp only [sxO, ne_eq, maxLen] at *); omega)) | fail) <;> (try simp (config := { maxSteps := 1000000 }) only [hb0, ha1.n.one, ha1.d.one, hb1.n.one, hb1.d.one, ↓hold_pre, awayP, runOps, regK, step1, newK, genR, appR, obl, buildR, Value.cells, closeK, keepH, outV, retK, ret1, retC, RetV, Option.getD, runD, stepD, afterK, undef, simprocAttr, sxB, ↓sxD, sxE, sxTab]))
    exact hK.err _ m1
  | true =>
  (replace hb0 := true_and True); refine Go1.mk ?_; repeat' ((first | (with_reducible refine Go1.go ?_) | ((with_reducible first | refine brv_mk ?_ ?_ | refine gsplitD ?_ ?_ | refine gsplitG ?_ ?_) <;> intro h <;> (try simp only [Bool.not_eq_true', Bool.not_eq_false'] at h) <;> replace hb0 := h) | ((first | (with_reducible refine isCall (f := 16) ?_; refine callA_nil (by kernel_rfl) ?_) | (with_reducible refine isCall0 (f := 16) ?_; refine callA0_nil (by kernel_rfl) ?_)); refine (fcheck_ok hb1.n hb1.d hb1.on hb1.od hb1.bn hb1.bd (fun M2 m2 => Stop.mk ?_))) | (refine And.intro ?ob ?_; case ob => ((try simp only [sxO, ne_eq, maxLen] at *); omega)) | fail) <;> (try simp (config := { maxSteps := 1000000 }) only [hb0, ha1.n.one, ha1.d.one, hb1.n.one, hb1.d.one, ↓hold_pre, awayP, runOps, regK, step1, newK, genR, appR, obl, buildR, Value.cells, closeK, keepH, outV, retK, ret1, retC, RetV, Option.getD, runD, stepD, afterK, undef, simprocAttr, sxB, ↓sxD, sxE, sxTab]))
  have m2 : Mem.le M1 M2 := m2
  have ha2 := ha1.le m2
  have hb2 := hb1.le m2
  have hm := m1.trans m2
  refine Stop.go ?_
  cases hc2 : chkF k1 k2 with
  | false =>
    rw [hc1, hc2] at hK
    (replace hb0 := true_and True); refine Go1.mk ?_; repeat' ((first | (with_reducible refine Go1.go ?_) | ((with_reducible first | refine brv_mk ?_ ?_ | refine gsplitD ?_ ?_ | refine gsplitG ?_ ?_) <;> intro h <;> (try simp only [Bool.not_eq_true', Bool.not_eq_false'] at h) <;> replace hb0 := h) | (refine And.intro ?ob ?_; case ob => ((try simp only [sxO, ne_eq, maxLen] at *); omega)) | fail) <;> (try simp (config := { maxSteps := 1000000 }) only [hb0, ha2.n.one, ha2.d.one, hb2.n.one, hb2.d.one, ↓hold_pre, awayP, runOps, regK, step1, newK, genR, appR, obl, buildR, Value.cells, closeK, keepH, outV, retK, ret1, retC, RetV, Option.getD, runD, stepD, afterK, undef, simprocAttr, sxB, ↓sxD, sxE, sxTab]))
    exact hK.err _ hm
  | true =>
  rw [hc1, hc2, Bool.and_self, if_pos rfl] at hK
  obtain ⟨n1, d1, hn1, hd1, e1, e2, q1, q2, q3⟩ := ha2.num hc1
  obtain ⟨n2, d2, hn2, hd2, e3, e4, r1, r2, r3⟩ := hb2.num hc2
  rw [e1, e2, e3, e4] at hK
  have t1 := mul_len n1 d2
  have t2 := mul_len n2 d1
  have t3 := mul_len d1 d2
  have t4 := mul_len n1 n2
  have t0 : 0 < d1 * d2 := Nat.mul_pos q3 r3
  by_cases hz : n2 = 0
  · have z1 : decide (((ofN n2).length : Int) = 0) = true := by rw [hz, ofN_zero]; rfl
    rw [if_pos hz] at hK
    (replace hb0 := true_and True); refine Go1.mk ?_; repeat' ((first | (with_reducible refine Go1.go ?_) | ((with_reducible first | refine brv_mk ?_ ?_ | refine gsplitD ?_ ?_ | refine gsplitG ?_ ?_) <;> intro h <;> (try simp only [Bool.not_eq_true', Bool.not_eq_false'] at h) <;> replace hb0 := h) | (refine And.intro ?ob ?_; case ob => ((try simp only [sxO, ne_eq, maxLen] at *); omega)) | fail) <;> (try simp (config := { maxSteps := 1000000 }) only [hb0, hn1.one, hd1.one, hn2.one, hn2.len, hn2.sl, hd2.one, z1, ↓hold_pre, awayP, runOps, regK, step1, newK, genR, appR, obl, buildR, Value.cells, closeK, keepH, outV, retK, ret1, retC, RetV, Option.getD, runD, stepD, afterK, undef, simprocAttr, sxB, ↓sxD, sxE, sxTab]))
    exact hK.err _ hm
  rw [if_neg hz] at hK
  have z1 : decide (((ofN n2).length : Int) = 0) = false := by
    rw [decide_eq_false_iff_not]
    intro h
    exact hz (ofN_nil.1 (List.length_eq_zero_iff.1 (by omega)))
  have z0 : 0 < n2 * d1 := Nat.mul_pos (by omega) q3
  (replace hb0 := true_and True); refine Go1.mk ?_; repeat' ((first | (with_reducible refine Go1.go ?_) | ((with_reducible first | refine brv_mk ?_ ?_ | refine gsplitD ?_ ?_ | refine gsplitG ?_ ?_) <;> intro h <;> (try simp only [Bool.not_eq_true', Bool.not_eq_false'] at h) <;> replace hb0 := h) | ((first | (with_reducible refine isCall (f := 61) ?_; refine callA_nil (by kernel_rfl) ?_) | (with_reducible refine isCall0 (f := 61) ?_; refine callA0_nil (by kernel_rfl) ?_)); refine (cross_ok hn1 hd1 hn2 hd2 (by omega) (by omega) (by omega) (by omega) (fun wx wy M3 m3 hx hy fx fy => Stop.mk ?_))) | (refine And.intro ?ob ?_; case ob => ((try simp only [sxO, ne_eq, maxLen] at *); omega)) | fail) <;> (try simp (config := { maxSteps := 1000000 }) only [hb0, hn1.one, hd1.one, hn2.one, hd2.one, hn2.len, hn2.sl, z1, ↓hold_pre, awayP, runOps, regK, step1, newK, genR, appR, obl, buildR, Value.cells, closeK, keepH, outV, retK, ret1, retC, RetV, Option.getD, runD, stepD, afterK, undef, simprocAttr, sxB, ↓sxD, sxE, sxTab]))
  have m3 : Mem.le M2 M3 := m3
  have hn1 := hn1.le m3
  have hd1 := hd1.le m3
  have hn2 := hn2.le m3
  have hd2 := hd2.le m3
  have fx := fx.le hm
  have fy := fy.le hm
  have hm := hm.trans m3
  refine Stop.go ?_
  (replace hb0 := true_and True); refine Go1.mk ?_; repeat' ((first | (with_reducible refine Go1.go ?_) | ((with_reducible first | refine brv_mk ?_ ?_ | refine gsplitD ?_ ?_ | refine gsplitG ?_ ?_) <;> intro h <;> (try simp only [Bool.not_eq_true', Bool.not_eq_false'] at h) <;> replace hb0 := h) | ((first | (with_reducible refine isCall (f := 51) ?_; refine callA_nil (by kernel_rfl) ?_) | (with_reducible refine isCall0 (f := 51) ?_; refine callA0_nil (by kernel_rfl) ?_)); refine (exact_ok wx wy _ _ hx hy (by omega) (by omega) z0 (fun w1 w2 M4 m4 h1 h2 f1 f2 => Stop.mk ?_))) | (refine And.intro ?ob ?_; case ob => ((try simp only [sxO, ne_eq, maxLen] at *); omega)) | fail) <;> (try simp (config := { maxSteps := 1000000 }) only [hb0, hn1.one, hd1.one, hn2.one, hd2.one, hx.one, hy.one, ↓hold_pre, awayP, runOps, regK, step1, newK, genR, appR, obl, buildR, Value.cells, closeK, keepH, outV, retK, ret1, retC, RetV, Option.getD, runD, stepD, afterK, undef, simprocAttr, sxB, ↓sxD, sxE, sxTab]))
  have m4 : Mem.le M3 M4 := m4
  have hn1 := hn1.le m4
  have hd1 := hd1.le m4
  have hn2 := hn2.le m4
  have hd2 := hd2.le m4
  have hx := hx.le m4
  have hy := hy.le m4
  have f1 := f1.le hm
  have f2 := f2.le hm
  have hm := hm.trans m4
  refine Stop.go ?_
  (replace hb0 := true_and True); refine Go1.mk ?_; repeat' ((first | (with_reducible refine Go1.go ?_) | ((with_reducible first | refine brv_mk ?_ ?_ | refine gsplitD ?_ ?_ | refine gsplitG ?_ ?_) <;> intro h <;> (try simp only [Bool.not_eq_true', Bool.not_eq_false'] at h) <;> replace hb0 := h) | (refine And.intro ?ob ?_; case ob => ((try simp only [sxO, ne_eq, maxLen] at *); omega)) | fail) <;> (try simp (config := { maxSteps := 1000000 }) only [hb0, hn1.one, hd1.one, hn2.one, hd2.one, hx.one, hy.one, h1.one, h2.one, ↓hold_pre, awayP, runOps, regK, step1, newK, genR, appR, obl, buildR, Value.cells, closeK, keepH, outV, retK, ret1, retC, RetV, Option.getD, runD, stepD, afterK, undef, simprocAttr, sxB, ↓sxD, sxE, sxTab]))
  exact hK _ _ _ hm h1 h2 f1 f2
theorem fsub_ok (ha : IsF M u1 u2 l1 l2) (hb : IsF M v1 v2 k1 k2) (hK : FracK M K (subF l1 l2 k1 k2)) : CallS Tryd.prog 24 [.ext (.agg #[u1, u2]), .ext (.agg #[v1, v2])] [] M [] K := by
  refine inlS (cs := []) Tryd.mixed Tryd.func24 rfl (by kernel_rfl) 0 rfl rfl ?_
  simp only [Tryd.f24]
  unfold subF at hK
  (replace hb0 := true_and True); refine Go1.mk ?_; repeat' ((first | (with_reducible refine Go1.go ?_) | ((with_reducible first | refine brv_mk ?_ ?_ | refine gsplitD ?_ ?_ | refine gsplitG ?_ ?_) <;> intro h <;> (try simp only [Bool.not_eq_true', Bool.not_eq_false'] at h) <;> replace hb0 := h) | ((first | (with_reducible refine isCall (f := 16) ?_; refine callA_nil (by kernel_rfl) ?_) | (with_reducible refine isCall0 (f := 16) ?_; refine callA0_nil (by kernel_rfl) ?_)); refine (fcheck_ok ha.n ha.d ha.on ha.od ha.bn ha.bd (fun M1 m1 => Stop.mk ?_))) | (refine And.intro ?ob ?_; case ob => ((try simp only [sxO, ne_eq, maxLen] at *); omega)) | fail) <;> (try simp (config := { maxSteps := 1000000 }) only [hb0, ha.n.one, ha.d.one, hb.n.one, hb.d.one, ↓hold_pre, awayP, runOps, regK, step1, newK, genR, appR, obl, buildR, Value.cells, closeK, keepH, outV, retK, ret1, retC, RetV, Option.getD, runD, stepD, afterK, undef, simprocAttr, sxB, ↓sxD, sxE, sxTab]))
  have m1 : Mem.le M M1 := m1
  have ha1 := ha.le m1
  have hb1 := hb.le m1
  refine Stop.go ?_
  cases hc1 : chkF l1 l2 with
  | false =>
    rw [hc1] at hK
    (replace hb0 := true_and True); refine Go1.mk ?_; repeat' ((first | (with_reducible refine Go1.go ?_) | ((with_reducible first | refine brv_mk ?_ ?_ | refine gsplitD ?_ ?_ | refine gsplitG ?_ ?_) <;> intro h <;> (try simp only [Bool.not_eq_true', Bool.not_eq_false'] at h) <;> replace hb0 := h) | (refine And.intro ?ob ?_; case ob => ((try simp only [sxO, ne_eq, maxLen] at *); omega)) | fail) <;> (try simp (config := { maxSteps := 1000000 }) only [hb0, ha1.n.one, ha1.d.one, hb1.n.one, hb1.d.one, ↓hold_pre, awayP, runOps, regK, step1, newK, genR, appR, obl, buildR, Value.cells, closeK, keepH, outV, retK, ret1, retC, RetV, Option.getD, runD, stepD, afterK, undef, simprocAttr, sxB, ↓sxD, sxE, sxTab]))
    exact hK.err _ m1
  | true =>
  (replace hb0 := true_and True); refine Go1.mk ?_; repeat' ((first | (with_reducible refine Go1.go ?_) | ((with_reducible first | refine brv_mk ?_ ?_ | refine gsplitD ?_ ?_ | refine gsplitG ?_ ?_) <;> intro h <;> (try simp only [Bool.not_eq_true', Bool.not_eq_false'] at h) <;> replace hb0 := h) | ((first | (with_reducible refine isCall (f := 16) ?_; refine callA_nil (by kernel_rfl) ?_) | (with_reducible refine isCall0 (f := 16) ?_; refine callA0_nil (by kernel_rfl) ?_)); refine (fcheck_ok hb1.n hb1.d hb1.on hb1.od hb1.bn hb1.bd (fun M2 m2 => Stop.mk ?_))) | (refine And.intro ?ob ?_; case ob => ((try simp only [sxO, ne_eq, maxLen] at *); omega)) | fail) <;> (try simp (config := { maxSteps := 1000000 }) only [hb0, ha1.n.one, ha1.d.one, hb1.n.one, hb1.d.one, ↓hold_pre, awayP, runOps, regK, step1, newK, genR, appR, obl, buildR, Value.cells, closeK, keepH, outV, retK, ret1, retC, RetV, Option.getD, runD, stepD, afterK, undef, simprocAttr, sxB, ↓sxD, sxE, sxTab]))
  have m2 : Mem.le M1 M2 := m2
  have ha2 := ha1.le m2
  have hb2 := hb1.le m2
  have hm := m1.trans m2
  refine Stop.go ?_
  cases hc2 : chkF k1 k2 with
  | false =>
    rw [hc1, hc2] at hK
    (replace hb0 := true_and True); refine Go1.mk ?_; repeat' ((first | (with_reducible refine Go1.go ?_) | ((with_reducible first | refine brv_mk ?_ ?_ | refine gsplitD ?_ ?_ | refine gsplitG ?_ ?_) <;> intro h <;> (try simp only [Bool.not_eq_true', Bool.not_eq_false'] at h) <;> replace hb0 := h) | (refine And.intro ?ob ?_; case ob => ((try simp only [sxO, ne_eq, maxLen] at *); omega)) | fail) <;> (try simp (config := { maxSteps := 1000000 }) only [hb0, ha2.n.one, ha2.d.one, hb2.n.one, hb2.d.one, ↓hold_pre, awayP, runOps, regK, step1, newK, genR, appR, obl, buildR, Value.cells, closeK, keepH, outV, retK, ret1, retC, RetV, Option.getD, runD, stepD, afterK, undef, simprocAttr, sxB, ↓sxD, sxE, sxTab]))
    exact hK.err _ hm
  | true =>
  rw [hc1, hc2, Bool.and_self, if_pos rfl] at hK
  obtain ⟨n1, d1, hn1, hd1, e1, e2, q1, q2, q3⟩ := ha2.num hc1
  obtain ⟨n2, d2, hn2, hd2, e3, e4, r1, r2, r3⟩ := hb2.num hc2
  rw [e1, e2, e3, e4] at hK
  have t1 := mul_len n1 d2
  have t2 := mul_len n2 d1
  have t3 := mul_len d1 d2
  have t4 := mul_len n1 n2
  have t0 : 0 < d1 * d2 := Nat.mul_pos q3 r3
  (replace hb0 := true_and True); refine Go1.mk ?_; repeat' ((first | (with_reducible refine Go1.go ?_) | ((with_reducible first | refine brv_mk ?_ ?_ | refine gsplitD ?_ ?_ | refine gsplitG ?_ ?_) <;> intro h <;> (try simp only [Bool.not_eq_true', Bool.not_eq_false'] at h) <;> replace hb0 := h) | ((first | (with_reducible refine isCall (f := 61) ?_; refine callA_nil (by kernel_rfl) ?_) | (with_reducible refine isCall0 (f := 61) ?_; refine callA0_nil (by kernel_rfl) ?_)); refine (cross_ok hn1 hd1 hn2 hd2 (by omega) (by omega) (by omega) (by omega) (fun wx wy M3 m3 hx hy fx fy => Stop.mk ?_))) | ((with_reducible refine isDraw [some 28, some 29, some 30, some 31, some 32, some 33, some 34, some 35, some 36, some 37, some 38, none, some 5] (by decide) ?_); refine draw_rule [(0, []), (1, []), (3, []), (4, []), (5, [4]), (6, [4]), (2, [4, 6]), (7, []), (8, []), (9, []), (10, []), (11, []), (12, [])] [[], [], [0, 1], [], [3], [], [5], [0, 1, 2, 3, 4, 5, 6], [0, 1, 2, 3, 4, 5, 6, 7], [0, 1, 2, 3, 4, 5, 6, 7, 8], [0, 1, 2, 3, 4, 5, 6, 7, 8], [0, 1, 2, 3, 4, 5, 6, 7, 8, 9, 10], [0, 1, 2, 3, 4, 5, 6, 7, 8, 9, 10, 11]] [28, 29, 30, 31, 32, 33, 34, 37, 38] [] (by kernel_rfl) (by kernel_rfl) (by kernel_rfl) (by kernel_rfl) (by exact trivial) ?_) | (refine And.intro ?ob ?_; case ob => ((try simp only [sxO, ne_eq, maxLen] at *); omega)) | fail) <;> (try simp (config := { maxSteps := 1000000 }) only [hb0, hn1.one, hd1.one, hn2.one, hd2.one, ↓hold_pre, awayP, runOps, regK, step1, newK, genR, appR, obl, buildR, Value.cells, closeK, keepH, outV, retK, ret1, retC, RetV, Option.getD, runD, stepD, afterK, undef, simprocAttr, sxB, ↓sxD, sxE, sxTab]))
  have m3 : Mem.le M2 M3 := m3
  have hn1 := hn1.le m3
  have hd1 := hd1.le m3
  have hn2 := hn2.le m3
  have hd2 := hd2.le m3
  have fx := fx.le hm
  have fy := fy.le hm
  have hm := hm.trans m3
  refine Stop.go ?_
  by_cases hlt : n1 * d2 < n2 * d1
  · have z1 : decide (cmpN (n1 * d2) (n2 * d1) < 0) = true := by rw [cmpN_lt hlt]; decide
    rw [if_pos hlt] at hK
    (replace hb0 := true_and True); refine Go1.mk ?_; repeat' ((first | (with_reducible refine Go1.go ?_) | ((with_reducible first | refine brv_mk ?_ ?_ | refine gsplitD ?_ ?_ | refine gsplitG ?_ ?_) <;> intro h <;> (try simp only [Bool.not_eq_true', Bool.not_eq_false'] at h) <;> replace hb0 := h) | ((first | (with_reducible refine isCall (f := 60) ?_; refine callA_nil (by kernel_rfl) ?_) | (with_reducible refine isCall0 (f := 60) ?_; refine callA0_nil (by kernel_rfl) ?_)); refine (compare_ok wx wy _ _ hx hy (by omega) (by omega) ?_)) | (refine And.intro ?ob ?_; case ob => ((try simp only [sxO, ne_eq, maxLen] at *); omega)) | fail) <;> (try simp (config := { maxSteps := 1000000 }) only [hb0, hn1.one, hd1.one, hn2.one, hd2.one, hx.one, hy.one, z1, ↓hold_pre, awayP, runOps, regK, step1, newK, genR, appR, obl, buildR, Value.cells, closeK, keepH, outV, retK, ret1, retC, RetV, Option.getD, runD, stepD, afterK, undef, simprocAttr, sxB, ↓sxD, sxE, sxTab]))
    exact hK.err _ hm
  have z1 : decide (cmpN (n1 * d2) (n2 * d1) < 0) = false := by
    rw [decide_eq_false_iff_not]; unfold cmpN; rw [if_neg hlt]; split <;> omega
  rw [if_neg hlt] at hK
  have t5 := len_mono (show n1 * d2 - n2 * d1 ≤ n1 * d2 by omega)
  (replace hb0 := true_and True); refine Go1.mk ?_; repeat' ((first | (with_reducible refine Go1.go ?_) | ((with_reducible first | refine brv_mk ?_ ?_ | refine gsplitD ?_ ?_ | refine gsplitG ?_ ?_) <;> intro h <;> (try simp only [Bool.not_eq_true', Bool.not_eq_false'] at h) <;> replace hb0 := h) | ((first | (with_reducible refine isCall (f := 60) ?_; refine callA_nil (by kernel_rfl) ?_) | (with_reducible refine isCall0 (f := 60) ?_; refine callA0_nil (by kernel_rfl) ?_)); refine (compare_ok wx wy _ _ hx hy (by omega) (by omega) ?_)) | ((first | (with_reducible refine isCall (f := 67) ?_; refine callA_nil (by kernel_rfl) ?_) | (with_reducible refine isCall0 (f := 67) ?_; refine callA0_nil (by kernel_rfl) ?_)); refine (sub_ok wx wy _ _ hx hy (by omega) (by omega) (fun ws M4 m4 hs fs => Stop.mk ?_))) | ((with_reducible refine isDraw [some 28, some 29, some 30, some 31, some 32, some 33, some 34, some 35, some 36, some 37, some 38, none, some 5] (by decide) ?_); refine draw_rule [(0, []), (1, []), (3, []), (4, []), (5, [4]), (6, [4]), (2, [4, 6]), (7, []), (8, []), (9, []), (10, []), (11, []), (12, [])] [[], [], [0, 1], [], [3], [], [5], [0, 1, 2, 3, 4, 5, 6], [0, 1, 2, 3, 4, 5, 6, 7], [0, 1, 2, 3, 4, 5, 6, 7, 8], [0, 1, 2, 3, 4, 5, 6, 7, 8], [0, 1, 2, 3, 4, 5, 6, 7, 8, 9, 10], [0, 1, 2, 3, 4, 5, 6, 7, 8, 9, 10, 11]] [28, 29, 30, 31, 32, 33, 34, 37, 38] [] (by kernel_rfl) (by kernel_rfl) (by kernel_rfl) (by kernel_rfl) (by exact trivial) ?_) | (refine And.intro ?ob ?_; case ob => ((try simp only [sxO, ne_eq, maxLen] at *); omega)) | fail) <;> (try simp (config := { maxSteps := 1000000 }) only [hb0, hn1.one, hd1.one, hn2.one, hd2.one, hx.one, hy.one, z1, ↓hold_pre, awayP, runOps, regK, step1, newK, genR, appR, obl, buildR, Value.cells, closeK, keepH, outV, retK, ret1, retC, RetV, Option.getD, runD, stepD, afterK, undef, simprocAttr, sxB, ↓sxD, sxE, sxTab]))
  have m4 : Mem.le M3 M4 := m4
  have hn1 := hn1.le m4
  have hd1 := hd1.le m4
  have hn2 := hn2.le m4
  have hd2 := hd2.le m4
  have hx := hx.le m4
  have hy := hy.le m4
  have fs := fs.le hm
  have hm := hm.trans m4
  refine Stop.go ?_
  (replace hb0 := true_and True); refine Go1.mk ?_; repeat' ((first | (with_reducible refine Go1.go ?_) | ((with_reducible first | refine brv_mk ?_ ?_ | refine gsplitD ?_ ?_ | refine gsplitG ?_ ?_) <;> intro h <;> (try simp only [Bool.not_eq_true', Bool.not_eq_false'] at h) <;> replace hb0 := h) | ((first | (with_reducible refine isCall (f := 64) ?_; refine callA_nil (by kernel_rfl) ?_) | (with_reducible refine isCall0 (f := 64) ?_; refine callA0_nil (by kernel_rfl) ?_)); refine (mul_ok u2 v2 d1 d2 hd1 hd2 (by omega) (by omega) (fun wp M5 m5 hp fp => Stop.mk ?_))) | ((with_reducible refine isDraw [some 28, some 29, some 30, some 31, some 32, some 33, some 34, some 35, some 36, some 37, some 38, none, some 5] (by decide) ?_); refine draw_rule [(0, []), (1, []), (3, []), (4, []), (5, [4]), (6, [4]), (2, [4, 6]), (7, []), (8, []), (9, []), (10, []), (11, []), (12, [])] [[], [], [0, 1], [], [3], [], [5], [0, 1, 2, 3, 4, 5, 6], [0, 1, 2, 3, 4, 5, 6, 7], [0, 1, 2, 3, 4, 5, 6, 7, 8], [0, 1, 2, 3, 4, 5, 6, 7, 8], [0, 1, 2, 3, 4, 5, 6, 7, 8, 9, 10], [0, 1, 2, 3, 4, 5, 6, 7, 8, 9, 10, 11]] [28, 29, 30, 31, 32, 33, 34, 37, 38] [] (by kernel_rfl) (by kernel_rfl) (by kernel_rfl) (by kernel_rfl) (by exact trivial) ?_) | (refine And.intro ?ob ?_; case ob => ((try simp only [sxO, ne_eq, maxLen] at *); omega)) | fail) <;> (try simp (config := { maxSteps := 1000000 }) only [hb0, hn1.one, hd1.one, hn2.one, hd2.one, hx.one, hy.one, hs.one, ↓hold_pre, awayP, runOps, regK, step1, newK, genR, appR, obl, buildR, Value.cells, closeK, keepH, outV, retK, ret1, retC, RetV, Option.getD, runD, stepD, afterK, undef, simprocAttr, sxB, ↓sxD, sxE, sxTab]))
  have m5 : Mem.le M4 M5 := m5
  have hn1 := hn1.le m5
  have hd1 := hd1.le m5
  have hn2 := hn2.le m5
  have hd2 := hd2.le m5
  have hx := hx.le m5
  have hy := hy.le m5
  have hs := hs.le m5
  have fp := fp.le hm
  have hm := hm.trans m5
  refine Stop.go ?_
  (replace hb0 := true_and True); refine Go1.mk ?_; repeat' ((first | (with_reducible refine Go1.go ?_) | ((with_reducible first | refine brv_mk ?_ ?_ | refine gsplitD ?_ ?_ | refine gsplitG ?_ ?_) <;> intro h <;> (try simp only [Bool.not_eq_true', Bool.not_eq_false'] at h) <;> replace hb0 := h) | ((first | (with_reducible refine isCall (f := 51) ?_; refine callA_nil (by kernel_rfl) ?_) | (with_reducible refine isCall0 (f := 51) ?_; refine callA0_nil (by kernel_rfl) ?_)); refine (exact_ok ws wp _ _ hs hp (by omega) (by omega) t0 (fun w1 w2 M6 m6 h1 h2 f1 f2 => Stop.mk ?_))) | ((with_reducible refine isDraw [some 28, some 29, some 30, some 31, some 32, some 33, some 34, some 35, some 36, some 37, some 38, none, some 5] (by decide) ?_); refine draw_rule [(0, []), (1, []), (3, []), (4, []), (5, [4]), (6, [4]), (2, [4, 6]), (7, []), (8, []), (9, []), (10, []), (11, []), (12, [])] [[], [], [0, 1], [], [3], [], [5], [0, 1, 2, 3, 4, 5, 6], [0, 1, 2, 3, 4, 5, 6, 7], [0, 1, 2, 3, 4, 5, 6, 7, 8], [0, 1, 2, 3, 4, 5, 6, 7, 8], [0, 1, 2, 3, 4, 5, 6, 7, 8, 9, 10], [0, 1, 2, 3, 4, 5, 6, 7, 8, 9, 10, 11]] [28, 29, 30, 31, 32, 33, 34, 37, 38] [] (by kernel_rfl) (by kernel_rfl) (by kernel_rfl) (by kernel_rfl) (by exact trivial) ?_) | (refine And.intro ?ob ?_; case ob => ((try simp only [sxO, ne_eq, maxLen] at *); omega)) | fail) <;> (try simp (config := { maxSteps := 1000000 }) only [hb0, hn1.one, hd1.one, hn2.one, hd2.one, hx.one, hy.one, hs.one, hp.one, ↓hold_pre, awayP, runOps, regK, step1, newK, genR, appR, obl, buildR, Value.cells, closeK, keepH, outV, retK, ret1, retC, RetV, Option.getD, runD, stepD, afterK, undef, simprocAttr, sxB, ↓sxD, sxE, sxTab]))
  have m6 : Mem.le M5 M6 := m6
  have hn1 := hn1.le m6
  have hd1 := hd1.le m6
  have hn2 := hn2.le m6
  have hd2 := hd2.le m6
  have hx := hx.le m6
  have hy := hy.le m6
  have hs := hs.le m6
  have hp := hp.le m6
  have f1 := f1.le hm
  have f2 := f2.le hm
  have hm := hm.trans m6
  refine Stop.go ?_
  (replace hb0 := true_and True); refine Go1.mk ?_; repeat' ((first | (with_reducible refine Go1.go ?_) | ((with_reducible first | refine brv_mk ?_ ?_ | refine gsplitD ?_ ?_ | refine gsplitG ?_ ?_) <;> intro h <;> (try simp only [Bool.not_eq_true', Bool.not_eq_false'] at h) <;> replace hb0 := h) | (refine And.intro ?ob ?_; case ob => ((try simp only [sxO, ne_eq, maxLen] at *); omega)) | fail) <;> (try simp (config := { maxSteps := 1000000 }) only [hb0, hn1.one, hd1.one, hn2.one, hd2.one, hx.one, hy.one, hs.one, hp.one, h1.one, h2.one, ↓hold_pre, awayP, runOps, regK, step1, newK, genR, appR, obl, buildR, Value.cells, closeK, keepH, outV, retK, ret1, retC, RetV, Option.getD, runD, stepD, afterK, undef, simprocAttr, sxB, ↓sxD, sxE, sxTab]))
  exact hK _ _ _ hm h1 h2 f1 f2
end
end Go.Proofs.YtamghpnjdohnjaaDoor.Sx
namespace Go.Proofs.YtamghpnjdohnjaaDoor.Sx
open Go Go.RowKit
set_option linter.unusedVariables false
set_option linter.unusedSimpArgs false
set_option maxRecDepth 100000
set_option maxHeartbeats 8000000
attribute [local congr] fin_congr finG_congr stepG_congr step1_congr runOps_congr brv_congr obl_congr condK_congr LoopK_congr seqK_congr CutK_congr vc_congr DrawK_congr regK_congr CallK_congr AskK_congr newK_congr retC_congr ret1_congr retK_congr outV_congr closeK_congr genR_congr appR_congr finD_congr finGD_congr stepGD_congr stepD_congr CallK0_congr runD_congr okR_congr CallS_congr vcX_congr
attribute [local congr] Stop_congr
end Go.Proofs.YtamghpnjdohnjaaDoor.Sx
namespace Go.Proofs.YtamghpnjdohnjaaDoor.Sx
open Go Go.RowKit
set_option linter.unusedVariables false
set_option linter.unusedSimpArgs false
set_option maxRecDepth 100000
set_option maxHeartbeats 8000000
attribute [local congr] fin_congr finG_congr stepG_congr step1_congr runOps_congr brv_congr obl_congr condK_congr LoopK_congr seqK_congr CutK_congr vc_congr DrawK_congr regK_congr CallK_congr AskK_congr newK_congr retC_congr ret1_congr retK_congr outV_congr closeK_congr genR_congr appR_congr finD_congr finGD_congr stepGD_congr stepD_congr CallK0_congr runD_congr okR_congr CallS_congr vcX_congr
attribute [local congr] Stop_congr
section
variable {M : Mem} {K : AV → Hp → Mem → Prop}
end
end Go.Proofs.YtamghpnjdohnjaaDoor.Sx
namespace Go.Proofs.YtamghpnjdohnjaaDoor.Sx
open Go Go.RowKit
set_option linter.unusedVariables false
set_option linter.unusedSimpArgs false
set_option maxRecDepth 100000
set_option maxHeartbeats 8000000
attribute [local congr] fin_congr finG_congr stepG_congr step1_congr runOps_congr brv_congr obl_congr condK_congr LoopK_congr seqK_congr CutK_congr vc_congr DrawK_congr regK_congr CallK_congr AskK_congr newK_congr retC_congr ret1_congr retK_congr outV_congr closeK_congr genR_congr appR_congr finD_congr finGD_congr stepGD_congr stepD_congr CallK0_congr runD_congr okR_congr CallS_congr vcX_congr
attribute [local congr] Stop_congr
section
variable {M : Mem} {K : AV → Hp → Mem → Prop}
structure OwnN (L : List Nat) (o m x : Nat) : Prop where
  le : o + m ≤ L.length
  ok : okN L
  eq : (L.drop o).take m = ofN x
theorem OwnN.len {L : List Nat} {o m x : Nat} (h : OwnN L o m x) : m = (ofN x).length := by
  rw [← h.eq, List.length_take, List.length_drop]
  have := h.le
  omega
end
end Go.Proofs.YtamghpnjdohnjaaDoor.Sx
namespace Go.Proofs.YtamghpnjdohnjaaDoor.Sx
open Go Go.RowKit
set_option linter.unusedVariables false
set_option linter.unusedSimpArgs false
set_option maxRecDepth 100000
set_option maxHeartbeats 8000000
attribute [local congr] fin_congr finG_congr stepG_congr step1_congr runOps_congr brv_congr obl_congr condK_congr LoopK_congr seqK_congr CutK_congr vc_congr DrawK_congr regK_congr CallK_congr AskK_congr newK_congr retC_congr ret1_congr retK_congr outV_congr closeK_congr genR_congr appR_congr finD_congr finGD_congr stepGD_congr stepD_congr CallK0_congr runD_congr okR_congr CallS_congr vcX_congr
attribute [local congr] Stop_congr
section
variable {M : Mem} {K : AV → Hp → Mem → Prop}
end
end Go.Proofs.YtamghpnjdohnjaaDoor.Sx
namespace Go.Proofs.YtamghpnjdohnjaaDoor.Sx
open Go Go.RowKit
set_option linter.unusedVariables false
set_option linter.unusedSimpArgs false
set_option maxRecDepth 100000
set_option maxHeartbeats 8000000
attribute [local congr] fin_congr finG_congr stepG_congr step1_congr runOps_congr brv_congr obl_congr condK_congr LoopK_congr seqK_congr CutK_congr vc_congr DrawK_congr regK_congr CallK_congr AskK_congr newK_congr retC_congr ret1_congr retK_congr outV_congr closeK_congr genR_congr appR_congr finD_congr finGD_congr stepGD_congr stepD_congr CallK0_congr runD_congr okR_congr CallS_congr vcX_congr
attribute [local congr] Stop_congr
section
variable {M : Mem} {K : AV → Hp → Mem → Prop}
end
end Go.Proofs.YtamghpnjdohnjaaDoor.Sx
namespace Go.Proofs.YtamghpnjdohnjaaDoor.Sx
open Go Go.RowKit
set_option linter.unusedVariables false
set_option linter.unusedSimpArgs false
set_option maxRecDepth 100000
set_option maxHeartbeats 8000000
attribute [local congr] fin_congr finG_congr stepG_congr step1_congr runOps_congr brv_congr obl_congr condK_congr LoopK_congr seqK_congr CutK_congr vc_congr DrawK_congr regK_congr CallK_congr AskK_congr newK_congr retC_congr ret1_congr retK_congr outV_congr closeK_congr genR_congr appR_congr finD_congr finGD_congr stepGD_congr stepD_congr CallK0_congr runD_congr okR_congr CallS_congr vcX_congr
attribute [local congr] Stop_congr
section
variable {M : Mem} {K : AV → Hp → Mem → Prop}
end
end Go.Proofs.YtamghpnjdohnjaaDoor.Sx
namespace Go.Proofs.YtamghpnjdohnjaaDoor.Sx
open Go Go.RowKit
set_option linter.unusedVariables false
set_option linter.unusedSimpArgs false
set_option maxRecDepth 100000
set_option maxHeartbeats 8000000
attribute [local congr] fin_congr finG_congr stepG_congr step1_congr runOps_congr brv_congr obl_congr condK_congr LoopK_congr seqK_congr CutK_congr vc_congr DrawK_congr regK_congr CallK_congr AskK_congr newK_congr retC_congr ret1_congr retK_congr outV_congr closeK_congr genR_congr appR_congr finD_congr finGD_congr stepGD_congr stepD_congr CallK0_congr runD_congr okR_congr CallS_congr vcX_congr
attribute [local congr] Stop_congr
section
variable {M : Mem} {K : AV → Hp → Mem → Prop}
end
end Go.Proofs.YtamghpnjdohnjaaDoor.Sx
namespace Go.Proofs.YtamghpnjdohnjaaDoor.Sx
open Go Go.RowKit
set_option linter.unusedVariables false
set_option linter.unusedSimpArgs false
set_option maxRecDepth 100000
set_option maxHeartbeats 8000000
attribute [local congr] fin_congr finG_congr stepG_congr step1_congr runOps_congr brv_congr obl_congr condK_congr LoopK_congr seqK_congr CutK_congr vc_congr DrawK_congr regK_congr CallK_congr AskK_congr newK_congr retC_congr ret1_congr retK_congr outV_congr closeK_congr genR_congr appR_congr finD_congr finGD_congr stepGD_congr stepD_congr CallK0_congr runD_congr okR_congr CallS_congr vcX_congr
attribute [local congr] Stop_congr
section
variable {M : Mem} {K : AV → Hp → Mem → Prop}
end
end Go.Proofs.YtamghpnjdohnjaaDoor.Sx
namespace Go.Proofs.YtamghpnjdohnjaaDoor.Sx
open Go Go.RowKit
set_option linter.unusedVariables false
set_option linter.unusedSimpArgs false
set_option maxRecDepth 100000
set_option maxHeartbeats 8000000
attribute [local congr] fin_congr finG_congr stepG_congr step1_congr runOps_congr brv_congr obl_congr condK_congr LoopK_congr seqK_congr CutK_congr vc_congr DrawK_congr regK_congr CallK_congr AskK_congr newK_congr retC_congr ret1_congr retK_congr outV_congr closeK_congr genR_congr appR_congr finD_congr finGD_congr stepGD_congr stepD_congr CallK0_congr runD_congr okR_congr CallS_congr vcX_congr
attribute [local congr] Stop_congr
section
variable {M : Mem} {K : AV → Hp → Mem → Prop} {u1 u2 : Value} {l1 l2 : List Nat}
end
end Go.Proofs.YtamghpnjdohnjaaDoor.Sx
namespace Go.Proofs.YtamghpnjdohnjaaDoor.Sx
open Go Go.RowKit
set_option linter.unusedVariables false
set_option linter.unusedSimpArgs false
set_option maxRecDepth 100000
set_option maxHeartbeats 8000000
attribute [local congr] fin_congr finG_congr stepG_congr step1_congr runOps_congr brv_congr obl_congr condK_congr LoopK_congr seqK_congr CutK_congr vc_congr DrawK_congr regK_congr CallK_congr AskK_congr newK_congr retC_congr ret1_congr retK_congr outV_congr closeK_congr genR_congr appR_congr finD_congr finGD_congr stepGD_congr stepD_congr CallK0_congr runD_congr okR_congr CallS_congr vcX_congr
attribute [local congr] Stop_congr
section
variable {M : Mem} {K : AV → Hp → Mem → Prop} {u v : Value} {l1 l2 : List Nat}
end
end Go.Proofs.YtamghpnjdohnjaaDoor.Sx
namespace Go.Proofs.YtamghpnjdohnjaaDoor.Sx
open Go Go.RowKit
set_option linter.unusedVariables false
set_option linter.unusedSimpArgs false
set_option maxRecDepth 100000
set_option maxHeartbeats 8000000
attribute [local congr] fin_congr finG_congr stepG_congr step1_congr runOps_congr brv_congr obl_congr condK_congr LoopK_congr seqK_congr CutK_congr vc_congr DrawK_congr regK_congr CallK_congr AskK_congr newK_congr retC_congr ret1_congr retK_congr outV_congr closeK_congr genR_congr appR_congr finD_congr finGD_congr stepGD_congr stepD_congr CallK0_congr runD_congr okR_congr CallS_congr vcX_congr
attribute [local congr] Stop_congr
section
variable {M : Mem} {K : AV → Hp → Mem → Prop} {u v : Value} {l1 l2 : List Nat}
end
end Go.Proofs.YtamghpnjdohnjaaDoor.Sx
namespace Go.Proofs.YtamghpnjdohnjaaDoor.Sx
open Go Go.RowKit
set_option linter.unusedVariables false
set_option linter.unusedSimpArgs false
set_option maxRecDepth 100000
set_option maxHeartbeats 8000000
attribute [local congr] fin_congr finG_congr stepG_congr step1_congr runOps_congr brv_congr obl_congr condK_congr LoopK_congr seqK_congr CutK_congr vc_congr DrawK_congr regK_congr CallK_congr AskK_congr newK_congr retC_congr ret1_congr retK_congr outV_congr closeK_congr genR_congr appR_congr finD_congr finGD_congr stepGD_congr stepD_congr CallK0_congr runD_congr okR_congr CallS_congr vcX_congr
attribute [local congr] Stop_congr
section
variable {M : Mem} {K : AV → Hp → Mem → Prop} {u1 u2 : Value} {l1 l2 : List Nat}
end
end Go.Proofs.YtamghpnjdohnjaaDoor.Sx
namespace Go.Proofs.YtamghpnjdohnjaaDoor.Sx
open Go Go.RowKit
set_option linter.unusedVariables false
set_option linter.unusedSimpArgs false
set_option maxRecDepth 100000
set_option maxHeartbeats 8000000
attribute [local congr] fin_congr finG_congr stepG_congr step1_congr runOps_congr brv_congr obl_congr condK_congr LoopK_congr seqK_congr CutK_congr vc_congr DrawK_congr regK_congr CallK_congr AskK_congr newK_congr retC_congr ret1_congr retK_congr outV_congr closeK_congr genR_congr appR_congr finD_congr finGD_congr stepGD_congr stepD_congr CallK0_congr runD_congr okR_congr CallS_congr vcX_congr
attribute [local congr] Stop_congr
def fmtF (a b : List Nat) : Int × List UInt8 := if chkF a b then (if valN b = 1 then (0, decB (valN a)) else (0, decB (valN a) ++ 47 :: decB (valN b))) else (1, [])
theorem dec_short2 (n : Nat) : ∀ k, n < 2 ^ k → (dec n).length ≤ k := by
  induction n using Nat.strongRecOn with
  | _ n ih =>
    intro k hk
    by_cases h : n = 0
    · subst h; rw [dec_zero]; exact Nat.zero_le _
    · rw [dec_pos h, List.length_append, List.length_singleton]
      cases k with
      | zero => simp at hk; omega
      | succ k =>
        rw [Nat.pow_succ] at hk
        have := ih (n / 10) (Nat.div_lt_self (by omega) (by decide)) k (by omega)
        omega
theorem wN_pow2 (i : Nat) : wN i = 2 ^ (32 * i) := by unfold wN; rw [Nat.pow_mul]
theorem decB_128 {n : Nat} (h : (ofN n).length ≤ 128) : (decB n).length ≤ 5000 := by
  obtain ⟨k, hk⟩ : ∃ k, k = 128 := ⟨_, rfl⟩
  rw [← hk] at h
  have h1 := ofN_len_lt h
  rw [wN_pow2] at h1
  have := dec_short2 _ _ h1
  unfold decB
  split
  · simp
  · omega
theorem fmtR_128 {n : Nat} (h : (ofN n).length ≤ 128) : fmtR (ofN n) = (0, decB n) := by
  unfold fmtR
  rw [chkN_ofN h, if_pos rfl, valN_ofN]
theorem getD_zero {l : List Nat} (h : 0 < l.length) : l.getD 0 0 = l[0] := by simp [List.getD_eq_getElem?_getD, h]
theorem ofN_1' : ofN 1 = [1] := by rw [ofN_pos (by decide), show 1 / 4294967296 = 0 from rfl, ofN_zero]
theorem den_one {d : Nat} (hl : (ofN d).length = 1) : d = (ofN d).getD 0 0 := by
  have := valN_ofN d
  generalize ofN d = l at *
  match l, hl with
  | [a], _ => simp [valN] at this; simp [this]
section
variable {M : Mem} {K : AV → Hp → Mem → Prop} {u1 u2 v1 v2 : Value} {l1 l2 k1 k2 : List Nat}
theorem sameFrac_ok (h1 : IsL M u32V u1 l1) (h2 : IsL M u32V u2 l2) (k1 : IsL M u32V v1 l1) (k2 : IsL M u32V v2 l2) (b1 : l1.length < 1000000000) (b2 : l2.length < 1000000000) (hK : K (.ext (.bool true)) [] M) : CallS Tryd.prog 32 [.ext (.agg #[u1, u2]), .ext (.agg #[v1, v2])] [] M [] K := by
  refine inlS (cs := []) Tryd.mixed Tryd.func32 rfl (by kernel_rfl) 0 rfl rfl ?_
  simp only [Tryd.f32]
  (replace hb0 := true_and True); refine Go1.mk ?_; repeat' ((first | (with_reducible refine Go1.go ?_) | ((with_reducible first | refine brv_mk ?_ ?_ | refine gsplitD ?_ ?_ | refine gsplitG ?_ ?_) <;> intro h <;> (try simp only [Bool.not_eq_true', Bool.not_eq_false'] at h) <;> replace hb0 := h) | ((first | (with_reducible refine isCall (f := 42) ?_; refine callA_nil (by kernel_rfl) ?_) | (with_reducible refine isCall0 (f := 42) ?_; refine callA0_nil (by kernel_rfl) ?_)); refine (sameNat_ok u1 v1 l1 h1 k1 b1 ?_)) | ((first | (with_reducible refine isCall (f := 42) ?_; refine callA_nil (by kernel_rfl) ?_) | (with_reducible refine isCall0 (f := 42) ?_; refine callA0_nil (by kernel_rfl) ?_)); refine (sameNat_ok u2 v2 l2 h2 k2 b2 ?_)) | (refine And.intro ?ob ?_; case ob => ((try simp only [sxO, ne_eq, maxLen] at *); omega)) | fail) <;> (try simp (config := { maxSteps := 1000000 }) only [hb0, h1.one, h2.one, k1.one, k2.one, ↓hold_pre, awayP, runOps, regK, step1, newK, genR, appR, obl, buildR, Value.cells, closeK, keepH, outV, retK, ret1, retC, RetV, Option.getD, runD, stepD, afterK, undef, simprocAttr, sxB, ↓sxD, sxE, sxTab]))
  exact hK
theorem ffmt_ok (ha : IsF M u1 u2 l1 l2) (hK : ∀ M', Mem.le M M' → K (.ext (.tuple #[.string (bs (fmtF l1 l2).2), .int .i64 (fmtF l1 l2).1])) [] M') : CallS Tryd.prog 45 [.ext (.agg #[u1, u2])] [] M [] K := by
  refine inlS (cs := []) Tryd.mixed Tryd.func45 rfl (by kernel_rfl) 0 rfl rfl ?_
  simp only [Tryd.f45]
  unfold fmtF at hK
  (replace hb0 := true_and True); refine Go1.mk ?_; repeat' ((first | (with_reducible refine Go1.go ?_) | ((with_reducible first | refine brv_mk ?_ ?_ | refine gsplitD ?_ ?_ | refine gsplitG ?_ ?_) <;> intro h <;> (try simp only [Bool.not_eq_true', Bool.not_eq_false'] at h) <;> replace hb0 := h) | ((first | (with_reducible refine isCall (f := 16) ?_; refine callA_nil (by kernel_rfl) ?_) | (with_reducible refine isCall0 (f := 16) ?_; refine callA0_nil (by kernel_rfl) ?_)); refine (fcheck_ok ha.n ha.d ha.on ha.od ha.bn ha.bd (fun M1 m1 => Stop.mk ?_))) | (refine And.intro ?ob ?_; case ob => ((try simp only [sxO, ne_eq, maxLen] at *); omega)) | fail) <;> (try simp (config := { maxSteps := 1000000 }) only [hb0, ha.n.one, ha.d.one, bs_mk, bs_app, bs_ext, bs_size, bs_toList, bs_at, bs_cells, List.take_length, imp_ga, guard_pk, guard_pk2, ↓hold_pre, awayP, runOps, regK, step1, newK, genR, appR, obl, buildR, Value.cells, closeK, keepH, outV, retK, ret1, retC, RetV, Option.getD, runD, stepD, afterK, undef, simprocAttr, sxB, ↓sxD, sxE, sxTab]))
  have m1 : Mem.le M M1 := m1
  have ha1 := ha.le m1
  refine Stop.go ?_
  cases hc : chkF l1 l2 with
  | false =>
    rw [hc] at hK
    (replace hb0 := true_and True); refine Go1.mk ?_; repeat' ((first | (with_reducible refine Go1.go ?_) | ((with_reducible first | refine brv_mk ?_ ?_ | refine gsplitD ?_ ?_ | refine gsplitG ?_ ?_) <;> intro h <;> (try simp only [Bool.not_eq_true', Bool.not_eq_false'] at h) <;> replace hb0 := h) | (refine And.intro ?ob ?_; case ob => ((try simp only [sxO, ne_eq, maxLen] at *); omega)) | fail) <;> (try simp (config := { maxSteps := 1000000 }) only [hb0, ha1.n.one, ha1.d.one, bs_mk, bs_app, bs_ext, bs_size, bs_toList, bs_at, bs_cells, List.take_length, imp_ga, guard_pk, guard_pk2, ↓hold_pre, awayP, runOps, regK, step1, newK, genR, appR, obl, buildR, Value.cells, closeK, keepH, outV, retK, ret1, retC, RetV, Option.getD, runD, stepD, afterK, undef, simprocAttr, sxB, ↓sxD, sxE, sxTab]))
    exact hK _ m1
  | true =>
  rw [hc, if_pos rfl] at hK
  obtain ⟨n, d, hn, hd, e1, e2, q1, q2, q3⟩ := ha1.num hc
  rw [e1, e2] at hK
  (replace hb0 := true_and True); refine Go1.mk ?_; repeat' ((first | (with_reducible refine Go1.go ?_) | ((with_reducible first | refine brv_mk ?_ ?_ | refine gsplitD ?_ ?_ | refine gsplitG ?_ ?_) <;> intro h <;> (try simp only [Bool.not_eq_true', Bool.not_eq_false'] at h) <;> replace hb0 := h) | ((first | (with_reducible refine isCall (f := 79) ?_; refine callA_nil (by kernel_rfl) ?_) | (with_reducible refine isCall0 (f := 79) ?_; refine callA0_nil (by kernel_rfl) ?_)); refine (fmt_ok u1 _ hn (okN_ofN n) (by omega) (fun M2 m2 => Stop.mk ?_))) | (refine And.intro ?ob ?_; case ob => ((try simp only [sxO, ne_eq, maxLen] at *); omega)) | fail) <;> (try simp (config := { maxSteps := 1000000 }) only [hb0, hn.one, hd.one, bs_mk, bs_app, bs_ext, bs_size, bs_toList, bs_at, bs_cells, List.take_length, imp_ga, guard_pk, guard_pk2, ↓hold_pre, awayP, runOps, regK, step1, newK, genR, appR, obl, buildR, Value.cells, closeK, keepH, outV, retK, ret1, retC, RetV, Option.getD, runD, stepD, afterK, undef, simprocAttr, sxB, ↓sxD, sxE, sxTab]))
  have m2 : Mem.le M1 M2 := m2
  have hn := hn.le m2
  have hd := hd.le m2
  rw [fmtR_128 q1]
  have hL1 := decB_128 q1
  have hL2 := decB_128 q2
  refine Stop.go ?_
  by_cases hl : (ofN d).length = 1
  · have z1 : decide (((ofN d).length : Int) = 1) = true := by rw [decide_eq_true_eq]; omega
    have hyi := hd.idx (P := Tryd.prog) (T := 70) tk70 tz70 (by omega) (show 0 < (ofN d).length by omega)
    have hat : (ofN d)[0] = d := by
      rw [← getD_zero (show 0 < (ofN d).length by omega)]; exact (den_one hl).symm
    rw [hat] at hyi
    by_cases hd1 : d = 1
    · have z2 : decide ((d : Int) = 1) = true := by rw [hd1]; decide
      rw [if_pos hd1] at hK
      (replace hb0 := true_and True); refine Go1.mk ?_; repeat' ((first | (with_reducible refine Go1.go ?_) | ((with_reducible first | refine brv_mk ?_ ?_ | refine gsplitD ?_ ?_ | refine gsplitG ?_ ?_) <;> intro h <;> (try simp only [Bool.not_eq_true', Bool.not_eq_false'] at h) <;> replace hb0 := h) | (refine And.intro ?ob ?_; case ob => ((try simp only [sxO, ne_eq, maxLen] at *); omega)) | fail) <;> (try simp (config := { maxSteps := 1000000 }) only [hb0, u32V, hn.one, hd.one, hd.len, hd.sl, z1, z2, hyi, Int.natCast_zero, Int.cast_ofNat_Int, bs_mk, bs_app, bs_ext, bs_size, bs_toList, bs_at, bs_cells, List.take_length, imp_ga, guard_pk, guard_pk2, ↓hold_pre, awayP, runOps, regK, step1, newK, genR, appR, obl, buildR, Value.cells, closeK, keepH, outV, retK, ret1, retC, RetV, Option.getD, runD, stepD, afterK, undef, simprocAttr, sxB, ↓sxD, sxE, sxTab]))
      exact hK _ (m1.trans m2)
    · have z2 : decide ((d : Int) = 1) = false := by rw [decide_eq_false_iff_not]; omega
      rw [if_neg hd1] at hK
      (replace hb0 := true_and True); refine Go1.mk ?_; repeat' ((first | (with_reducible refine Go1.go ?_) | ((with_reducible first | refine brv_mk ?_ ?_ | refine gsplitD ?_ ?_ | refine gsplitG ?_ ?_) <;> intro h <;> (try simp only [Bool.not_eq_true', Bool.not_eq_false'] at h) <;> replace hb0 := h) | ((first | (with_reducible refine isCall (f := 79) ?_; refine callA_nil (by kernel_rfl) ?_) | (with_reducible refine isCall0 (f := 79) ?_; refine callA0_nil (by kernel_rfl) ?_)); refine (fmt_ok u2 _ hd (okN_ofN d) (by omega) (fun M3 m3 => Stop.mk ?_))) | (refine And.intro ?ob ?_; case ob => ((try simp only [sxO, ne_eq, maxLen] at *); omega)) | fail) <;> (try simp (config := { maxSteps := 1000000 }) only [hb0, u32V, hn.one, hd.one, hd.len, hd.sl, z1, z2, hyi, Int.natCast_zero, Int.cast_ofNat_Int, bs_mk, bs_app, bs_ext, bs_size, bs_toList, bs_at, bs_cells, List.take_length, imp_ga, guard_pk, guard_pk2, ↓hold_pre, awayP, runOps, regK, step1, newK, genR, appR, obl, buildR, Value.cells, closeK, keepH, outV, retK, ret1, retC, RetV, Option.getD, runD, stepD, afterK, undef, simprocAttr, sxB, ↓sxD, sxE, sxTab]))
      rw [fmtR_128 q2]
      refine Stop.go ?_
      (replace hb0 := true_and True); refine Go1.mk ?_; repeat' ((first | (with_reducible refine Go1.go ?_) | ((with_reducible first | refine brv_mk ?_ ?_ | refine gsplitD ?_ ?_ | refine gsplitG ?_ ?_) <;> intro h <;> (try simp only [Bool.not_eq_true', Bool.not_eq_false'] at h) <;> replace hb0 := h) | (refine And.intro ?ob ?_; case ob => ((try simp only [sxO, ne_eq, maxLen] at *); omega)) | fail) <;> (try simp (config := { maxSteps := 1000000 }) only [hb0, List.length_append, List.append_assoc, bs_mk, bs_app, bs_ext, bs_size, bs_toList, bs_at, bs_cells, List.take_length, imp_ga, guard_pk, guard_pk2, ↓hold_pre, awayP, runOps, regK, step1, newK, genR, appR, obl, buildR, Value.cells, closeK, keepH, outV, retK, ret1, retC, RetV, Option.getD, runD, stepD, afterK, undef, simprocAttr, sxB, ↓sxD, sxE, sxTab]))
      exact hK _ ((m1.trans m2).trans m3)
  · have z1 : decide (((ofN d).length : Int) = 1) = false := by rw [decide_eq_false_iff_not]; omega
    rw [if_neg (fun h => hl (by rw [h, ofN_1']; rfl))] at hK
    (replace hb0 := true_and True); refine Go1.mk ?_; repeat' ((first | (with_reducible refine Go1.go ?_) | ((with_reducible first | refine brv_mk ?_ ?_ | refine gsplitD ?_ ?_ | refine gsplitG ?_ ?_) <;> intro h <;> (try simp only [Bool.not_eq_true', Bool.not_eq_false'] at h) <;> replace hb0 := h) | ((first | (with_reducible refine isCall (f := 79) ?_; refine callA_nil (by kernel_rfl) ?_) | (with_reducible refine isCall0 (f := 79) ?_; refine callA0_nil (by kernel_rfl) ?_)); refine (fmt_ok u2 _ hd (okN_ofN d) (by omega) (fun M3 m3 => Stop.mk ?_))) | (refine And.intro ?ob ?_; case ob => ((try simp only [sxO, ne_eq, maxLen] at *); omega)) | fail) <;> (try simp (config := { maxSteps := 1000000 }) only [hb0, hn.one, hd.one, hd.len, hd.sl, z1, bs_mk, bs_app, bs_ext, bs_size, bs_toList, bs_at, bs_cells, List.take_length, imp_ga, guard_pk, guard_pk2, ↓hold_pre, awayP, runOps, regK, step1, newK, genR, appR, obl, buildR, Value.cells, closeK, keepH, outV, retK, ret1, retC, RetV, Option.getD, runD, stepD, afterK, undef, simprocAttr, sxB, ↓sxD, sxE, sxTab]))
    rw [fmtR_128 q2]
    refine Stop.go ?_
    (replace hb0 := true_and True); refine Go1.mk ?_; repeat' ((first | (with_reducible refine Go1.go ?_) | ((with_reducible first | refine brv_mk ?_ ?_ | refine gsplitD ?_ ?_ | refine gsplitG ?_ ?_) <;> intro h <;> (try simp only [Bool.not_eq_true', Bool.not_eq_false'] at h) <;> replace hb0 := h) | (refine And.intro ?ob ?_; case ob => ((try simp only [sxO, ne_eq, maxLen] at *); omega)) | fail) <;> (try simp (config := { maxSteps := 1000000 }) only [hb0, List.length_append, List.append_assoc, bs_mk, bs_app, bs_ext, bs_size, bs_toList, bs_at, bs_cells, List.take_length, imp_ga, guard_pk, guard_pk2, ↓hold_pre, awayP, runOps, regK, step1, newK, genR, appR, obl, buildR, Value.cells, closeK, keepH, outV, retK, ret1, retC, RetV, Option.getD, runD, stepD, afterK, undef, simprocAttr, sxB, ↓sxD, sxE, sxTab]))
    exact hK _ ((m1.trans m2).trans m3)
theorem awake02_ok (hK : ∀ M', Mem.le M M' → K (.ext (.bool true)) [] M') : CallS Tryd.prog 18 [] [] M [] K := by
  refine inlS (cs := []) Tryd.mixed Tryd.func18 rfl (by kernel_rfl) 0 rfl rfl ?_
  simp only [Tryd.f18]
  have e1 : ofF 1 6 = (0, 1, 6) := by decide +kernel
  have e2 : ofF 1 3 = (0, 1, 3) := by decide +kernel
  have e3 : addF (ofN 1) (ofN 6) (ofN 1) (ofN 3) = (0, 1, 2) := by decide +kernel
  have e4 : fmtF (ofN 1) (ofN 2) = (0, [49, 47, 50]) := by decide +kernel
  have hs : ([49, 47, 50] == ([49, 47, 50] : List UInt8)) = true := by decide
  have sm : ∀ n, n < 10 → (ofN n).length ≤ 1 := fun n hn => ofN_len_le (by rw [show wN 1 = 4294967296 from rfl]; omega)
  have s1 := sm 1 (by decide)
  have s2 := sm 2 (by decide)
  have s3 := sm 3 (by decide)
  have s6 := sm 6 (by decide)
  (replace hb0 := true_and True); refine Go1.mk ?_; repeat' ((first | (with_reducible refine Go1.go ?_) | ((with_reducible first | refine brv_mk ?_ ?_ | refine gsplitD ?_ ?_ | refine gsplitG ?_ ?_) <;> intro h <;> (try simp only [Bool.not_eq_true', Bool.not_eq_false'] at h) <;> replace hb0 := h) | ((first | (with_reducible refine isCall (f := 13) ?_; refine callA_nil (by kernel_rfl) ?_) | (with_reducible refine isCall0 (f := 13) ?_; refine callA0_nil (by kernel_rfl) ?_)); refine (fof_ok 1 6 (by decide) (by decide) (by decide) (by decide) (fun w1 w2 M1 a1 a2 a3 a4 a5 => Stop.mk ?_))) | (refine And.intro ?ob ?_; case ob => ((try simp only [sxO, ne_eq, maxLen] at *); omega)) | fail) <;> (try simp (config := { maxSteps := 1000000 }) only [hb0, ↓hold_pre, awayP, runOps, regK, step1, newK, genR, appR, obl, buildR, Value.cells, closeK, keepH, outV, retK, ret1, retC, RetV, Option.getD, runD, stepD, afterK, undef, simprocAttr, sxB, ↓sxD, sxE, sxTab]))
  have a1 : Mem.le M M1 := a1
  rw [e1] at a2 a3 ⊢
  have a2 : IsL M1 u32V w1 (ofN 1) := a2
  have a3 : IsL M1 u32V w2 (ofN 6) := a3
  refine Stop.go ?_
  (replace hb0 := true_and True); refine Go1.mk ?_; repeat' ((first | (with_reducible refine Go1.go ?_) | ((with_reducible first | refine brv_mk ?_ ?_ | refine gsplitD ?_ ?_ | refine gsplitG ?_ ?_) <;> intro h <;> (try simp only [Bool.not_eq_true', Bool.not_eq_false'] at h) <;> replace hb0 := h) | ((first | (with_reducible refine isCall (f := 13) ?_; refine callA_nil (by kernel_rfl) ?_) | (with_reducible refine isCall0 (f := 13) ?_; refine callA0_nil (by kernel_rfl) ?_)); refine (fof_ok 1 3 (by decide) (by decide) (by decide) (by decide) (fun w3 w4 M2 b1 b2 b3 b4 b5 => Stop.mk ?_))) | (refine And.intro ?ob ?_; case ob => ((try simp only [sxO, ne_eq, maxLen] at *); omega)) | fail) <;> (try simp (config := { maxSteps := 1000000 }) only [hb0, a2.one, a3.one, ↓hold_pre, awayP, runOps, regK, step1, newK, genR, appR, obl, buildR, Value.cells, closeK, keepH, outV, retK, ret1, retC, RetV, Option.getD, runD, stepD, afterK, undef, simprocAttr, sxB, ↓sxD, sxE, sxTab]))
  have b1 : Mem.le M1 M2 := b1
  rw [e2] at b2 b3 ⊢
  have b2 : IsL M2 u32V w3 (ofN 1) := b2
  have b3 : IsL M2 u32V w4 (ofN 3) := b3
  have a2 := a2.le b1
  have a3 := a3.le b1
  refine Stop.go ?_
  (replace hb0 := true_and True); refine Go1.mk ?_; repeat' ((first | (with_reducible refine Go1.go ?_) | ((with_reducible first | refine brv_mk ?_ ?_ | refine gsplitD ?_ ?_ | refine gsplitG ?_ ?_) <;> intro h <;> (try simp only [Bool.not_eq_true', Bool.not_eq_false'] at h) <;> replace hb0 := h) | ((first | (with_reducible refine isCall (f := 22) ?_; refine callA_nil (by kernel_rfl) ?_) | (with_reducible refine isCall0 (f := 22) ?_; refine callA0_nil (by kernel_rfl) ?_)); refine (fadd_ok ⟨a2, a3, okN_ofN _, okN_ofN _, by omega, by omega⟩ ⟨b2, b3, okN_ofN _, okN_ofN _, by omega, by omega⟩ (fun w5 w6 M3 c1 c2 c3 c4 c5 => Stop.mk ?_))) | (refine And.intro ?ob ?_; case ob => ((try simp only [sxO, ne_eq, maxLen] at *); omega)) | fail) <;> (try simp (config := { maxSteps := 1000000 }) only [hb0, a2.one, a3.one, b2.one, b3.one, ↓hold_pre, awayP, runOps, regK, step1, newK, genR, appR, obl, buildR, Value.cells, closeK, keepH, outV, retK, ret1, retC, RetV, Option.getD, runD, stepD, afterK, undef, simprocAttr, sxB, ↓sxD, sxE, sxTab]))
  have c1 : Mem.le M2 M3 := c1
  rw [e3] at c2 c3 ⊢
  have c2 : IsL M3 u32V w5 (ofN 1) := c2
  have c3 : IsL M3 u32V w6 (ofN 2) := c3
  refine Stop.go ?_
  (replace hb0 := true_and True); refine Go1.mk ?_; repeat' ((first | (with_reducible refine Go1.go ?_) | ((with_reducible first | refine brv_mk ?_ ?_ | refine gsplitD ?_ ?_ | refine gsplitG ?_ ?_) <;> intro h <;> (try simp only [Bool.not_eq_true', Bool.not_eq_false'] at h) <;> replace hb0 := h) | ((first | (with_reducible refine isCall (f := 45) ?_; refine callA_nil (by kernel_rfl) ?_) | (with_reducible refine isCall0 (f := 45) ?_; refine callA0_nil (by kernel_rfl) ?_)); refine (ffmt_ok ⟨c2, c3, okN_ofN _, okN_ofN _, by omega, by omega⟩ (fun M4 d1 => Stop.mk ?_))) | (refine And.intro ?ob ?_; case ob => ((try simp only [sxO, ne_eq, maxLen] at *); omega)) | fail) <;> (try simp (config := { maxSteps := 1000000 }) only [hb0, c2.one, c3.one, bs_mk, bs_app, bs_ext, bs_size, bs_toList, bs_at, bs_cells, List.take_length, imp_ga, guard_pk, guard_pk2, ↓hold_pre, awayP, runOps, regK, step1, newK, genR, appR, obl, buildR, Value.cells, closeK, keepH, outV, retK, ret1, retC, RetV, Option.getD, runD, stepD, afterK, undef, simprocAttr, sxB, ↓sxD, sxE, sxTab]))
  rw [e4]
  refine Stop.go ?_
  (replace hb0 := true_and True); refine Go1.mk ?_; repeat' ((first | (with_reducible refine Go1.go ?_) | ((with_reducible first | refine brv_mk ?_ ?_ | refine gsplitD ?_ ?_ | refine gsplitG ?_ ?_) <;> intro h <;> (try simp only [Bool.not_eq_true', Bool.not_eq_false'] at h) <;> replace hb0 := h) | (refine And.intro ?ob ?_; case ob => ((try simp only [sxO, ne_eq, maxLen] at *); omega)) | fail) <;> (try simp (config := { maxSteps := 1000000 }) only [hb0, hs, bs_mk, bs_app, bs_ext, bs_size, bs_toList, bs_at, bs_cells, List.take_length, imp_ga, guard_pk, guard_pk2, ↓hold_pre, awayP, runOps, regK, step1, newK, genR, appR, obl, buildR, Value.cells, closeK, keepH, outV, retK, ret1, retC, RetV, Option.getD, runD, stepD, afterK, undef, simprocAttr, sxB, ↓sxD, sxE, sxTab]))
  exact hK _ (((a1.trans b1).trans c1).trans d1)
end
end Go.Proofs.YtamghpnjdohnjaaDoor.Sx
namespace Go.Proofs.YtamghpnjdohnjaaDoor.Sx
open Go Go.RowKit
set_option linter.unusedVariables false
set_option linter.unusedSimpArgs false
set_option maxRecDepth 100000
set_option maxHeartbeats 8000000
attribute [local congr] fin_congr finG_congr stepG_congr step1_congr runOps_congr brv_congr obl_congr condK_congr LoopK_congr seqK_congr CutK_congr vc_congr DrawK_congr regK_congr CallK_congr AskK_congr newK_congr retC_congr ret1_congr retK_congr outV_congr closeK_congr genR_congr appR_congr finD_congr finGD_congr stepGD_congr stepD_congr CallK0_congr runD_congr okR_congr CallS_congr vcX_congr
attribute [local congr] Stop_congr
section
variable {M : Mem} {K : AV → Hp → Mem → Prop} {u1 u2 v1 v2 : Value} {l1 l2 k1 k2 : List Nat}
end
end Go.Proofs.YtamghpnjdohnjaaDoor.Sx
namespace Go.Proofs.YtamghpnjdohnjaaDoor.Sx
open Go Go.RowKit
set_option linter.unusedVariables false
set_option linter.unusedSimpArgs false
set_option maxRecDepth 100000
set_option maxHeartbeats 8000000
attribute [local congr] fin_congr finG_congr stepG_congr step1_congr runOps_congr brv_congr obl_congr condK_congr LoopK_congr seqK_congr CutK_congr vc_congr DrawK_congr regK_congr CallK_congr AskK_congr newK_congr retC_congr ret1_congr retK_congr outV_congr closeK_congr genR_congr appR_congr finD_congr finGD_congr stepGD_congr stepD_congr CallK0_congr runD_congr okR_congr CallS_congr vcX_congr
attribute [local congr] Stop_congr
theorem chkF_of {n d : Nat} (h1 : (ofN n).length ≤ 128) (h2 : (ofN d).length ≤ 128) (h0 : 0 < d) (hg : Nat.gcd n d = 1) : chkF (ofN n) (ofN d) = true := by
  unfold chkF
  rw [chkN_ofN h1, chkN_ofN h2, valN_ofN, valN_ofN, decide_eq_false (by omega), hg]
  rfl
section
variable {M : Mem} {K : AV → Hp → Mem → Prop}
end
end Go.Proofs.YtamghpnjdohnjaaDoor.Sx
namespace Go.Proofs.YtamghpnjdohnjaaDoor.Sx
open Go Go.RowKit
theorem len_1 {n : Nat} (h : n ≤ 1000000) : (ofN n).length ≤ 1 := ofN_len_le (by rw [show wN 1 = 4294967296 from rfl]; omega)
theorem exF_low {x y k : Nat} (h0 : 0 < y) (hx : (ofN x).length ≤ k) (hy : (ofN y).length ≤ k) (hk : k ≤ 128) : ∃ n d, exF x y = (0, n, d) ∧ n * y = x * d ∧ Nat.gcd n d = 1 ∧ 0 < d ∧ (ofN n).length ≤ k ∧ (ofN d).length ≤ k := by
  have hg0 : 0 < Nat.gcd x y := Nat.gcd_pos_of_pos_right _ h0
  refine ⟨_, _, exF_is (by omega) (by omega), ?_, Nat.gcd_div_gcd_div_gcd_of_pos_right h0, Nat.div_pos (Nat.gcd_le_right x h0) hg0, Nat.le_trans (len_mono (Nat.div_le_self _ _)) hx, Nat.le_trans (len_mono (Nat.div_le_self _ _)) hy⟩
  have h1 := Nat.div_mul_cancel (Nat.gcd_dvd_left x y)
  have h2 := Nat.div_mul_cancel (Nat.gcd_dvd_right x y)
  generalize x / Nat.gcd x y = a at *
  generalize y / Nat.gcd x y = b at *
  generalize Nat.gcd x y = g at *
  subst h1 h2
  grind
theorem exF_eq {x y n d : Nat} (h0 : 0 < y) (hd : 0 < d) (h : x * d = n * y) (hg : Nat.gcd n d = 1) (h1 : (ofN n).length ≤ 128) (h2 : (ofN d).length ≤ 128) : exF x y = (0, n, d) := by
  have hdv : d ∣ y := (Nat.Coprime.symm hg).dvd_of_dvd_mul_left ⟨x, by rw [← h, Nat.mul_comm]⟩
  obtain ⟨k, rfl⟩ := hdv
  have hx : x = n * k := by
    refine Nat.eq_of_mul_eq_mul_right hd ?_
    rw [h]; grind
  subst hx
  have hk : 0 < k := Nat.pos_of_mul_pos_left h0
  have hgk : Nat.gcd (n * k) (d * k) = k := by rw [Nat.gcd_mul_right, hg, Nat.one_mul]
  unfold exF
  rw [hgk, Nat.mul_div_cancel _ hk, Nat.mul_div_cancel _ hk, if_pos ⟨h1, h2⟩]
theorem mulF_of {n1 d1 n2 d2 : Nat} (h1 : chkF (ofN n1) (ofN d1) = true) (h2 : chkF (ofN n2) (ofN d2) = true) : mulF (ofN n1) (ofN d1) (ofN n2) (ofN d2) = exF (n1 * n2) (d1 * d2) := by
  unfold mulF; rw [h1, h2, Bool.and_self, if_pos rfl, valN_ofN, valN_ofN, valN_ofN, valN_ofN]
theorem addF_of {n1 d1 n2 d2 : Nat} (h1 : chkF (ofN n1) (ofN d1) = true) (h2 : chkF (ofN n2) (ofN d2) = true) : addF (ofN n1) (ofN d1) (ofN n2) (ofN d2) = exF (n1 * d2 + n2 * d1) (d1 * d2) := by
  unfold addF; rw [h1, h2, Bool.and_self, if_pos rfl, valN_ofN, valN_ofN, valN_ofN, valN_ofN]
theorem divF_of {n1 d1 n2 d2 : Nat} (h1 : chkF (ofN n1) (ofN d1) = true) (h2 : chkF (ofN n2) (ofN d2) = true) (h0 : 0 < n2) : divF (ofN n1) (ofN d1) (ofN n2) (ofN d2) = exF (n1 * d2) (n2 * d1) := by
  unfold divF; rw [h1, h2, Bool.and_self, if_pos rfl, valN_ofN, valN_ofN, valN_ofN, valN_ofN, if_neg (by omega)]
theorem subF_of {n1 d1 n2 d2 : Nat} (h1 : chkF (ofN n1) (ofN d1) = true) (h2 : chkF (ofN n2) (ofN d2) = true) (h0 : n2 * d1 ≤ n1 * d2) : subF (ofN n1) (ofN d1) (ofN n2) (ofN d2) = exF (n1 * d2 - n2 * d1) (d1 * d2) := by
  unfold subF; rw [h1, h2, Bool.and_self, if_pos rfl, valN_ofN, valN_ofN, valN_ofN, valN_ofN, if_neg (by omega)]
theorem cmpF_of {n1 d1 n2 d2 : Nat} (h1 : chkF (ofN n1) (ofN d1) = true) (h2 : chkF (ofN n2) (ofN d2) = true) : cmpF (ofN n1) (ofN d1) (ofN n2) (ofN d2) = cmpN (n1 * d2) (n2 * d1) := by
  unfold cmpF; rw [h1, h2, Bool.and_self, if_pos rfl, valN_ofN, valN_ofN, valN_ofN, valN_ofN]
theorem cmpN_ge {x y : Nat} (h : y ≤ x) : decide (0 ≤ cmpN x y) = true := by
  rw [decide_eq_true_eq]; unfold cmpN; rw [if_neg (by omega)]; split <;> omega
theorem cmpN_le {x y : Nat} (h : x ≤ y) : decide (cmpN x y ≤ 0) = true := by
  rw [decide_eq_true_eq]; unfold cmpN
  split
  · omega
  · rw [if_pos (by omega)]; omega
end Go.Proofs.YtamghpnjdohnjaaDoor.Sx
namespace Go.Proofs.YtamghpnjdohnjaaDoor.Sx
open Go Go.RowKit
set_option linter.unusedVariables false
set_option linter.unusedSimpArgs false
set_option maxRecDepth 100000
set_option maxHeartbeats 8000000
attribute [local congr] fin_congr finG_congr stepG_congr step1_congr runOps_congr brv_congr obl_congr condK_congr LoopK_congr seqK_congr CutK_congr vc_congr DrawK_congr regK_congr CallK_congr AskK_congr newK_congr retC_congr ret1_congr retK_congr outV_congr closeK_congr genR_congr appR_congr finD_congr finGD_congr stepGD_congr stepD_congr CallK0_congr runD_congr okR_congr CallS_congr vcX_congr
attribute [local congr] Stop_congr
theorem ofN_u32 {n : Nat} (h0 : 0 < n) (h : n < 4294967296) : ofN n = [n] := by
  rw [ofN_pos (by omega), Nat.div_eq_of_lt h, Nat.mod_eq_of_lt h, ofN_zero]
theorem low_lt {n y : Nat} (h : n < y) : n / Nat.gcd n y < y / Nat.gcd n y := by
  have h1 := Nat.div_mul_cancel (Nat.gcd_dvd_left n y)
  have h2 := Nat.div_mul_cancel (Nat.gcd_dvd_right n y)
  rcases Nat.lt_or_ge (n / Nat.gcd n y) (y / Nat.gcd n y) with h3 | h3
  · exact h3
  · have := Nat.mul_le_mul_right (Nat.gcd n y) h3
    omega
theorem FrzF.agg1 {K : AV → Hp → Mem → Prop} {H : Hp} {M' : Mem} {k n : Nat} {T : TypeId} (x : Value) (cs : List Value) (h1 : lkH H k = none) (h2 : cs.length = n) (h : ∀ u M'', Mem.le M' M'' → SlM M'' 1 u n cs → FreshS M' u → K (.ext (.agg #[x, u])) [] M'') : FrzF K H (.ag false [.ext x, .slo k 0 n 1]) [(k, T, cs.map .ext)] M' :=
  .inr ⟨some false, [.ext x], [], k, n, 1, T, cs, [], rfl, rfl, rfl, h1, by omega, rfl, h⟩
theorem FrzF.agg2 {K : AV → Hp → Mem → Prop} {H : Hp} {M' : Mem} {k j n m : Nat} {T T' : TypeId} (cs ds : List Value) (h1 : lkH H k = none) (h1' : lkH H j = none) (h2 : cs.length = n) (h2' : ds.length = m) (hkj : j ≠ k) (h : ∀ u u' M'', Mem.le M' M'' → SlM M'' 1 u n cs → SlM M'' 1 u' m ds → FreshS M' u → FreshS M' u' → K (.ext (.agg #[u, u'])) [] M'') :
    FrzF (FrzF K H) H (.ag false [.slo k 0 n 1, .slo j 0 m 1]) [(k, T, cs.map .ext), (j, T', ds.map .ext)] M' := by
  refine .inr ⟨some false, [], [.slo j 0 m 1], k, n, 1, T, cs, [(j, T', ds.map .ext)], rfl, rfl, ?_, h1, by omega, ?_, fun u M'' hM hs hf => ?_⟩
  · simp [lkH, hkj]
  · simp [mentL, AV.ment, mentH, mentL_ext, hasK, hkj]
  · refine .inr ⟨some false, [.ext u], [], j, m, 1, T', ds, [], rfl, rfl, rfl, h1', by omega, rfl, fun u' M3 hM3 hs3 hf3 => ?_⟩
    exact h u u' M3 (hM.trans hM3) (hs.le hM3) hs3 hf (hf3.le hM)
section
variable {M : Mem} {K : AV → Hp → Mem → Prop}
def smlSt (M : Mem) (num den : Nat) (a b : Nat) : St := { env := [(6, .ext (.int .i64 (b : Int))), (5, .ext (.int .i64 (a : Int))), (4, .own 4 0), (0, .ext (.int .i64 (num : Int))), (1, .ext (.int .i64 (den : Int)))], hp := [(4, 25, [.ext (.slice none 0 0), .ext (.slice none 0 0)])], M := M, kb := 0, fx := [] }
theorem sml_ok (num den : Nat) (hn : num ≤ 2147483648) (hd : 0 < den) (hd2 : den ≤ 2147483648)
    (hK : ∀ w1 w2 M', Mem.le M M' → IsL M' u32V w1 (ofN (num / Nat.gcd num den)) → IsL M' u32V w2 (ofN (den / Nat.gcd num den)) → FreshS M w1 → FreshS M w2 → K (.ext (.agg #[w1, w2])) [] M') : CallS Tryd.prog 71 [.ext (.int .i64 (num : Int)), .ext (.int .i64 (den : Int))] [] M [] K := by
  refine CallS.frzF (CallS.frzF ?_)
  refine inlS (cs := []) Tryd.mixed Tryd.func71 rfl (by kernel_rfl) 0 rfl rfl ?_
  simp only [Tryd.f71]
  (replace hb0 := true_and True); refine Go1.mk ?_; repeat' ((first | (with_reducible refine Go1.go ?_) | ((with_reducible first | refine brv_mk ?_ ?_ | refine gsplitD ?_ ?_ | refine gsplitG ?_ ?_) <;> intro h <;> (try simp only [Bool.not_eq_true', Bool.not_eq_false'] at h) <;> replace hb0 := h) | ((with_reducible refine isDraw [some 12, some 13, some 14, some 15, some 5, some 6] (by decide) ?_); refine draw_rule [(0, []), (1, []), (2, []), (3, []), (4, []), (5, [])] [[], [], [], [1, 2], [0, 1], [0, 1, 2, 3, 4]] [12, 13, 14, 15] [5] (by kernel_rfl) (by kernel_rfl) (by kernel_rfl) (by kernel_rfl) (by exact ⟨rfl, trivial⟩) ?_) | (refine And.intro ?ob ?_; case ob => ((try simp only [sxO, ne_eq, maxLen] at *); omega)) | fail) <;> (try simp (config := { maxSteps := 1000000 }) only [hb0, ↓hold_pre, awayP, runOps, regK, step1, newK, genR, appR, obl, buildR, Value.cells, closeK, keepH, outV, retK, ret1, retC, RetV, Option.getD, runD, stepD, afterK, undef, simprocAttr, sxB, ↓sxD, sxE, sxTab]))
  refine ⟨fun m z => ∃ a b, b = m ∧ Nat.gcd a b = Nat.gcd num den ∧ a ≤ 2147483648 ∧ b ≤ 2147483648 ∧ z = smlSt M num den a b, ⟨den, smlSt M num den num den, le_sub ⟨rfl, rfl, rfl, rfl, rfl, trivial⟩ ⟨rfl, trivial⟩ rfl rfl rfl (keepLt0 _), ⟨num, den, rfl, rfl, hn, hd2, rfl⟩⟩, ?_⟩
  rintro m z ⟨a, b, rfl, hg, ha, hb, rfl⟩
  by_cases hb0 : b = 0
  case neg =>
    have d1 : decide ((b : Int) = 0) = false := by rw [decide_eq_false_iff_not]; omega
    have w1 : (a : Int).tmod (b : Int) = ((a % b : Nat) : Int) := (Int.ofNat_tmod a b).symm
    have n1 : ((b : Int) = 0) = False := eq_false (fun h => by omega)
    have hlt := Nat.mod_lt a (show 0 < b by omega)
    (replace hb0 := true_and True); refine Go1.mk ?_; repeat' ((first | (with_reducible refine Go1.go ?_) | ((with_reducible first | refine brv_mk ?_ ?_ | refine gsplitD ?_ ?_ | refine gsplitG ?_ ?_) <;> intro h <;> (try simp only [Bool.not_eq_true', Bool.not_eq_false'] at h) <;> replace hb0 := h) | ((with_reducible refine isDraw [some 12, some 13, some 14, some 15, some 5, some 6] (by decide) ?_); refine draw_rule [(0, []), (1, []), (2, []), (3, []), (4, []), (5, [])] [[], [], [], [1, 2], [0, 1], [0, 1, 2, 3, 4]] [12, 13, 14, 15] [5] (by kernel_rfl) (by kernel_rfl) (by kernel_rfl) (by kernel_rfl) (by exact ⟨rfl, trivial⟩) ?_) | (refine And.intro ?ob ?_; case ob => ((try simp only [sxO, ne_eq, maxLen] at *); omega)) | fail) <;> (try simp (config := { maxSteps := 1000000 }) only [hb0, smlSt, d1, w1, n1, ↓hold_pre, awayP, runOps, regK, step1, newK, genR, appR, obl, buildR, Value.cells, closeK, keepH, outV, retK, ret1, retC, RetV, Option.getD, runD, stepD, afterK, undef, simprocAttr, sxB, ↓sxD, sxE, sxTab]))
    exact ⟨a % b, smlSt M num den b (a % b), by omega, le_sub ⟨rfl, rfl, rfl, rfl, rfl, trivial⟩ ⟨rfl, trivial⟩ rfl rfl rfl (keepLt0 _), b, a % b, rfl, by rw [← hg, Nat.gcd_comm b, ← Nat.gcd_rec, Nat.gcd_comm], hb, by omega, rfl⟩
  subst hb0
  rw [Nat.gcd_zero_right] at hg
  subst hg
  have hg0 : 0 < Nat.gcd num den := Nat.gcd_pos_of_pos_right _ hd
  have hq0 : 0 < den / Nat.gcd num den := Nat.div_pos (Nat.gcd_le_right num hd) hg0
  have hq1 : den / Nat.gcd num den ≤ 2147483648 := Nat.le_trans (Nat.div_le_self _ _) hd2
  have d1 : decide (((0 : Nat) : Int) = 0) = true := by decide
  have n1 : (((Nat.gcd num den : Nat) : Int) = 0) = False := eq_false (fun h => by omega)
  have w1 : IntKind.i64.wrap ((den : Int).tdiv ((Nat.gcd num den : Nat) : Int)) = ((den / Nat.gcd num den : Nat) : Int) := by rw [← Int.ofNat_tdiv]; exact wrap_id (by omega) (by omega)
  have w2 : IntKind.u32.wrap ((den / Nat.gcd num den : Nat) : Int) = ((den / Nat.gcd num den : Nat) : Int) := wrap32_id (by omega)
  by_cases h0 : num = 0
  · subst h0
    have d2 : decide ((0 : Int) < ((0 : Nat) : Int)) = false := by decide
    rw [Nat.zero_div, ofN_zero] at hK
    (replace hb0 := true_and True); refine Go1.mk ?_; repeat' ((first | (with_reducible refine Go1.go ?_) | ((with_reducible first | refine brv_mk ?_ ?_ | refine gsplitD ?_ ?_ | refine gsplitG ?_ ?_) <;> intro h <;> (try simp only [Bool.not_eq_true', Bool.not_eq_false'] at h) <;> replace hb0 := h) | ((with_reducible refine isDraw [some 12, some 13, some 14, some 15, some 5, some 6] (by decide) ?_); refine draw_rule [(0, []), (1, []), (2, []), (3, []), (4, []), (5, [])] [[], [], [], [1, 2], [0, 1], [0, 1, 2, 3, 4]] [12, 13, 14, 15] [5] (by kernel_rfl) (by kernel_rfl) (by kernel_rfl) (by kernel_rfl) (by exact ⟨rfl, trivial⟩) ?_) | (refine And.intro ?ob ?_; case ob => ((try simp only [sxO, ne_eq, maxLen] at *); omega)) | fail) <;> (try simp (config := { maxSteps := 1000000 }) only [hb0, smlSt, d1, d2, n1, w1, w2, ↓hold_pre, awayP, runOps, regK, step1, newK, genR, appR, obl, buildR, Value.cells, closeK, keepH, outV, retK, ret1, retC, RetV, Option.getD, runD, stepD, afterK, undef, simprocAttr, sxB, ↓sxD, sxE, sxTab]))
    exact .inl (FrzF.agg1 _ [u32V (den / Nat.gcd 0 den)] rfl rfl fun u M1 a1 a2 a3 => hK _ _ _ a1 (isL_nil _ _ _) (by rw [ofN_u32 hq0 (by omega)]; exact a2) (freshS_nil _ _) a3)
  · have hp0 : 0 < num / Nat.gcd num den := Nat.div_pos (Nat.gcd_le_left den (by omega)) hg0
    have hp1 : num / Nat.gcd num den ≤ 2147483648 := Nat.le_trans (Nat.div_le_self _ _) hn
    have d2 : decide ((0 : Int) < (num : Int)) = true := by rw [decide_eq_true_eq]; omega
    have w3 : IntKind.i64.wrap ((num : Int).tdiv ((Nat.gcd num den : Nat) : Int)) = ((num / Nat.gcd num den : Nat) : Int) := by rw [← Int.ofNat_tdiv]; exact wrap_id (by omega) (by omega)
    have w4 : IntKind.u32.wrap ((num / Nat.gcd num den : Nat) : Int) = ((num / Nat.gcd num den : Nat) : Int) := wrap32_id (by omega)
    (replace hb0 := true_and True); refine Go1.mk ?_; repeat' ((first | (with_reducible refine Go1.go ?_) | ((with_reducible first | refine brv_mk ?_ ?_ | refine gsplitD ?_ ?_ | refine gsplitG ?_ ?_) <;> intro h <;> (try simp only [Bool.not_eq_true', Bool.not_eq_false'] at h) <;> replace hb0 := h) | ((with_reducible refine isDraw [some 12, some 13, some 14, some 15, some 5, some 6] (by decide) ?_); refine draw_rule [(0, []), (1, []), (2, []), (3, []), (4, []), (5, [])] [[], [], [], [1, 2], [0, 1], [0, 1, 2, 3, 4]] [12, 13, 14, 15] [5] (by kernel_rfl) (by kernel_rfl) (by kernel_rfl) (by kernel_rfl) (by exact ⟨rfl, trivial⟩) ?_) | (refine And.intro ?ob ?_; case ob => ((try simp only [sxO, ne_eq, maxLen] at *); omega)) | fail) <;> (try simp (config := { maxSteps := 1000000 }) only [hb0, smlSt, d1, d2, n1, w1, w2, w3, w4, ↓hold_pre, awayP, runOps, regK, step1, newK, genR, appR, obl, buildR, Value.cells, closeK, keepH, outV, retK, ret1, retC, RetV, Option.getD, runD, stepD, afterK, undef, simprocAttr, sxB, ↓sxD, sxE, sxTab]))
    exact FrzF.agg2 [u32V (num / Nat.gcd num den)] [u32V (den / Nat.gcd num den)] rfl rfl rfl rfl (by decide) fun u u' M1 a1 a2 a3 a4 a5 => hK _ _ _ a1 (by rw [ofN_u32 hp0 (by omega)]; exact a2) (by rw [ofN_u32 hq0 (by omega)]; exact a3) a4 a5
end
end Go.Proofs.YtamghpnjdohnjaaDoor.Sx
