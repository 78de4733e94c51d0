/- Part 36 of the texts of this claim: a symbolic executor and contracts of functions. -/
import Derived.Test.YtjapnklocibgaaaOLsRP2
namespace Go.Proofs.Ytjapnklocibgaaa.Sx
open Go Go.RowKit
set_option linter.unusedVariables false
set_option linter.unusedSimpArgs false
set_option maxRecDepth 100000
set_option maxHeartbeats 8000000
attribute [local congr] fin_congr finG_congr stepG_congr step1_congr runOps_congr brv_congr obl_congr condK_congr LoopK_congr seqK_congr CutK_congr vc_congr DrawK_congr regK_congr CallK_congr AskK_congr newK_congr retC_congr ret1_congr retK_congr outV_congr closeK_congr genR_congr appR_congr finD_congr finGD_congr stepGD_congr stepD_congr CallK0_congr runD_congr okR_congr CallS_congr vcX_congr
attribute [local congr] Stop_congr
theorem irC_at {L : List IR} {i : Nat} (h : i < L.length) : ((irC L).drop (i * 5)).take 5 = [.ext (.string (bs L[i].pk)), .ext (.string (bs L[i].ts)), .ext L[i].u1, .ext L[i].u2, .ext (.int .i64 L[i].cost)] := by
  unfold irC
  rw [← List.map_drop, ← List.map_take, flat_part (z := 5) (fun _ => rfl) L i h]; rfl
theorem irC_val {L : List IR} {i : Nat} (h : i < L.length) : ((irC L).drop (i * 5 + 2)).take 2 = [.ext L[i].u1, .ext L[i].u2] := by
  have h1 := irC_at h
  have h2 : (((List.drop (i * 5) (irC L)).take 5).drop 2).take 2 = _ := congrArg (fun l => (l.drop 2).take 2) h1
  rw [List.drop_take, List.take_take, List.drop_drop, Nat.min_eq_left (by omega)] at h2
  rw [h2]; rfl
def IR.setv (x : IR) (v1 v2 : Value) (n d : Nat) : IR := ⟨x.pk, x.ts, v1, v2, ofN n, ofN d, x.cost⟩
theorem irC_setv {R : List IR} {i : Nat} (h : i < R.length) (v1 v2 : Value) (n d : Nat) : (irC R).take (i * 5 + 2) ++ (.ext v1 :: .ext v2 :: (irC R).drop (i * 5 + 2 + 2)) = irC (R.set i (R[i].setv v1 v2 n d)) := by
  have e : R = R.take i ++ R[i] :: R.drop (i + 1) := by rw [← List.drop_eq_getElem_cons h, List.take_append_drop]
  have hl : (R.take i).length = i := by rw [List.length_take]; omega
  have e2 : R.set i (R[i].setv v1 v2 n d) = R.take i ++ R[i].setv v1 v2 n d :: R.drop (i + 1) := by rw [List.set_eq_take_append_cons_drop, if_pos h]
  have e3 : irC R = irC (R.take i) ++ (.ext (.string (bs R[i].pk)) :: .ext (.string (bs R[i].ts)) :: .ext R[i].u1 :: .ext R[i].u2 :: .ext (.int .i64 R[i].cost) :: irC (R.drop (i + 1))) := by
    refine (congrArg irC e).trans ?_
    unfold irC; simp only [List.flatMap_append, List.flatMap_cons, List.map_append, IR.c]; rfl
  have e4 : (irC (R.take i)).length = i * 5 := by rw [irC_len, hl]
  rw [e2, e3]
  have g1 : ∀ (A B : List AV) (x y : AV), A.length = i * 5 → (A ++ x :: y :: B).take (i * 5 + 2) = A ++ [x, y] := fun A B x y h => by
    rw [List.take_append, h, List.take_of_length_le (by omega), show i * 5 + 2 - i * 5 = 2 by omega]; rfl
  have g2 : ∀ (A B : List AV) (x y z w : AV), A.length = i * 5 → (A ++ x :: y :: z :: w :: B).drop (i * 5 + 2 + 2) = B := fun A B x y z w h => by
    rw [List.drop_append, List.drop_eq_nil_of_le (by omega), h, show i * 5 + 2 + 2 - i * 5 = 4 by omega]; rfl
  rw [g1 _ _ _ _ e4, g2 _ _ _ _ _ _ e4]
  unfold irC; simp [IR.c, IR.setv]
structure SmK (M : Mem) (x : IR) (i : Nat) : Prop where
  it : ItOK M x
  ts : x.ts = [UInt8.ofNat (97 + i)]
  v1 : valN x.l1 ≤ 8
  v2 : valN x.l2 ≤ 8
theorem SmK.le {M M' : Mem} {x : IR} {i : Nat} (h : SmK M x i) (hM : Mem.le M M') : SmK M' x i := ⟨h.it.le hM, h.ts, h.v1, h.v2⟩
def smL (M : Mem) (L : List IR) : Prop := ∀ i (h : i < L.length), SmK M L[i] i
theorem smL.le {M M' : Mem} {L : List IR} (h : smL M L) (hM : Mem.le M M') : smL M' L := fun i hi => (h i hi).le hM
theorem smL.ok {M : Mem} {L : List IR} (h : smL M L) : okIL M L := fun x hx => by
  obtain ⟨i, hi, rfl⟩ := List.getElem_of_mem hx
  exact (h i hi).it.ok
theorem smL.all {M : Mem} {L : List IR} (h : smL M L) : ∀ x ∈ L, ItOK M x := fun x hx => by
  obtain ⟨i, hi, rfl⟩ := List.getElem_of_mem hx
  exact (h i hi).it
theorem smL.ne {M : Mem} {L : List IR} (h : smL M L) (hl : L.length ≤ 9) : ∀ x y, x < L.length → y < L.length → (itA L x).ts = (itA L y).ts → x = y := fun x y hx hy e => by
  rw [itA_in hx, itA_in hy, (h x hx).ts, (h y hy).ts, List.cons.injEq] at e
  have e := congrArg UInt8.toNat e.1
  rw [UInt8.toNat_ofNat', UInt8.toNat_ofNat', Nat.mod_eq_of_lt (by omega), Nat.mod_eq_of_lt (by omega)] at e
  omega
theorem smL.snoc {M : Mem} {L : List IR} {x : IR} (h : smL M L) (hx : SmK M x L.length) : smL M (L ++ [x]) := fun i hi => by
  by_cases hl : i < L.length
  · rw [List.getElem_append_left hl]; exact h i hl
  · have e : i = L.length := by rw [List.length_append, List.length_singleton] at hi; omega
    subst e
    rw [List.getElem_append_right (by omega)]; simpa using hx
theorem mul_scaled {x : IR} {M : Mem} {i f : Nat} (h : SmK M x i) (hf : f ≤ 50) (h0 : 0 < f) : ∃ n d, mulF x.l1 x.l2 (ofN (f / Nat.gcd f 7)) (ofN (7 / Nat.gcd f 7)) = (0, n, d) ∧ n * (valN x.l2 * 7) = valN x.l1 * f * d ∧ 0 < d ∧ Nat.gcd n d = 1 ∧ n < 4294967296 ∧ d < 4294967296 := by
  obtain ⟨h1, _, _, _, _⟩ := chkI_parts h.it.chk
  obtain ⟨e1, e2, l1, l2, p, hg⟩ := chkI_val h.it.ok h.it.chk
  have v1 := h.v1
  have v2 := h.v2
  have hg7 : 0 < Nat.gcd f 7 := Nat.gcd_pos_of_pos_right _ (by decide)
  have g1 : f / Nat.gcd f 7 * Nat.gcd f 7 = f := Nat.div_mul_cancel (Nat.gcd_dvd_left f 7)
  have g2 : 7 / Nat.gcd f 7 * Nat.gcd f 7 = 7 := Nat.div_mul_cancel (Nat.gcd_dvd_right f 7)
  have q1 := Nat.div_le_self f (Nat.gcd f 7)
  have q2 := Nat.div_le_self 7 (Nat.gcd f 7)
  have q3 : 0 < 7 / Nat.gcd f 7 := Nat.div_pos (Nat.gcd_le_right f (by decide)) hg7
  have q4 : Nat.gcd (f / Nat.gcd f 7) (7 / Nat.gcd f 7) = 1 := Nat.gcd_div_gcd_div_gcd_of_pos_right (by decide)
  generalize Nat.gcd f 7 = G at *
  generalize f / G = a at *
  generalize 7 / G = b at *
  have b1 : valN x.l1 * a ≤ 8 * 50 := Nat.mul_le_mul v1 (by omega)
  have b2 : valN x.l2 * b ≤ 8 * 7 := Nat.mul_le_mul v2 q2
  have hc : chkF (ofN a) (ofN b) = true := by
    unfold chkF
    have ha1 : (ofN a).length ≤ 1 := ofN_len_le (by rw [show wN 1 = 4294967296 from rfl]; omega)
    have hb1 : (ofN b).length ≤ 1 := ofN_len_le (by rw [show wN 1 = 4294967296 from rfl]; omega)
    rw [chkN_ofN (by omega), chkN_ofN (by omega), valN_ofN, valN_ofN, q4, decide_eq_false (by omega)]; rfl
  obtain ⟨n, d, r1, r2, r3, r4, r5, r6⟩ := exF_low (x := valN x.l1 * a) (y := valN x.l2 * b) (k := 1) (Nat.mul_pos p q3) (ofN_len_le (by rw [show wN 1 = 4294967296 from rfl]; omega)) (ofN_len_le (by rw [show wN 1 = 4294967296 from rfl]; omega)) (by decide)
  have hn1 : n < 4294967296 := ofN_len_lt (k := 1) r5
  have hd1 : d < 4294967296 := ofN_len_lt (k := 1) r6
  refine ⟨n, d, ?_, ?_, r4, r3, hn1, hd1⟩
  · unfold mulF
    rw [h1, hc, Bool.and_self, if_pos rfl, valN_ofN, valN_ofN, r1]
  · refine Nat.eq_of_mul_eq_mul_right hg7 ?_
    calc n * (valN x.l2 * 7) * G = n * (valN x.l2 * (b * G)) * G := by rw [g2]
      _ = (n * (valN x.l2 * b)) * (G * G) := by ac_rfl
      _ = (valN x.l1 * a * d) * (G * G) := by rw [r2]
      _ = valN x.l1 * (a * G) * d * G := by ac_rfl
      _ = valN x.l1 * f * d * G := by rw [g1]
structure ScK (M : Mem) (L R : List IR) (f i : Nat) : Prop where
  len : R.length = L.length
  done : ∀ j (h : j < L.length) (h2 : j < R.length), j < i → Scaled f 7 L[j] R[j] ∧ ItOK M R[j]
  rest : ∀ j (h : j < L.length) (h2 : j < R.length), i ≤ j → R[j] = L[j]
theorem ScK.zero (M : Mem) (L : List IR) (f : Nat) : ScK M L L f 0 := ⟨rfl, fun j _ _ h => by omega, fun j _ _ _ => rfl⟩
theorem ScK.next {M M' : Mem} {L R : List IR} {f i : Nat} {x : IR} (h : ScK M L R f i) (hM : Mem.le M M') (hi : i < L.length) (hs : Scaled f 7 L[i] x) (hx : ItOK M' x) : ScK M' L (R.set i x) f (i + 1) := by
  have hl := h.len
  refine ⟨by rw [List.length_set]; exact hl, fun j h1 h2 hj => ?_, fun j h1 h2 hj => ?_⟩
  · have h3 : j < R.length := by omega
    by_cases e : i = j
    · subst e; rw [List.getElem_set_self]; exact ⟨hs, hx⟩
    · rw [List.getElem_set_ne e]
      obtain ⟨a, b⟩ := h.done j h1 h3 (by omega)
      exact ⟨a, b.le hM⟩
  · rw [List.getElem_set_ne (by omega)]
    exact h.rest j h1 (by omega) (by omega)
theorem irC_one {M : Mem} : ∀ {L : List IR}, okIL M L → allOne (irC L)
  | [], _ => trivial
  | x :: r, h => by
    have hx := h x List.mem_cons_self
    have ih := irC_one (L := r) fun y hy => h y (List.mem_cons_of_mem _ hy)
    exact ⟨rfl, rfl, hx.f.n.one, hx.f.d.one, rfl, ih⟩
theorem rev_take_succ {L : List IR} {k : Nat} (h : k < L.length) : L.reverse.take (k + 1) = L.reverse.take k ++ [L[L.length - 1 - k]] := by
  rw [List.take_add_one, List.getElem?_eq_getElem (by rw [List.length_reverse]; exact h), List.getElem_reverse]; rfl
section
variable {M : Mem} {K : AV → Hp → Mem → Prop}
def saSt (M : Mem) (u : Value) (p n : Nat) (b : Int) (L : List IR) : St := { env := [(7, .ext (.int .i64 (n : Int))), (6, .slo 55 0 L.length 5), (5, .own 31 0), (1, .ext (.int .i64 b))], hp := [(55, 46, irC L), (31, 25, [.ext u, .ext (.int .i64 (p : Int))])], M := M, kb := 8, fx := [] }
def skSt (M : Mem) (L R : List IR) (f i m : Nat) : St := { env := [(9, .ext (.int .i64 (i : Int))), (8, .slo 60 0 m 5), (6, .slo 55 0 m 5), (1, .ext (.int .i64 (f : Int)))], hp := [(60, 46, irC R), (55, 46, irC L)], M := M, kb := 8, fx := [] }
def scSt (M : Mem) (L Zr : List IR) (a b : Value) (i : Int) (m : Nat) : St := { env := [(17, .ext (.int .i64 i)), (16, .slo 108 0 Zr.length 5), (15, .ext (.int .i64 0)), (14, .ext b), (13, .ext (.int .i64 0)), (12, .ext a), (6, .slo 55 0 m 5)], hp := [(108, 46, irC Zr), (55, 46, irC L)], M := M, kb := 8, fx := [] }
def sdSt (M : Mem) (L : List IR) (a c : Value) (i m : Nat) : St := { env := [(20, .ext (.int .i64 (i : Int))), (18, .ext c), (12, .ext a), (6, .slo 55 0 m 5)], hp := [(55, 46, irC L)], M := M, kb := 8, fx := [] }
theorem scales29_ok (u : Value) (l : List Int) (b : Int) (hu : IsL M intV64 u l) (hK : ∀ M', Mem.le M M' → K (.ext (.bool true)) [] M') : CallS Try.prog 5 [.ext u, .ext (.int .i64 b)] [] M [] K := by
  refine inlS (cs := []) Try.mixed Try.func5 rfl (by kernel_rfl) 8 rfl rfl ?_
  simp only [Try.f5]
  refine Go1.mk ?_; repeat' ((first | (with_reducible refine Go1.go ?_) | ((with_reducible refine isCall (f := 18) ?_); refine callA ?_) | ((with_reducible refine isCall0 (f := 18) ?_); refine callA0 ?_) | ((with_reducible refine isCallS (f := 18) ?_); refine (nextI_ok 31 u l 0 10 hu (by omega) (by omega) (by omega) (fun x hx0 hx1 => Stop.mk ?_))) | (refine And.intro ?_ ?_; (try simp only [sxO] at *); omega) | fail) <;> (try simp (maxSteps := 1000000) only [hu.one, hasK_nil, ↓hold_pre, awayP, runOps, regK, step1, newK, genR, appR, obl, buildR, Value.cells, closeK, keepH, outV, retK, ret1, retC, RetV, Option.getD, runD, stepD, afterK, undef, simprocAttr, sxB, ↓sxD, sxE, sxTab]))
  obtain ⟨N, rfl⟩ := Int.eq_ofNat_of_zero_le hx0
  refine Stop.go ?_
  refine Go1.mk ?_; repeat' ((first | (with_reducible refine Go1.go ?_) | (refine And.intro ?_ ?_; (try simp only [sxO] at *); omega) | fail) <;> (try simp (maxSteps := 1000000) only [hu.one, hasK_nil, ↓hold_pre, awayP, runOps, regK, step1, newK, genR, appR, obl, buildR, Value.cells, closeK, keepH, outV, retK, ret1, retC, RetV, Option.getD, runD, stepD, afterK, undef, simprocAttr, sxB, ↓sxD, sxE, sxTab]))
  refine ⟨fun m z => ∃ M' L p n, m = n ∧ Mem.le M M' ∧ smL M' L ∧ L.length + n = N ∧ p = 1 + 3 * L.length ∧ z = saSt M' u p n b L,
    ⟨N, saSt M u 1 N b [], (le_nil 6 55 46 5 rfl (.inl (by simp [awayB, mentE, mentH, mentL, AV.ment, hasK]))).trans (le_sub ⟨rfl, rfl, rfl, rfl, trivial⟩ ⟨by simp [lkH, saSt, irC], by simp [lkH, saSt], trivial⟩ rfl rfl rfl (keepLt_of rfl)), ⟨M, [], 1, N, rfl, Mem.le.refl _, fun i h => by simp at h, by simp, rfl, rfl⟩⟩, ?_⟩
  rintro n z ⟨M1, L, p, n', rfl, hM, hL, hLn, rfl, rfl⟩
  have hu1 := hu.le hM
  have hcl := irC_len L
  by_cases hn0 : 0 < n
  · have d1 : decide ((0 : Int) < (n : Int)) = true := by rw [decide_eq_true_eq]; omega
    have wn : IntKind.i64.wrap ((n : Int) - 1) = ((n - 1 : Nat) : Int) := pred_i (by omega) (by omega)
    have hL9 : L.length ≤ 8 := by omega
    obtain ⟨c, hc⟩ : ∃ c, c = UInt8.ofNat (97 + L.length) := ⟨_, rfl⟩
    have hcn : c.toNat = 97 + L.length := by rw [hc, UInt8.toNat_ofNat', Nat.mod_eq_of_lt (by omega)]
    have wa : IntKind.i64.wrap (97 + (L.length : Int)) = ((97 + L.length : Nat) : Int) := by rw [wrap_id (by omega) (by omega)]; omega
    have wb : IntKind.u8.wrap ((97 + L.length : Nat) : Int) = (c.toNat : Int) := by rw [hcn]; exact IntWalk.u8_in _ ⟨by omega, by omega⟩
    have hcb : UInt8.ofNat c.toNat = c := by simp
    have c0 : (0 : Int) ≤ (c.toNat : Int) := by omega
    have c1 : (c.toNat : Int) < 256 := by have := c.toNat_lt; omega
    have hbs : ByteArray.mk #[c] = bs [c] := rfl
    refine Go1.mk ?_; repeat' ((first | (with_reducible refine Go1.go ?_) | ((with_reducible refine isCall (f := 18) ?_); refine callA ?_) | ((with_reducible refine isCall0 (f := 18) ?_); refine callA0 ?_) | ((with_reducible refine isCallS (f := 18) ?_); refine (nextI_ok 31 u l (1 + 3 * L.length) 9 hu1 (by omega) (by omega) (by omega) (fun x1 x10 x11 => Stop.mk ?_))) | ((with_reducible refine isDraw [some 30, some 31, some 32, some 33, some 34, some 35, some 36, some 37, some 38, some 39, some 40, some 41, some 42, some 43, some 44, some 45, some 46, some 47, some 6] (by decide) ?_); refine draw_rule [(0, []), (1, []), (2, []), (3, []), (4, []), (5, []), (6, []), (7, [4, 6]), (9, [4, 6]), (12, [4, 6]), (8, [4, 6]), (10, [4, 6]), (11, [4, 6]), (13, [4, 6]), (14, [4, 6]), (15, []), (16, []), (17, []), (18, [])] [[], [], [1], [1, 2], [1, 2, 3], [1, 2, 3, 4], [1, 2, 3, 4, 5], [], [7], [], [7, 8, 9], [7, 8, 9, 10], [], [7, 8, 9, 10, 12], [7, 8, 9, 10, 12, 13], [1, 2, 3, 4, 5, 6, 7, 8, 9, 10, 11, 12, 13, 14], [1, 2, 3, 4, 5, 6, 7, 8, 9, 10, 11, 12, 13, 14, 15], [0, 1, 2, 3, 4, 5, 6, 7, 8, 9, 10, 11, 12, 13, 14, 15, 16], [0, 1, 2, 3, 4, 5, 6, 7, 8, 9, 10, 11, 12, 13, 14, 15, 16, 17]] [30, 31, 32, 33, 34, 35, 36, 37, 38, 39, 40, 41, 42, 43, 44, 45, 46] [] (by kernel_rfl) (by kernel_rfl) (by kernel_rfl) (by kernel_rfl) (by exact trivial) ?_) | (refine And.intro ?_ ?_; (try simp only [sxO] at *); omega) | fail) <;> (try simp (maxSteps := 1000000) only [saSt, d1, wa, wb, hcb, hbs, c0, c1, hu1.one, irC_ment, irC_kill, irC_len, hasK_nil, Nat.zero_add, bs_mk, bs_app, bs_ext, bs_size, bs_toList, bs_at, bs_cells, List.take_length, imp_ga, guard_pk, guard_pk2, ↓hold_pre, awayP, runOps, regK, step1, newK, genR, appR, obl, buildR, Value.cells, closeK, keepH, outV, retK, ret1, retC, RetV, Option.getD, runD, stepD, afterK, undef, simprocAttr, sxB, ↓sxD, sxE, sxTab]))
    obtain ⟨num, rfl⟩ := Int.eq_ofNat_of_zero_le x10
    refine Stop.go ?_
    refine Go1.mk ?_; repeat' ((first | (with_reducible refine Go1.go ?_) | ((with_reducible refine isCall (f := 18) ?_); refine callA ?_) | ((with_reducible refine isCall0 (f := 18) ?_); refine callA0 ?_) | ((with_reducible refine isCallS (f := 18) ?_); refine (nextI_ok 31 u l (1 + 3 * L.length + 1) 8 hu1 (by omega) (by omega) (by omega) (fun x2 x20 x21 => Stop.mk ?_))) | ((with_reducible refine isDraw [some 30, some 31, some 32, some 33, some 34, some 35, some 36, some 37, some 38, some 39, some 40, some 41, some 42, some 43, some 44, some 45, some 46, some 47, some 6] (by decide) ?_); refine draw_rule [(0, []), (1, []), (2, []), (3, []), (4, []), (5, []), (6, []), (7, [4, 6]), (9, [4, 6]), (12, [4, 6]), (8, [4, 6]), (10, [4, 6]), (11, [4, 6]), (13, [4, 6]), (14, [4, 6]), (15, []), (16, []), (17, []), (18, [])] [[], [], [1], [1, 2], [1, 2, 3], [1, 2, 3, 4], [1, 2, 3, 4, 5], [], [7], [], [7, 8, 9], [7, 8, 9, 10], [], [7, 8, 9, 10, 12], [7, 8, 9, 10, 12, 13], [1, 2, 3, 4, 5, 6, 7, 8, 9, 10, 11, 12, 13, 14], [1, 2, 3, 4, 5, 6, 7, 8, 9, 10, 11, 12, 13, 14, 15], [0, 1, 2, 3, 4, 5, 6, 7, 8, 9, 10, 11, 12, 13, 14, 15, 16], [0, 1, 2, 3, 4, 5, 6, 7, 8, 9, 10, 11, 12, 13, 14, 15, 16, 17]] [30, 31, 32, 33, 34, 35, 36, 37, 38, 39, 40, 41, 42, 43, 44, 45, 46] [] (by kernel_rfl) (by kernel_rfl) (by kernel_rfl) (by kernel_rfl) (by exact trivial) ?_) | (refine And.intro ?_ ?_; (try simp only [sxO] at *); omega) | fail) <;> (try simp (maxSteps := 1000000) only [hbs, hcb, hu1.one, irC_ment, irC_kill, irC_len, hasK_nil, Nat.zero_add, bs_mk, bs_app, bs_ext, bs_size, bs_toList, bs_at, bs_cells, List.take_length, imp_ga, guard_pk, guard_pk2, ↓hold_pre, awayP, runOps, regK, step1, newK, genR, appR, obl, buildR, Value.cells, closeK, keepH, outV, retK, ret1, retC, RetV, Option.getD, runD, stepD, afterK, undef, simprocAttr, sxB, ↓sxD, sxE, sxTab]))
    obtain ⟨den, rfl⟩ := Int.eq_ofNat_of_zero_le x20
    obtain ⟨D, hD⟩ : ∃ D, D = den + 1 := ⟨_, rfl⟩
    have w1 : IntKind.i64.wrap (1 + (den : Int)) = (D : Int) := by rw [wrap_id (by omega) (by omega)]; omega
    refine Stop.go ?_
    refine Go1.mk ?_; repeat' ((first | (with_reducible refine Go1.go ?_) | ((with_reducible refine isCall (f := 18) ?_); refine callA ?_) | ((with_reducible refine isCall0 (f := 18) ?_); refine callA0 ?_) | ((with_reducible refine isCallS (f := 18) ?_); refine (nextI_ok 31 u l (1 + 3 * L.length + 1 + 1) 8 hu1 (by omega) (by omega) (by omega) (fun x3 x30 x31 => Stop.mk ?_))) | ((with_reducible refine isDraw [some 30, some 31, some 32, some 33, some 34, some 35, some 36, some 37, some 38, some 39, some 40, some 41, some 42, some 43, some 44, some 45, some 46, some 47, some 6] (by decide) ?_); refine draw_rule [(0, []), (1, []), (2, []), (3, []), (4, []), (5, []), (6, []), (7, [4, 6]), (9, [4, 6]), (12, [4, 6]), (8, [4, 6]), (10, [4, 6]), (11, [4, 6]), (13, [4, 6]), (14, [4, 6]), (15, []), (16, []), (17, []), (18, [])] [[], [], [1], [1, 2], [1, 2, 3], [1, 2, 3, 4], [1, 2, 3, 4, 5], [], [7], [], [7, 8, 9], [7, 8, 9, 10], [], [7, 8, 9, 10, 12], [7, 8, 9, 10, 12, 13], [1, 2, 3, 4, 5, 6, 7, 8, 9, 10, 11, 12, 13, 14], [1, 2, 3, 4, 5, 6, 7, 8, 9, 10, 11, 12, 13, 14, 15], [0, 1, 2, 3, 4, 5, 6, 7, 8, 9, 10, 11, 12, 13, 14, 15, 16], [0, 1, 2, 3, 4, 5, 6, 7, 8, 9, 10, 11, 12, 13, 14, 15, 16, 17]] [30, 31, 32, 33, 34, 35, 36, 37, 38, 39, 40, 41, 42, 43, 44, 45, 46] [] (by kernel_rfl) (by kernel_rfl) (by kernel_rfl) (by kernel_rfl) (by exact trivial) ?_) | (refine And.intro ?_ ?_; (try simp only [sxO] at *); omega) | fail) <;> (try simp (maxSteps := 1000000) only [w1, hbs, hcb, hu1.one, irC_ment, irC_kill, irC_len, hasK_nil, Nat.zero_add, bs_mk, bs_app, bs_ext, bs_size, bs_toList, bs_at, bs_cells, List.take_length, imp_ga, guard_pk, guard_pk2, ↓hold_pre, awayP, runOps, regK, step1, newK, genR, appR, obl, buildR, Value.cells, closeK, keepH, outV, retK, ret1, retC, RetV, Option.getD, runD, stepD, afterK, undef, simprocAttr, sxB, ↓sxD, sxE, sxTab]))
    obtain ⟨cos, rfl⟩ := Int.eq_ofNat_of_zero_le x30
    obtain ⟨C, hC⟩ : ∃ C, C = cos + 1 := ⟨_, rfl⟩
    have w2 : IntKind.i64.wrap (1 + (cos : Int)) = (C : Int) := by rw [wrap_id (by omega) (by omega)]; omega
    refine Stop.go ?_
    refine Go1.mk ?_; repeat' ((first | (with_reducible refine Go1.go ?_) | (((with_reducible refine isCall0 (f := 19) ?_); refine callA0_nil (by kernel_rfl) ?_; refine (item_ok [c] num D C (by omega) (by omega) (by omega) (fun w1 w2 M2 a1 a2 a3 a4 a5 => Stop.mk ?_)))) | ((with_reducible refine isDraw [some 30, some 31, some 32, some 33, some 34, some 35, some 36, some 37, some 38, some 39, some 40, some 41, some 42, some 43, some 44, some 45, some 46, some 47, some 6] (by decide) ?_); refine draw_rule [(0, []), (1, []), (2, []), (3, []), (4, []), (5, []), (6, []), (7, [4, 6]), (9, [4, 6]), (12, [4, 6]), (8, [4, 6]), (10, [4, 6]), (11, [4, 6]), (13, [4, 6]), (14, [4, 6]), (15, []), (16, []), (17, []), (18, [])] [[], [], [1], [1, 2], [1, 2, 3], [1, 2, 3, 4], [1, 2, 3, 4, 5], [], [7], [], [7, 8, 9], [7, 8, 9, 10], [], [7, 8, 9, 10, 12], [7, 8, 9, 10, 12, 13], [1, 2, 3, 4, 5, 6, 7, 8, 9, 10, 11, 12, 13, 14], [1, 2, 3, 4, 5, 6, 7, 8, 9, 10, 11, 12, 13, 14, 15], [0, 1, 2, 3, 4, 5, 6, 7, 8, 9, 10, 11, 12, 13, 14, 15, 16], [0, 1, 2, 3, 4, 5, 6, 7, 8, 9, 10, 11, 12, 13, 14, 15, 16, 17]] [30, 31, 32, 33, 34, 35, 36, 37, 38, 39, 40, 41, 42, 43, 44, 45, 46] [] (by kernel_rfl) (by kernel_rfl) (by kernel_rfl) (by kernel_rfl) (by exact trivial) ?_) | (refine And.intro ?_ ?_; (try simp only [sxO] at *); omega) | fail) <;> (try simp (maxSteps := 1000000) only [w2, hbs, hcb, hu1.one, irC_ment, irC_kill, irC_len, hasK_nil, Nat.zero_add, bs_mk, bs_app, bs_ext, bs_size, bs_toList, bs_at, bs_cells, List.take_length, imp_ga, guard_pk, guard_pk2, ↓hold_pre, awayP, runOps, regK, step1, newK, genR, appR, obl, buildR, Value.cells, closeK, keepH, outV, retK, ret1, retC, RetV, Option.getD, runD, stepD, afterK, undef, simprocAttr, sxB, ↓sxD, sxE, sxTab]))
    have a1 : Mem.le M1 M2 := a1
    obtain ⟨g1, g2, g3, g4⟩ := sml_low num D (by omega) (by omega) (by omega)
    have hit := itOK_of [112] [c] C a2 a3 g1 g2 g3 g4 (by omega) (by omega)
    have hsm : SmK M2 ⟨[112], [c], w1, w2, ofN (num / Nat.gcd num D), ofN (D / Nat.gcd num D), (C : Int)⟩ L.length := ⟨hit, by rw [hc], by
      show valN (ofN _) ≤ 8
      rw [valN_ofN]; have := Nat.div_le_self num (Nat.gcd num D); omega, by
      show valN (ofN _) ≤ 8
      rw [valN_ofN]; have := Nat.div_le_self D (Nat.gcd num D); omega⟩
    have happ := irC_app L ⟨[112], [c], w1, w2, ofN (num / Nat.gcd num D), ofN (D / Nat.gcd num D), (C : Int)⟩
    have hl1 : (L ++ [(⟨[112], [c], w1, w2, ofN (num / Nat.gcd num D), ofN (D / Nat.gcd num D), (C : Int)⟩ : IR)]).length = L.length + 1 := by rw [List.length_append]; rfl
    refine Stop.go ?_
    refine Go1.mk ?_; repeat' ((first | (with_reducible refine Go1.go ?_) | ((with_reducible refine isDraw [some 30, some 31, some 32, some 33, some 34, some 35, some 36, some 37, some 38, some 39, some 40, some 41, some 42, some 43, some 44, some 45, some 46, some 47, some 6] (by decide) ?_); refine draw_rule [(0, []), (1, []), (2, []), (3, []), (4, []), (5, []), (6, []), (7, [4, 6]), (9, [4, 6]), (12, [4, 6]), (8, [4, 6]), (10, [4, 6]), (11, [4, 6]), (13, [4, 6]), (14, [4, 6]), (15, []), (16, []), (17, []), (18, [])] [[], [], [1], [1, 2], [1, 2, 3], [1, 2, 3, 4], [1, 2, 3, 4, 5], [], [7], [], [7, 8, 9], [7, 8, 9, 10], [], [7, 8, 9, 10, 12], [7, 8, 9, 10, 12, 13], [1, 2, 3, 4, 5, 6, 7, 8, 9, 10, 11, 12, 13, 14], [1, 2, 3, 4, 5, 6, 7, 8, 9, 10, 11, 12, 13, 14, 15], [0, 1, 2, 3, 4, 5, 6, 7, 8, 9, 10, 11, 12, 13, 14, 15, 16], [0, 1, 2, 3, 4, 5, 6, 7, 8, 9, 10, 11, 12, 13, 14, 15, 16, 17]] [30, 31, 32, 33, 34, 35, 36, 37, 38, 39, 40, 41, 42, 43, 44, 45, 46] [] (by kernel_rfl) (by kernel_rfl) (by kernel_rfl) (by kernel_rfl) (by exact trivial) ?_) | (refine And.intro ?_ ?_; (try simp only [sxO] at *); omega) | fail) <;> (try simp (maxSteps := 1000000) only [wn, happ, hcl, a2.one, a3.one, hu1.one, irC_ment, irC_kill, irC_len, hasK_nil, Nat.zero_add, bs_mk, bs_app, bs_ext, bs_size, bs_toList, bs_at, bs_cells, List.take_length, imp_ga, guard_pk, guard_pk2, ↓hold_pre, awayP, runOps, regK, step1, newK, genR, appR, obl, buildR, Value.cells, closeK, keepH, outV, retK, ret1, retC, RetV, Option.getD, runD, stepD, afterK, undef, simprocAttr, sxB, ↓sxD, sxE, sxTab]))
    exact ⟨n - 1, saSt M2 u (1 + 3 * (L.length + 1)) (n - 1) b (L ++ [⟨[112], [c], w1, w2, ofN (num / Nat.gcd num D), ofN (D / Nat.gcd num D), (C : Int)⟩]), by omega, le_sub ⟨rfl, by simp [lk, saSt], rfl, rfl, trivial⟩ ⟨by simp [lkH, saSt], by simp [lkH, saSt]; omega, trivial⟩ rfl rfl rfl (by simp [keepLt, saSt, lkH]), M2, _, _, n - 1, rfl, hM.trans a1, (hL.le a1).snoc hsm, by rw [hl1]; omega, by rw [hl1], rfl⟩
  obtain rfl : n = 0 := by omega
  have d1 : decide ((0 : Int) < ((0 : Nat) : Int)) = false := by decide
  have hLN : L.length ≤ 9 := by omega
  obtain ⟨f0, f1⟩ := foldI_bd1 b 50 (by omega) (by omega)
  obtain ⟨ff, hff⟩ := Int.eq_ofNat_of_zero_le f0
  obtain ⟨f, hf⟩ : ∃ f, f = ff + 1 := ⟨_, rfl⟩
  have wf : IntKind.i64.wrap (1 + (ff : Int)) = (f : Int) := by rw [wrap_id (by omega) (by omega)]; omega
  refine Go1.mk ?_; repeat' ((first | (with_reducible refine Go1.go ?_) | (((with_reducible refine isCall (f := 20) ?_); refine callA_nil (by kernel_rfl) ?_; refine (fold_ok _ _ (Stop.mk ?_)))) | (refine And.intro ?_ ?_; (try simp only [sxO] at *); omega) | fail) <;> (try simp (maxSteps := 1000000) only [saSt, d1, hu1.one, irC_ment, irC_kill, irC_len, hasK_nil, Nat.zero_add, bs_mk, bs_app, bs_ext, bs_size, bs_toList, bs_at, bs_cells, List.take_length, imp_ga, guard_pk, guard_pk2, ↓hold_pre, awayP, runOps, regK, step1, newK, genR, appR, obl, buildR, Value.cells, closeK, keepH, outV, retK, ret1, retC, RetV, Option.getD, runD, stepD, afterK, undef, simprocAttr, sxB, ↓sxD, sxE, sxTab]))
  rw [hff]
  have hao : ∀ L : List IR, okIL M1 L → allOne (irC L) = True := fun L h => eq_true (irC_one h)
  have hoL := hao L hL.ok
  have htk : (irC L).take (L.length * 5) = irC L := List.take_of_length_le (by omega)
  refine Stop.go ?_
  refine Go1.mk ?_; repeat' ((first | (with_reducible refine Go1.go ?_) | (refine And.intro ?_ ?_; (try simp only [sxO] at *); omega) | fail) <;> (try simp (maxSteps := 1000000) only [wf, htk, hoL, hcl, irC_ment, irC_kill, irC_len, hasK_nil, Nat.zero_add, bs_mk, bs_app, bs_ext, bs_size, bs_toList, bs_at, bs_cells, List.take_length, imp_ga, guard_pk, guard_pk2, ↓hold_pre, awayP, runOps, regK, step1, newK, genR, appR, obl, buildR, Value.cells, closeK, keepH, outV, retK, ret1, retC, RetV, Option.getD, runD, stepD, afterK, undef, simprocAttr, sxB, ↓sxD, sxE, sxTab]))
  refine ⟨fun m z => ∃ M' R i, m = L.length - i ∧ i ≤ L.length ∧ Mem.le M1 M' ∧ ScK M' L R f i ∧ z = skSt M' L R f i L.length,
    ⟨L.length, skSt M1 L L f 0 L.length, le_sub ⟨rfl, rfl, rfl, rfl, trivial⟩ ⟨rfl, rfl, trivial⟩ rfl rfl rfl (keepLt_of rfl), ⟨M1, L, 0, by omega, by omega, Mem.le.refl _, ScK.zero _ _ _, rfl⟩⟩, ?_⟩
  clear hoL htk
  rintro m z ⟨M2, R, i, rfl, hi, hM2, hR, rfl⟩
  have hL2 := hL.le hM2
  have hRl := hR.len
  by_cases hlt : i < L.length
  · have e1 : decide ((i : Int) < (L.length : Int)) = true := by rw [decide_eq_true_eq]; omega
    have b1 : (0 : Int) ≤ (i : Int) := by omega
    have b2 : (i : Int) < (L.length : Int) := by omega
    have wi : IntKind.i64.wrap ((i : Int) + 1) = ((i + 1 : Nat) : Int) := succ_i (by omega)
    have hv := irC_val hlt
    have hre := hR.rest i hlt (by omega) (Nat.le_refl _)
    have hset := fun v1 v2 n d => irC_setv (R := R) (i := i) (by omega) v1 v2 n d
    have hsm := hL2 i hlt
    have hnx := fun {M' : Mem} {x : IR} (hM : Mem.le M2 M') (h1 : Scaled f 7 L[i] x) (h2 : ItOK M' x) => hR.next hM hlt h1 h2
    obtain ⟨n, d, q1, q2, q3, q4, q5, q6⟩ := mul_scaled hsm (f := f) (by omega) (by omega)
    have hF := hsm.it.ok.f
    obtain ⟨_, _, _, pc1, pc2⟩ := chkI_parts hsm.it.chk
    have o1 := hF.n.one
    have o2 := hF.d.one
    have j1 : i * 5 + 2 + 2 ≤ L.length * 5 := by omega
    have j2 : i * 5 + 2 + 2 ≤ R.length * 5 := by omega
    rw [hre] at hset
    generalize L[i] = X at *
    obtain ⟨gg1, gg2, gg3, gg4⟩ := sml_low f 7 (by omega) (by decide) (by decide)
    have l1 : (ofN (f / Nat.gcd f 7)).length ≤ 1 := ofN_len_le (by rw [show wN 1 = 4294967296 from rfl]; exact gg1)
    have l2 : (ofN (7 / Nat.gcd f 7)).length ≤ 1 := ofN_len_le (by rw [show wN 1 = 4294967296 from rfl]; exact gg3)
    refine Go1.mk ?_; repeat' ((first | (with_reducible refine Go1.go ?_) | (((with_reducible refine isCall0 (f := 22) ?_); refine callA0_nil (by kernel_rfl) ?_; refine (sml_ok f 7 (by omega) (by omega) (by omega) (fun w1 w2 M3 a1 a2 a3 _ _ => Stop.mk ?_)))) | ((with_reducible refine isDraw [some 60, some 61, some 62, some 63, some 64, some 65, some 66, some 67, some 59, some 68, some 69, some 10, none, some 11] (by decide) ?_); refine draw_rule [(0, []), (1, []), (2, []), (3, []), (4, []), (5, [4]), (11, [4]), (6, [4]), (7, []), (8, []), (9, []), (10, []), (12, []), (13, [])] [[], [], [0, 1], [0, 1, 2], [0, 1, 2, 3], [], [5], [0, 1, 2, 3, 4, 5, 6], [0, 1, 2, 3, 4, 5, 6, 7], [0, 1, 2, 3, 4, 5, 6, 7, 8], [0, 1, 2, 3, 4, 5, 6, 7, 8], [], [0, 1, 2, 3, 4, 5, 6, 7, 8, 9, 11], [0, 1, 2, 3, 4, 5, 6, 7, 8, 9, 10, 11, 12]] [60, 61, 62, 63, 64, 65, 66, 67, 59, 68, 69, 10] [] (by kernel_rfl) (by kernel_rfl) (by kernel_rfl) (by kernel_rfl) (by exact trivial) ?_) | (refine And.intro ?_ ?_; (try simp only [sxO] at *); omega) | fail) <;> (try simp (maxSteps := 1000000) only [skSt, e1, b1, b2, hv, hRl, o1, o2, j1, j2, irC_ment, irC_kill, irC_len, hasK_nil, Nat.zero_add, bs_mk, bs_app, bs_ext, bs_size, bs_toList, bs_at, bs_cells, List.take_length, imp_ga, guard_pk, guard_pk2, ↓hold_pre, awayP, runOps, regK, step1, newK, genR, appR, obl, buildR, Value.cells, closeK, keepH, outV, retK, ret1, retC, RetV, Option.getD, runD, stepD, afterK, undef, simprocAttr, sxB, ↓sxD, sxE, sxTab]))
    have a1 : Mem.le M2 M3 := a1
    have hF3 := hF.le a1
    refine Stop.go ?_
    refine Go1.mk ?_; repeat' ((first | (with_reducible refine Go1.go ?_) | (((with_reducible refine isCall0 (f := 21) ?_); refine callA0_nil (by kernel_rfl) ?_; refine (fmul_ok hF3 ⟨a2, a3, okN_ofN _, okN_ofN _, by omega, by omega⟩ (fun v1 v2 M4 c1 c2 c3 _ _ => Stop.mk ?_)))) | ((with_reducible refine isDraw [some 60, some 61, some 62, some 63, some 64, some 65, some 66, some 67, some 59, some 68, some 69, some 10, none, some 11] (by decide) ?_); refine draw_rule [(0, []), (1, []), (2, []), (3, []), (4, []), (5, [4]), (11, [4]), (6, [4]), (7, []), (8, []), (9, []), (10, []), (12, []), (13, [])] [[], [], [0, 1], [0, 1, 2], [0, 1, 2, 3], [], [5], [0, 1, 2, 3, 4, 5, 6], [0, 1, 2, 3, 4, 5, 6, 7], [0, 1, 2, 3, 4, 5, 6, 7, 8], [0, 1, 2, 3, 4, 5, 6, 7, 8], [], [0, 1, 2, 3, 4, 5, 6, 7, 8, 9, 11], [0, 1, 2, 3, 4, 5, 6, 7, 8, 9, 10, 11, 12]] [60, 61, 62, 63, 64, 65, 66, 67, 59, 68, 69, 10] [] (by kernel_rfl) (by kernel_rfl) (by kernel_rfl) (by kernel_rfl) (by exact trivial) ?_) | (refine And.intro ?_ ?_; (try simp only [sxO] at *); omega) | fail) <;> (try simp (maxSteps := 1000000) only [hF3.n.one, hF3.d.one, a2.one, a3.one, irC_ment, irC_kill, irC_len, hasK_nil, Nat.zero_add, bs_mk, bs_app, bs_ext, bs_size, bs_toList, bs_at, bs_cells, List.take_length, imp_ga, guard_pk, guard_pk2, ↓hold_pre, awayP, runOps, regK, step1, newK, genR, appR, obl, buildR, Value.cells, closeK, keepH, outV, retK, ret1, retC, RetV, Option.getD, runD, stepD, afterK, undef, simprocAttr, sxB, ↓sxD, sxE, sxTab]))
    have c1 : Mem.le M3 M4 := c1
    rw [q1] at c2 c3
    have c2 : IsL M4 u32V v1 (ofN n) := c2
    have c3 : IsL M4 u32V v2 (ofN d) := c3
    have hset2 := hset v1 v2 n d
    have hq0 : (mulF X.l1 X.l2 (ofN (f / Nat.gcd f 7)) (ofN (7 / Nat.gcd f 7))).1 = 0 := by rw [q1]
    have hcost : X.cost = ((X.cost.toNat : Nat) : Int) := by omega
    have hit : ItOK M4 (X.setv v1 v2 n d) := by
      have := itOK_of X.pk X.ts X.cost.toNat c2 c3 q5 q3 q6 q4 (by omega) (by omega)
      rw [← hcost] at this
      exact this
    have hsc : Scaled f 7 X (X.setv v1 v2 n d) := ⟨rfl, rfl, rfl, by
      show valN (ofN n) * (valN X.l2 * 7) = valN X.l1 * f * valN (ofN d)
      rw [valN_ofN, valN_ofN]; exact q2, by show 0 < valN (ofN d); rw [valN_ofN]; exact q3⟩
    have hnew := hnx (a1.trans c1) hsc hit
    refine Stop.go ?_
    refine Go1.mk ?_; repeat' ((first | (with_reducible refine Go1.go ?_) | ((with_reducible refine isDraw [some 60, some 61, some 62, some 63, some 64, some 65, some 66, some 67, some 59, some 68, some 69, some 10, none, some 11] (by decide) ?_); refine draw_rule [(0, []), (1, []), (2, []), (3, []), (4, []), (5, [4]), (11, [4]), (6, [4]), (7, []), (8, []), (9, []), (10, []), (12, []), (13, [])] [[], [], [0, 1], [0, 1, 2], [0, 1, 2, 3], [], [5], [0, 1, 2, 3, 4, 5, 6], [0, 1, 2, 3, 4, 5, 6, 7], [0, 1, 2, 3, 4, 5, 6, 7, 8], [0, 1, 2, 3, 4, 5, 6, 7, 8], [], [0, 1, 2, 3, 4, 5, 6, 7, 8, 9, 11], [0, 1, 2, 3, 4, 5, 6, 7, 8, 9, 10, 11, 12]] [60, 61, 62, 63, 64, 65, 66, 67, 59, 68, 69, 10] [] (by kernel_rfl) (by kernel_rfl) (by kernel_rfl) (by kernel_rfl) (by exact trivial) ?_) | (refine And.intro ?_ ?_; (try simp only [sxO] at *); omega) | fail) <;> (try simp (maxSteps := 1000000) only [hq0, c2.one, c3.one, b1, b2, wi, hset2, hRl, j2, irC_ment, irC_kill, irC_len, hasK_nil, Nat.zero_add, bs_mk, bs_app, bs_ext, bs_size, bs_toList, bs_at, bs_cells, List.take_length, imp_ga, guard_pk, guard_pk2, ↓hold_pre, awayP, runOps, regK, step1, newK, genR, appR, obl, buildR, Value.cells, closeK, keepH, outV, retK, ret1, retC, RetV, Option.getD, runD, stepD, afterK, undef, simprocAttr, sxB, ↓sxD, sxE, sxTab]))
    exact ⟨L.length - (i + 1), skSt M4 L (R.set i (X.setv v1 v2 n d)) f (i + 1) L.length, by omega, le_sub ⟨rfl, rfl, rfl, rfl, trivial⟩ ⟨rfl, rfl, trivial⟩ rfl rfl rfl (keepLt_of rfl), M4, _, i + 1, rfl, by omega, hM2.trans (a1.trans c1), hnew, rfl⟩
  obtain rfl : i = L.length := by omega
  have e1 : decide ((L.length : Int) < (L.length : Int)) = false := by simp
  have hLi := hL2.all
  have hRi : ∀ x ∈ R, ItOK M2 x := fun x hx => by
    obtain ⟨j, hj, rfl⟩ := List.getElem_of_mem hx
    exact (hR.done j (by omega) hj (by omega)).2
  have okL : okIL M2 L := fun x hx => (hLi x hx).ok
  have okR : okIL M2 R := fun x hx => (hRi x hx).ok
  have cL := chkIL_of hLi (by omega)
  have cR := chkIL_of hRi (by omega)
  have hcc : ∀ x ∈ L, chkI x = true := fun x hx => (hLi x hx).chk
  have eL := ordE_of cL
  have eR := ordE_of cR
  have hl9 : L.length < 1000000 := by omega
  have hsame := fun (x y : Nat) (hx : x < L.length) (hy : y < L.length) => ratC_scaled (f := f) (g := 7) (R := R) (by omega) (by omega) hRl hcc (fun j h => (hR.done j h (by omega) h).1) hx hy
  refine Go1.mk ?_; repeat' ((first | (with_reducible refine Go1.go ?_) | ((with_reducible refine isCall (f := 11) ?_); refine callA ?_) | ((with_reducible refine isCallS (f := 11) ?_); refine (oorder_bor 55 L.length _ (L := L) rfl okL hl9 (fun v1 Z M3 a1 a2 a3 => Stop.mk ?_))) | (refine And.intro ?_ ?_; (try simp only [sxO] at *); omega) | fail) <;> (try simp (maxSteps := 1000000) only [skSt, e1, irC_ment, irC_kill, irC_len, hasK_nil, Nat.zero_add, bs_mk, bs_app, bs_ext, bs_size, bs_toList, bs_at, bs_cells, List.take_length, imp_ga, guard_pk, guard_pk2, ↓hold_pre, awayP, runOps, regK, step1, newK, genR, appR, obl, buildR, Value.cells, closeK, keepH, outV, retK, ret1, retC, RetV, Option.getD, runD, stepD, afterK, undef, simprocAttr, sxB, ↓sxD, sxE, sxTab]))
  have a1 : Mem.le M2 M3 := a1
  have okR3 := okR.le a1
  refine Stop.go ?_
  refine Go1.mk ?_; repeat' ((first | (with_reducible refine Go1.go ?_) | ((with_reducible refine isCall (f := 11) ?_); refine callA ?_) | ((with_reducible refine isCallS (f := 11) ?_); refine (oorder_bor 60 L.length _ (L := R) hRl.symm okR3 (by omega) (fun v2 W M4 c1 c2 c3 => Stop.mk ?_))) | (refine And.intro ?_ ?_; (try simp only [sxO] at *); omega) | fail) <;> (try simp (maxSteps := 1000000) only [eL, a3.one, irC_ment, irC_kill, irC_len, hasK_nil, Nat.zero_add, bs_mk, bs_app, bs_ext, bs_size, bs_toList, bs_at, bs_cells, List.take_length, imp_ga, guard_pk, guard_pk2, ↓hold_pre, awayP, runOps, regK, step1, newK, genR, appR, obl, buildR, Value.cells, closeK, keepH, outV, retK, ret1, retC, RetV, Option.getD, runD, stepD, afterK, undef, simprocAttr, sxB, ↓sxD, sxE, sxTab]))
  have c1 : Mem.le M3 M4 := c1
  obtain rfl := ordS_same hRl cL cR hsame a2 c2
  have a3 := a3.le c1
  have hZl := ordS_len cL a2
  have wl : IntKind.i64.wrap ((L.length : Int) - 1) = (L.length : Int) - 1 := wrap_id (by omega) (by omega)
  refine Stop.go ?_
  refine Go1.mk ?_; repeat' ((first | (with_reducible refine Go1.go ?_) | (refine And.intro ?_ ?_; (try simp only [sxO] at *); omega) | fail) <;> (try simp (maxSteps := 1000000) only [eL, eR, wl, a3.one, c3.one, irC_ment, irC_kill, irC_len, hasK_nil, Nat.zero_add, bs_mk, bs_app, bs_ext, bs_size, bs_toList, bs_at, bs_cells, List.take_length, imp_ga, guard_pk, guard_pk2, ↓hold_pre, awayP, runOps, regK, step1, newK, genR, appR, obl, buildR, Value.cells, closeK, keepH, outV, retK, ret1, retC, RetV, Option.getD, runD, stepD, afterK, undef, simprocAttr, sxB, ↓sxD, sxE, sxTab]))
  refine ⟨fun m z => ∃ k, m = L.length - k ∧ k ≤ L.length ∧ z = scSt M4 L (L.reverse.take k) v1 v2 ((L.length : Int) - 1 - (k : Int)) L.length,
    ⟨L.length, scSt M4 L [] v1 v2 ((L.length : Int) - 1) L.length, ?_, ⟨0, by omega, by omega, by simp⟩⟩, ?_⟩
  · refine (le_nil 16 108 46 5 rfl (.inl (by simp [awayB, mentE, mentH, mentL, AV.ment, hasK, irC_ment]))).trans (le_sub ⟨rfl, rfl, ?_, rfl, ?_, rfl, rfl, trivial⟩ ⟨by simp [lkH, scSt, irC], rfl, trivial⟩ rfl rfl rfl (keepLt_of rfl))
    · simp [lk, eR]
    · simp [lk, eL]
  clear hR hsame
  have rL : ∀ x ∈ L.reverse, ItOK M4 x := fun x hx => (hLi x (by simpa using hx)).le (a1.trans c1)
  have okZ : okIL M4 L.reverse := fun x hx => (rL x hx).ok
  have cZ := chkIL_of rL (by rw [List.length_reverse]; omega)
  have eZ := ordE_of cZ
  rintro m z ⟨k, rfl, hk, rfl⟩
  have hzl : (L.reverse.take k).length = k := by rw [List.length_take, List.length_reverse]; omega
  by_cases hlt : k < L.length
  · obtain ⟨q, hq⟩ : ∃ q, q = L.length - 1 - k := ⟨_, rfl⟩
    have hqi : (L.length : Int) - 1 - (k : Int) = (q : Int) := by omega
    have e2 : decide ((0 : Int) ≤ (q : Int)) = true := by rw [decide_eq_true_eq]; omega
    have b1 : (0 : Int) ≤ (q : Int) := by omega
    have b2 : (q : Int) < (L.length : Int) := by omega
    have hql : q < L.length := by omega
    have wq : IntKind.i64.wrap ((q : Int) - 1) = (q : Int) - 1 := wrap_id (by omega) (by omega)
    have hat := irC_at hql
    have j1 : q * 5 + 5 ≤ L.length * 5 := by omega
    have hX := hLi _ (List.getElem_mem hql)
    have o1 := hX.ok.f.n.one
    have o2 := hX.ok.f.d.one
    have happ := irC_app (L.reverse.take k) L[q]
    have htk := rev_take_succ hlt
    have hLq : L[L.length - 1 - k] = L[q] := by simp only [hq]
    rw [hLq] at htk
    rw [← htk] at happ
    have hcz : (irC (L.reverse.take k)).length = k * 5 := by rw [irC_len, hzl]
    rw [hqi]
    refine Go1.mk ?_; repeat' ((first | (with_reducible refine Go1.go ?_) | (refine And.intro ?_ ?_; (try simp only [sxO] at *); omega) | fail) <;> (try simp (maxSteps := 1000000) only [scSt, e2, b1, b2, wq, hat, j1, o1, o2, happ, hzl, hcz, irC_ment, irC_kill, irC_len, hasK_nil, Nat.zero_add, bs_mk, bs_app, bs_ext, bs_size, bs_toList, bs_at, bs_cells, List.take_length, imp_ga, guard_pk, guard_pk2, ↓hold_pre, awayP, runOps, regK, step1, newK, genR, appR, obl, buildR, Value.cells, closeK, keepH, outV, retK, ret1, retC, RetV, Option.getD, runD, stepD, afterK, undef, simprocAttr, sxB, ↓sxD, sxE, sxTab]))
    exact ⟨L.length - (k + 1), scSt M4 L (L.reverse.take (k + 1)) v1 v2 ((L.length : Int) - 1 - ((k + 1 : Nat) : Int)) L.length, by omega, le_sub ⟨by simp [lk, scSt]; omega, by
      have : (L.reverse.take (k + 1)).length = k + 1 := by rw [List.length_take, List.length_reverse]; omega
      simp [lk, scSt, this], rfl, rfl, rfl, rfl, rfl, trivial⟩ ⟨by simp [lkH, scSt], by simp [lkH, scSt, irC_kill], trivial⟩ rfl rfl rfl (by simp [keepLt, scSt, lkH]), k + 1, rfl, by omega, rfl⟩
  obtain rfl : k = L.length := by omega
  have e2 : decide ((0 : Int) ≤ (L.length : Int) - 1 - (L.length : Int)) = false := by rw [decide_eq_false_iff_not]; omega
  have hfull : L.reverse.take L.length = L.reverse := List.take_of_length_le (by rw [List.length_reverse]; omega)
  rw [hfull]
  have hrl : L.reverse.length = L.length := List.length_reverse
  refine Go1.mk ?_; repeat' ((first | (with_reducible refine Go1.go ?_) | ((with_reducible refine isCall (f := 11) ?_); refine callA ?_) | ((with_reducible refine isCallS (f := 11) ?_); refine (oorder_bor 108 L.length _ (L := L.reverse) hrl.symm okZ (by rw [hrl]; omega) (fun v3 Y M5 d1 d2 d3 => Stop.mk ?_))) | (refine And.intro ?_ ?_; (try simp only [sxO] at *); omega) | fail) <;> (try simp (maxSteps := 1000000) only [scSt, e2, hrl, irC_ment, irC_kill, irC_len, hasK_nil, Nat.zero_add, bs_mk, bs_app, bs_ext, bs_size, bs_toList, bs_at, bs_cells, List.take_length, imp_ga, guard_pk, guard_pk2, ↓hold_pre, awayP, runOps, regK, step1, newK, genR, appR, obl, buildR, Value.cells, closeK, keepH, outV, retK, ret1, retC, RetV, Option.getD, runD, stepD, afterK, undef, simprocAttr, sxB, ↓sxD, sxE, sxTab]))
  have d1 : Mem.le M4 M5 := d1
  have hne : smL M4 L := hL2.le (a1.trans c1)
  obtain rfl := ordS_rev cL cZ (hne.ne hLN) a2 d2
  have a3 := a3.le d1
  have c3 := c3.le d1
  have a5 : IsL M5 intV64 v1 (toI Z) := a3.nat
  have c5 : IsL M5 intV64 v2 (toI Z) := c3.nat
  have hlz : (toI Z).length < 1000000000 := by rw [toI_len]; omega
  have ht : decide (toI Z = toI Z) = true := decide_eq_true rfl
  have hl3 : (List.map (fun x => L.length - 1 - x) Z).length = Z.length := List.length_map _
  have d4 := d3.len
  rw [hl3] at d4
  refine Stop.go ?_
  refine Go1.mk ?_; repeat' ((first | (with_reducible refine Go1.go ?_) | (((with_reducible refine isCall (f := 23) ?_); refine callA_nil (by kernel_rfl) ?_; refine (sameInts_ok v1 v2 (toI Z) (toI Z) a5 c5 hlz hlz (Stop.mk ?_)))) | (refine And.intro ?_ ?_; (try simp only [sxO] at *); omega) | fail) <;> (try simp (maxSteps := 1000000) only [eZ, a3.one, c3.one, d3.one, a3.len, a3.sl, d4, d3.sl, irC_ment, irC_kill, irC_len, hasK_nil, Nat.zero_add, bs_mk, bs_app, bs_ext, bs_size, bs_toList, bs_at, bs_cells, List.take_length, imp_ga, guard_pk, guard_pk2, ↓hold_pre, awayP, runOps, regK, step1, newK, genR, appR, obl, buildR, Value.cells, closeK, keepH, outV, retK, ret1, retC, RetV, Option.getD, runD, stepD, afterK, undef, simprocAttr, sxB, ↓sxD, sxE, sxTab]))
  refine Stop.go ?_
  refine Go1.mk ?_; repeat' ((first | (with_reducible refine Go1.go ?_) | (refine And.intro ?_ ?_; (try simp only [sxO] at *); omega) | fail) <;> (try simp (maxSteps := 1000000) only [eZ, a3.one, c3.one, d3.one, a3.len, a3.sl, d4, d3.sl, irC_ment, irC_kill, irC_len, hasK_nil, Nat.zero_add, bs_mk, bs_app, bs_ext, bs_size, bs_toList, bs_at, bs_cells, List.take_length, imp_ga, guard_pk, guard_pk2, ↓hold_pre, awayP, runOps, regK, step1, newK, genR, appR, obl, buildR, Value.cells, closeK, keepH, outV, retK, ret1, retC, RetV, Option.getD, runD, stepD, afterK, undef, simprocAttr, sxB, ↓sxD, sxE, sxTab]))
  refine ⟨fun m z => ∃ i, m = Z.length - i ∧ i ≤ Z.length ∧ z = sdSt M5 L v1 v3 i L.length,
    ⟨Z.length, sdSt M5 L v1 v3 0 L.length, le_sub ⟨rfl, rfl, rfl, rfl, trivial⟩ ⟨rfl, trivial⟩ rfl rfl rfl (keepLt_of rfl), ⟨0, by omega, by omega, rfl⟩⟩, ?_⟩
  rintro m z ⟨i, rfl, hi, rfl⟩
  by_cases hlt : i < Z.length
  · have e3 : decide ((i : Int) < (Z.length : Int)) = true := by rw [decide_eq_true_eq]; omega
    have b1 : (0 : Int) ≤ (i : Int) := by omega
    have b2 : (i : Int) < (Z.length : Int) := by omega
    have wi : IntKind.i64.wrap ((i : Int) + 1) = ((i + 1 : Nat) : Int) := succ_i (by omega)
    have n1 := a3.nn hlt
    have h1 := a3.at (P := Try.prog) (T := 3) tk3 tz3 hlt
    have hlt3 : i < (List.map (fun x => L.length - 1 - x) Z).length := by rw [hl3]; exact hlt
    have n3 := d3.nn hlt3
    have h3 := d3.at (P := Try.prog) (T := 3) tk3 tz3 hlt3
    rw [List.getElem_map] at h3
    have hzi : Z[i] < L.length := by
      have := a2
      unfold ordS at this
      rw [if_pos cL] at this
      exact List.mem_range.1 (this.1.subset (List.getElem_mem hlt))
    have h1 : lookM Try.prog 3 M5 (elemP v1 1 i) = some (.int .i64 (Z[i] : Int)) := h1
    have h3 : lookM Try.prog 3 M5 (elemP v3 1 i) = some (.int .i64 ((L.length - 1 - Z[i] : Nat) : Int)) := h3
    generalize Z[i] = y at *
    have wz : IntKind.i64.wrap ((L.length : Int) - 1 - ((L.length - 1 - y : Nat) : Int)) = (y : Int) := by rw [wrap_id (by omega) (by omega)]; omega
    refine Go1.mk ?_; repeat' ((first | (with_reducible refine Go1.go ?_) | ((with_reducible refine isDraw [some 135, some 136, some 137, some 138, some 139, some 140, some 141, some 142, some 143, some 144, some 145, some 146, some 147] (by decide) ?_); refine draw_rule [(0, []), (1, []), (2, []), (3, []), (4, [3]), (5, [3]), (6, [3]), (7, [3]), (8, [3]), (9, [3]), (10, [3]), (11, [3]), (12, [])] [[], [], [0, 1], [0, 1, 2], [], [4], [4, 5], [], [], [7, 8], [7, 8, 9], [4, 5, 6, 7, 8, 9, 10], [0, 1, 2, 3, 4, 5, 6, 7, 8, 9, 10, 11]] [135, 136, 137, 138, 139, 140, 141, 142, 143, 144, 145, 146] [] (by kernel_rfl) (by kernel_rfl) (by kernel_rfl) (by kernel_rfl) (by exact trivial) ?_) | (refine And.intro ?_ ?_; (try simp only [sxO] at *); omega) | fail) <;> (try simp (maxSteps := 1000000) only [sdSt, e3, b1, b2, wi, wl, wz, n1, n3, h1, h3, a3.one, a3.len, a3.sl, d3.one, d4, d3.sl, irC_ment, irC_kill, irC_len, hasK_nil, Nat.zero_add, bs_mk, bs_app, bs_ext, bs_size, bs_toList, bs_at, bs_cells, List.take_length, imp_ga, guard_pk, guard_pk2, ↓hold_pre, awayP, runOps, regK, step1, newK, genR, appR, obl, buildR, Value.cells, closeK, keepH, outV, retK, ret1, retC, RetV, Option.getD, runD, stepD, afterK, undef, simprocAttr, sxB, ↓sxD, sxE, sxTab]))
    exact ⟨Z.length - (i + 1), sdSt M5 L v1 v3 (i + 1) L.length, by omega, le_sub ⟨rfl, rfl, rfl, rfl, trivial⟩ ⟨rfl, trivial⟩ rfl rfl rfl (keepLt_of rfl), i + 1, rfl, by omega, rfl⟩
  obtain rfl : i = Z.length := by omega
  have e3 : decide ((Z.length : Int) < (Z.length : Int)) = false := by simp
  refine Go1.mk ?_; repeat' ((first | (with_reducible refine Go1.go ?_) | (((with_reducible refine isCall (f := 15) ?_); refine callA_nil (by kernel_rfl) ?_; refine (known29_ok (fun M6 f1 => Stop.mk ?_)))) | (refine And.intro ?_ ?_; (try simp only [sxO] at *); omega) | fail) <;> (try simp (maxSteps := 1000000) only [sdSt, e3, a3.one, a3.len, a3.sl, irC_ment, irC_kill, irC_len, hasK_nil, Nat.zero_add, bs_mk, bs_app, bs_ext, bs_size, bs_toList, bs_at, bs_cells, List.take_length, imp_ga, guard_pk, guard_pk2, ↓hold_pre, awayP, runOps, regK, step1, newK, genR, appR, obl, buildR, Value.cells, closeK, keepH, outV, retK, ret1, retC, RetV, Option.getD, runD, stepD, afterK, undef, simprocAttr, sxB, ↓sxD, sxE, sxTab]))
  have hk := hK M6 (hM.trans (hM2.trans (a1.trans (c1.trans (d1.trans f1)))))
  refine Stop.go ?_
  refine Go1.mk ?_; repeat' ((first | (with_reducible refine Go1.go ?_) | (refine And.intro ?_ ?_; (try simp only [sxO] at *); omega) | fail) <;> (try simp (maxSteps := 1000000) only [irC_ment, irC_kill, irC_len, hasK_nil, Nat.zero_add, bs_mk, bs_app, bs_ext, bs_size, bs_toList, bs_at, bs_cells, List.take_length, imp_ga, guard_pk, guard_pk2, ↓hold_pre, awayP, runOps, regK, step1, newK, genR, appR, obl, buildR, Value.cells, closeK, keepH, outV, retK, ret1, retC, RetV, Option.getD, runD, stepD, afterK, undef, simprocAttr, sxB, ↓sxD, sxE, sxTab]))
  exact hk
end
end Go.Proofs.Ytjapnklocibgaaa.Sx
