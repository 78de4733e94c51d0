/- Part 26 of the texts of this claim: a symbolic executor and contracts of functions. -/
import Derived.Test.YtgkfmlgfmcpebaaSLeRP2
namespace Go.Proofs.Ytgkfmlgfmcpebaa.Sx
open Go Go.RowKit
set_option linter.unusedVariables false
set_option linter.unusedSimpArgs false
set_option maxRecDepth 100000
set_option maxHeartbeats 8000000
attribute [local congr] fin_congr finG_congr stepG_congr step1_congr runOps_congr brv_congr obl_congr condK_congr LoopK_congr seqK_congr CutK_congr vc_congr DrawK_congr regK_congr CallK_congr AskK_congr newK_congr retC_congr ret1_congr retK_congr outV_congr closeK_congr genR_congr appR_congr finD_congr finGD_congr stepGD_congr stepD_congr CallK0_congr runD_congr okR_congr CallS_congr vcX_congr
attribute [local congr] Stop_congr
theorem CallS.eqv {P : Program} {f : FuncId} {args : List AV} {H H2 : Hp} {M : Mem} {mv : List Nat} {K : AV → Hp → Mem → Prop} (he : ∀ k, lkH H k = lkH H2 k) (h : CallS P f args H2 M mv K) : CallS P f args H M mv K := fun ρ w us hh ha => by
  refine (h ρ w us ⟨fun k T cs b hk hb => hh.hp k T cs b (by rw [he]; exact hk) hb, fun k T cs hk hb => hh.no k T cs (by rw [he]; exact hk) hb, fun k k' b b' hk hk' => hh.inj k k' b b' (by rw [he]; exact hk) (by rw [he]; exact hk'), hh.sub⟩ ha).mono fun e w' hall => ?_
  obtain ⟨x, v, H', M', ρ', e1, hK, hl⟩ := hall
  exact ⟨x, v, H', M', ρ', e1, hK, { is := hl.is, heap := hl.heap, keep := fun k hk => hl.keep k (by rw [← he]; exact hk), same := fun k hk hm => hl.same k (by rw [← he]; exact hk) hm, ment := hl.ment, fresh := fun k b hk hb => (by
    rcases hl.fresh k b hk hb with h1 | ⟨j, x, h1, h2, h3⟩
    · exact .inl h1
    · exact .inr ⟨j, x, by rw [he]; exact h1, h2, h3⟩), os := hl.os, tape := hl.tape, output := hl.output, size := hl.size, block := fun b hb hk => hl.block b hb fun k x h1 h2 => hk k x (by rw [he]; exact h1) h2, le := hl.le, mem := hl.mem }⟩
section
variable {M : Mem} {K : AV → Hp → Mem → Prop} {u v : Value} {T : List TK}
theorem plc_bestN (hc : chkTL T = true) (h10 : T.length ≤ 10) {m : Nat} (hm : 1 ≤ m) {Z : List Nat} (hZ : lonZ T Z) : plc (cosN T) m (bndT T m) Z (List.replicate m 0) 10485761 = bestN T m := by
  obtain ⟨_, hTc⟩ := chkTL_parts hc
  refine best_same (by omega) hZ.1 List.nodup_range (fun i hi => ?_) ?_
  · have := hTc i (List.mem_range.1 hi)
    unfold cosN; omega
  · have := sT_le hTc T.length (Nat.le_refl _)
    have e : ((List.range T.length).map (cosN T)).sum = sT T T.length := rfl
    omega
theorem Best_ok (hu : IsR M 4 TK.c u T) (hb : T.length < 1000000) (n : Int) (hK : ∀ M', Mem.le M M' → K (.ext (.tuple #[.int .i64 (bestQ T n).1, .int .i64 (bestQ T n).2])) [] M') : CallS Try.prog 21 [.ext u, .ext (.int .i64 n)] [] M [] K := by
  refine inlS (cs := []) Try.mixed Try.func21 rfl (by kernel_rfl) 0 rfl rfl ?_
  simp only [Try.f21]
  have hce : u.cells = #[u] := cells_sl hu.sl
  unfold Value.cells at hce
  by_cases he : errT T n = 0
  case neg =>
    have d1 : decide (errT T n = 0) = false := decide_eq_false he
    rw [bestQ_err he] at hK
    (replace hb0 := true_and True); refine Go1.mk ?_; repeat' ((first | (with_reducible refine Go1.go ?_) | ((with_reducible first | refine brv_mk ?_ ?_ | refine gsplitD ?_ ?_ | refine gsplitG ?_ ?_) <;> intro h <;> (try simp only [Bool.not_eq_true', Bool.not_eq_false'] at h) <;> replace hb0 := h) | (((with_reducible refine isCall (f := 34) ?_); refine callA_nil (by kernel_rfl) ?_; refine (tcheck_ok hu hb n ?_))) | (refine And.intro ?_ ?_; (try simp only [sxO] at *); omega) | fail) <;> (try simp (maxSteps := 1000000) only [hb0, hu.one, hce, d1, hasK_nil, ↓hold_pre, awayP, runOps, regK, step1, newK, genR, appR, obl, buildR, Value.cells, closeK, keepH, outV, retK, ret1, retC, RetV, Option.getD, runD, stepD, afterK, undef, simprocAttr, sxB, ↓sxD, sxE, sxTab]))
    exact hK _ (Mem.le.refl _)
  obtain ⟨hc, h1, h8⟩ := errT_0 he
  obtain ⟨m, rfl⟩ := Int.eq_ofNat_of_zero_le (show 0 ≤ n by omega)
  by_cases h10 : T.length ≤ 10
  case neg =>
    have d1 : decide ((10 : Int) < (T.length : Int)) = true := by rw [decide_eq_true_eq]; omega
    rw [bestQ_many he h10] at hK
    (replace hb0 := true_and True); refine Go1.mk ?_; repeat' ((first | (with_reducible refine Go1.go ?_) | ((with_reducible first | refine brv_mk ?_ ?_ | refine gsplitD ?_ ?_ | refine gsplitG ?_ ?_) <;> intro h <;> (try simp only [Bool.not_eq_true', Bool.not_eq_false'] at h) <;> replace hb0 := h) | (((with_reducible refine isCall (f := 34) ?_); refine callA_nil (by kernel_rfl) ?_; refine (tcheck_ok hu hb _ ?_))) | (refine And.intro ?_ ?_; (try simp only [sxO] at *); omega) | fail) <;> (try simp (maxSteps := 1000000) only [hb0, hu.one, hce, hu.len, hu.sl, he, d1, hasK_nil, ↓hold_pre, awayP, runOps, regK, step1, newK, genR, appR, obl, buildR, Value.cells, closeK, keepH, outV, retK, ret1, retC, RetV, Option.getD, runD, stepD, afterK, undef, simprocAttr, sxB, ↓sxD, sxE, sxTab]))
    exact hK _ (Mem.le.refl _)
  have d1 : decide ((10 : Int) < (T.length : Int)) = false := by rw [decide_eq_false_iff_not]; omega
  rw [bestQ_ok he h10] at hK
  have hm8 : m ≤ 8 := by omega
  have hm1 : 1 ≤ m := by omega
  (replace hb0 := true_and True); refine Go1.mk ?_; repeat' ((first | (with_reducible refine Go1.go ?_) | ((with_reducible first | refine brv_mk ?_ ?_ | refine gsplitD ?_ ?_ | refine gsplitG ?_ ?_) <;> intro h <;> (try simp only [Bool.not_eq_true', Bool.not_eq_false'] at h) <;> replace hb0 := h) | (((with_reducible refine isCall (f := 34) ?_); refine callA_nil (by kernel_rfl) ?_; refine (tcheck_ok hu hb _ ?_))) | ((first | ((with_reducible refine isCall (f := 39) ?_); refine callA_nil (by kernel_rfl) ?_) | ((with_reducible refine isCall0 (f := 39) ?_); refine callA0_nil (by kernel_rfl) ?_)); refine (lon_ok hu hb (fun v Z M1 m1 z1 z2 z3 => Stop.mk ?_))) | ((with_reducible refine isDraw [some 21, some 22, some 23, some 24, some 25, some 8, some 9, some 10, none, none, none] (by decide) ?_); refine draw_rule [(0, []), (2, [0]), (3, [0, 2]), (5, [0, 2, 3]), (6, [0, 2, 3]), (7, [0, 2, 3]), (1, [2, 3]), (4, []), (8, []), (9, []), (10, [])] [[], [0], [], [], [0, 1, 2, 3], [], [], [], [0, 1, 2, 3, 4, 5, 6, 7], [0, 1, 2, 3, 4, 5, 6, 7, 8], [0, 1, 2, 3, 4, 5, 6, 7, 8, 9]] [21, 22, 23, 24, 25, 8, 9, 10] [] (by kernel_rfl) (by kernel_rfl) (by kernel_rfl) (by kernel_rfl) (by exact trivial) ?_) | (refine And.intro ?_ ?_; (try simp only [sxO] at *); omega) | fail) <;> (try simp (maxSteps := 1000000) only [hb0, hu.one, hce, hu.len, hu.sl, he, d1, hasK_nil, mentL_ext, List.nil_append, ↓hold_pre, awayP, runOps, regK, step1, newK, genR, appR, obl, buildR, Value.cells, closeK, keepH, outV, retK, ret1, retC, RetV, Option.getD, runD, stepD, afterK, undef, simprocAttr, sxB, ↓sxD, sxE, sxTab]))
  have m1 : Mem.le M M1 := m1
  have z1 : lonZ T Z := z1
  have z2 : IsL M1 natV v Z := z2
  have hu1 := hu.le m1
  clear z3
  refine Stop.go ?_
  have hplc := plc_bestN hc h10 hm1 z1
  have hZl : Z.length = T.length := by rw [z1.1.length_eq, List.length_range]
  have e8 := (end8_zero hm8).symm
  (replace hb0 := true_and True); refine Go1.mk ?_; repeat' ((first | (with_reducible refine Go1.go ?_) | ((with_reducible first | refine brv_mk ?_ ?_ | refine gsplitD ?_ ?_ | refine gsplitG ?_ ?_) <;> intro h <;> (try simp only [Bool.not_eq_true', Bool.not_eq_false'] at h) <;> replace hb0 := h) | ((first | ((with_reducible refine isCall (f := 40) ?_); refine callA_nil (by kernel_rfl) ?_) | ((with_reducible refine isCall0 (f := 40) ?_); refine callA0_nil (by kernel_rfl) ?_)); refine (bound_ok hu1 hc hm1 hm8 ?_)) | ((with_reducible refine isCall (f := 41) ?_); refine callA ?_) | ((with_reducible refine isCallS (f := 41) ?_); refine (CallS.eqv (H2 := plH u v m (bndT T m) (List.replicate m 0) 10485761) (fun k => ?_) (place_ok hu1 hc hm1 hm8 z2 (lonZ_in z1) hZl Z.length 0 (List.replicate m 0) 10485761 _ (by omega) List.length_replicate (fun x hx => by rw [(List.mem_replicate.1 hx).2]; omega) (Stop.mk ?_)))) | ((with_reducible refine isDraw [some 21, some 22, some 23, some 24, some 25, some 8, some 9, some 10, none, none, none] (by decide) ?_); refine draw_rule [(0, []), (2, [0]), (3, [0, 2]), (5, [0, 2, 3]), (6, [0, 2, 3]), (7, [0, 2, 3]), (1, [2, 3]), (4, []), (8, []), (9, []), (10, [])] [[], [0], [], [], [0, 1, 2, 3], [], [], [], [0, 1, 2, 3, 4, 5, 6, 7], [0, 1, 2, 3, 4, 5, 6, 7, 8], [0, 1, 2, 3, 4, 5, 6, 7, 8, 9]] [21, 22, 23, 24, 25, 8, 9, 10] [] (by kernel_rfl) (by kernel_rfl) (by kernel_rfl) (by kernel_rfl) (by exact trivial) ?_) | (refine And.intro ?_ ?_; (try simp only [sxO] at *); omega) | fail) <;> (try simp (maxSteps := 1000000) only [hb0, hu1.one, z2.one, hce, hasK_nil, mentL_ext, List.nil_append, ↓hold_pre, awayP, runOps, regK, step1, newK, genR, appR, obl, buildR, Value.cells, closeK, keepH, outV, retK, ret1, retC, RetV, Option.getD, runD, stepD, afterK, undef, simprocAttr, sxB, ↓sxD, sxE, sxTab]))
  · unfold plH
    rw [end8_zero hm8]
    simp only [lkH]
    by_cases k7 : 7 = k
    · subst k7; simp
    · simp only [if_neg k7]; rfl
  · rw [hplc]
    refine Stop.go ?_
    (replace hb0 := true_and True); refine Go1.mk ?_; repeat' ((first | (with_reducible refine Go1.go ?_) | ((with_reducible first | refine brv_mk ?_ ?_ | refine gsplitD ?_ ?_ | refine gsplitG ?_ ?_) <;> intro h <;> (try simp only [Bool.not_eq_true', Bool.not_eq_false'] at h) <;> replace hb0 := h) | ((with_reducible refine isDraw [some 21, some 22, some 23, some 24, some 25, some 8, some 9, some 10, none, none, none] (by decide) ?_); refine draw_rule [(0, []), (2, [0]), (3, [0, 2]), (5, [0, 2, 3]), (6, [0, 2, 3]), (7, [0, 2, 3]), (1, [2, 3]), (4, []), (8, []), (9, []), (10, [])] [[], [0], [], [], [0, 1, 2, 3], [], [], [], [0, 1, 2, 3, 4, 5, 6, 7], [0, 1, 2, 3, 4, 5, 6, 7, 8], [0, 1, 2, 3, 4, 5, 6, 7, 8, 9]] [21, 22, 23, 24, 25, 8, 9, 10] [] (by kernel_rfl) (by kernel_rfl) (by kernel_rfl) (by kernel_rfl) (by exact trivial) ?_) | (refine And.intro ?_ ?_; (try simp only [sxO] at *); omega) | fail) <;> (try simp (maxSteps := 1000000) only [hb0, plH, hu1.one, z2.one, end8_ment, hasK_nil, mentL_ext, List.nil_append, ↓hold_pre, awayP, runOps, regK, step1, newK, genR, appR, obl, buildR, Value.cells, closeK, keepH, outV, retK, ret1, retC, RetV, Option.getD, runD, stepD, afterK, undef, simprocAttr, sxB, ↓sxD, sxE, sxTab]))
    exact hK M1 m1
end
end Go.Proofs.Ytgkfmlgfmcpebaa.Sx
namespace Go.Proofs.Ytgkfmlgfmcpebaa.Sx
open Go Go.RowKit
set_option linter.unusedVariables false
set_option linter.unusedSimpArgs false
set_option maxRecDepth 100000
set_option maxHeartbeats 8000000
attribute [local congr] fin_congr finG_congr stepG_congr step1_congr runOps_congr brv_congr obl_congr condK_congr LoopK_congr seqK_congr CutK_congr vc_congr DrawK_congr regK_congr CallK_congr AskK_congr newK_congr retC_congr ret1_congr retK_congr outV_congr closeK_congr genR_congr appR_congr finD_congr finGD_congr stepGD_congr stepD_congr CallK0_congr runD_congr okR_congr CallS_congr vcX_congr
attribute [local congr] Stop_congr
def tkC (L : List TK) : List AV := (L.flatMap TK.c).map .ext
theorem tkC_len (L : List TK) : (tkC L).length = L.length * 4 := by
  unfold tkC
  rw [List.length_map, flat_len (z := 4) (fun _ => rfl)]
theorem tkC_ment (L : List TK) : mentL (tkC L) = [] := mentL_ext _
theorem tkC_kill (k : Nat) (L : List TK) : killL k (tkC L) = tkC L := killL_exts _ _
theorem tkC_app (L : List TK) (x : TK) : tkC L ++ [.ext (.string (bs x.pk)), .ext (.string (bs x.ts)), .ext (.int .i64 x.env), .ext (.int .i64 x.cost)] = tkC (L ++ [x]) := by simp [tkC, TK.c]
def mkX (cs : List Int) (i : Nat) : TK := ⟨[112], [116], ((i % 3 : Nat) : Int), cs.getD i 0⟩
def mkP (cs : List Int) (i : Nat) : List TK := (List.range i).map (mkX cs)
def mkT (cs : List Int) : List TK := mkP cs cs.length
theorem mkP_len (cs : List Int) (i : Nat) : (mkP cs i).length = i := by simp [mkP]
theorem mkP_succ (cs : List Int) (i : Nat) : mkP cs (i + 1) = mkP cs i ++ [mkX cs i] := by simp [mkP, List.range_succ]
section
variable {M : Mem} {K : AV → Hp → Mem → Prop} {w : Value} {cs : List Int}
def tsSt (M : Mem) (w : Value) (cs : List Int) (i : Nat) : St := { env := [(4, .ext (.int .i64 (i : Int))), (3, .slo 221 0 i 4), (0, .ext w)], hp := [(221, 49, tkC (mkP cs i))], M := M, kb := 200, fx := [] }
theorem tasks_ok (hw : IsL M intV64 w cs) (hb : cs.length < 1000000) (hK : K (.slo 221 0 cs.length 4) [(221, 49, tkC (mkT cs))] M) : CallS Try.prog 23 [.ext w] [] M [] K := by
  refine inlS (cs := []) Try.mixed Try.func23 rfl (by kernel_rfl) 200 rfl rfl ?_
  simp only [Try.f23]
  (replace hb0 := true_and True); refine Go1.mk ?_; repeat' ((first | (with_reducible refine Go1.go ?_) | ((with_reducible first | refine brv_mk ?_ ?_ | refine gsplitD ?_ ?_ | refine gsplitG ?_ ?_) <;> intro h <;> (try simp only [Bool.not_eq_true', Bool.not_eq_false'] at h) <;> replace hb0 := h) | (refine And.intro ?_ ?_; (try simp only [sxO] at *); omega) | fail) <;> (try simp (maxSteps := 1000000) only [hb0, hw.one, ↓hold_pre, awayP, runOps, regK, step1, newK, genR, appR, obl, buildR, Value.cells, closeK, keepH, outV, retK, ret1, retC, RetV, Option.getD, runD, stepD, afterK, undef, simprocAttr, sxB, ↓sxD, sxE, sxTab]))
  refine ⟨fun d z => ∃ i, i ≤ cs.length ∧ d = cs.length - i ∧ z = tsSt M w cs i, ⟨cs.length, tsSt M w cs 0, (le_nil 3 221 49 4 rfl (.inl (by simp [awayB, mentE, mentH, mentL, AV.ment, hasK]))).trans (le_sub ⟨rfl, rfl, rfl, trivial⟩ ⟨by simp [lkH, tsSt, tkC, mkP], trivial⟩ rfl rfl rfl (by simp [keepLt, tsSt, lkH])), ⟨0, by omega, by omega, rfl⟩⟩, ?_⟩
  rintro d z ⟨i, hi, rfl, rfl⟩
  by_cases hlt : i < cs.length
  case neg =>
    obtain rfl : i = cs.length := by omega
    have f1 := hw.fin hlt
    (replace hb0 := true_and True); refine Go1.mk ?_; repeat' ((first | (with_reducible refine Go1.go ?_) | ((with_reducible first | refine brv_mk ?_ ?_ | refine gsplitD ?_ ?_ | refine gsplitG ?_ ?_) <;> intro h <;> (try simp only [Bool.not_eq_true', Bool.not_eq_false'] at h) <;> replace hb0 := h) | (refine And.intro ?_ ?_; (try simp only [sxO] at *); omega) | fail) <;> (try simp (maxSteps := 1000000) only [hb0, tsSt, f1, tkC_ment, tkC_kill, hasK_nil, ↓hold_pre, awayP, runOps, regK, step1, newK, genR, appR, obl, buildR, Value.cells, closeK, keepH, outV, retK, ret1, retC, RetV, Option.getD, runD, stepD, afterK, undef, simprocAttr, sxB, ↓sxD, sxE, sxTab]))
    exact hK
  have f1 := hw.idx (P := Try.prog) (T := 3) tk3 tz3 (by omega) hlt
  have hle := tkC_len (mkP cs i)
  rw [mkP_len] at hle
  have hap := tkC_app (mkP cs i) (mkX cs i)
  rw [← mkP_succ] at hap
  have hget : cs[i] = cs.getD i 0 := by rw [List.getD_eq_getElem?_getD, List.getElem?_eq_getElem hlt]; rfl
  rw [hget] at f1
  have hap : tkC (mkP cs i) ++ [.ext (.string (bs [112])), .ext (.string (bs [116])), .ext (.int .i64 ((i % 3 : Nat) : Int)), .ext (.int .i64 (cs.getD i 0))] = tkC (mkP cs (i + 1)) := hap
  have hmod : ((i : Int)).tmod 3 = ((i % 3 : Nat) : Int) := rfl
  (replace hb0 := true_and True); refine Go1.mk ?_; repeat' ((first | (with_reducible refine Go1.go ?_) | ((with_reducible first | refine brv_mk ?_ ?_ | refine gsplitD ?_ ?_ | refine gsplitG ?_ ?_) <;> intro h <;> (try simp only [Bool.not_eq_true', Bool.not_eq_false'] at h) <;> replace hb0 := h) | (refine And.intro ?_ ?_; (try simp only [sxO] at *); omega) | fail) <;> (try simp (maxSteps := 1000000) only [hb0, tsSt, f1, intV64, hmod, hle, hap, tkC_ment, tkC_kill, hasK_nil, bs_mk, bs_app, bs_ext, bs_size, bs_toList, bs_at, bs_cells, List.take_length, imp_ga, guard_pk, guard_pk2, ↓hold_pre, awayP, runOps, regK, step1, newK, genR, appR, obl, buildR, Value.cells, closeK, keepH, outV, retK, ret1, retC, RetV, Option.getD, runD, stepD, afterK, undef, simprocAttr, sxB, ↓sxD, sxE, sxTab]))
  exact ⟨cs.length - (i + 1), tsSt M w cs (i + 1), by omega, le_sub ⟨rfl, rfl, rfl, trivial⟩ ⟨by simp [lkH, tsSt], trivial⟩ rfl rfl rfl (by simp [keepLt, tsSt, lkH]), i + 1, by omega, rfl, rfl⟩
theorem tasksF_ok (hw : IsL M intV64 w cs) (hb : cs.length < 1000000) (hK : ∀ U M', Mem.le M M' → IsR M' 4 TK.c U (mkT cs) → FreshS M U → K (.ext U) [] M') : CallS Try.prog 23 [.ext w] [] M [] K := by
  refine CallS.frzF (tasks_ok hw hb ?_)
  have hl : (mkT cs).length = cs.length := mkP_len cs cs.length
  refine FrzF.one ((mkT cs).flatMap TK.c) rfl (by rw [flat_len (z := 4) (fun _ => rfl), hl]) fun U M' h1 h2 h3 => hK U M' h1 ?_ h3
  unfold IsR
  rw [hl]; exact h2
theorem tasksB_ok {k n : Nat} {Ty : TypeId} (hn : n = cs.length) (hb : cs.length < 1000000) (hK : ∀ U M', Mem.le M M' → IsR M' 4 TK.c U (mkT cs) → K (.ext U) [(k, Ty, cE intV64 cs)] M') : CallS Try.prog 23 [.slo k 0 n 1] [(k, Ty, cE intV64 cs)] M [] K := by
  refine CallS.bor ⟨⟨_, rfl⟩, trivial⟩ fun us M' hM hb' => ?_
  obtain ⟨x, _, rfl, h1, rfl⟩ := hb'
  refine tasksF_ok (h1.isL (L := cs) (T := Ty) (by simp [lkH]) hn) hb fun U M2 a1 a2 a3 => ?_
  exact ⟨fun j hj => rfl, fun M3 h5 h6 _ => hK U M3 h5 (SlM.move a2 a3 h6)⟩
def grI (l : List Int) : Int := l.foldl (fun n x => if n < x then x else n) 0
def grSt (M : Mem) (w : Value) (l : List Int) (i : Nat) : St := { env := [(4, .ext (.int .i64 (i : Int))), (3, .ext (.int .i64 (grI (l.take i)))), (0, .ext w)], hp := [], M := M, kb := 0, fx := [] }
theorem greatest_ok {l : List Int} (hw : IsL M intV64 w l) (hb : l.length < 1000000) (hK : K (.ext (.int .i64 (grI l))) [] M) : CallS Try.prog 25 [.ext w] [] M [] K := by
  refine inlS (cs := []) Try.mixed Try.func25 rfl (by kernel_rfl) 0 rfl rfl ?_
  simp only [Try.f25]
  (replace hb0 := true_and True); refine Go1.mk ?_; repeat' ((first | (with_reducible refine Go1.go ?_) | ((with_reducible first | refine brv_mk ?_ ?_ | refine gsplitD ?_ ?_ | refine gsplitG ?_ ?_) <;> intro h <;> (try simp only [Bool.not_eq_true', Bool.not_eq_false'] at h) <;> replace hb0 := h) | (refine And.intro ?_ ?_; (try simp only [sxO] at *); omega) | fail) <;> (try simp (maxSteps := 1000000) only [hb0, hw.one, ↓hold_pre, awayP, runOps, regK, step1, newK, genR, appR, obl, buildR, Value.cells, closeK, keepH, outV, retK, ret1, retC, RetV, Option.getD, runD, stepD, afterK, undef, simprocAttr, sxB, ↓sxD, sxE, sxTab]))
  refine ⟨fun d z => ∃ i, i ≤ l.length ∧ d = l.length - i ∧ z = grSt M w l i, ⟨l.length, grSt M w l 0, le_sub ⟨rfl, rfl, rfl, trivial⟩ trivial rfl rfl rfl (keepLt0 _), ⟨0, by omega, by omega, rfl⟩⟩, ?_⟩
  rintro d z ⟨i, hi, rfl, rfl⟩
  by_cases hlt : i < l.length
  case neg =>
    obtain rfl : i = l.length := by omega
    have f1 := hw.fin hlt
    have ht : l.take l.length = l := List.take_length
    (replace hb0 := true_and True); refine Go1.mk ?_; repeat' ((first | (with_reducible refine Go1.go ?_) | ((with_reducible first | refine brv_mk ?_ ?_ | refine gsplitD ?_ ?_ | refine gsplitG ?_ ?_) <;> intro h <;> (try simp only [Bool.not_eq_true', Bool.not_eq_false'] at h) <;> replace hb0 := h) | (refine And.intro ?_ ?_; (try simp only [sxO] at *); omega) | fail) <;> (try simp (maxSteps := 1000000) only [hb0, grSt, f1, ht, ↓hold_pre, awayP, runOps, regK, step1, newK, genR, appR, obl, buildR, Value.cells, closeK, keepH, outV, retK, ret1, retC, RetV, Option.getD, runD, stepD, afterK, undef, simprocAttr, sxB, ↓sxD, sxE, sxTab]))
    exact hK
  have f1 := hw.idx (P := Try.prog) (T := 3) tk3 tz3 (by omega) hlt
  have hx : (if grI (l.take i) < l[i] then l[i] else grI (l.take i)) = grI (l.take (i + 1)) := by
    unfold grI
    rw [List.take_add_one, List.getElem?_eq_getElem hlt]
    simp only [Option.toList_some, List.foldl_append, List.foldl_cons, List.foldl_nil]
  (replace hb0 := true_and True); refine Go1.mk ?_; repeat' ((first | (with_reducible refine Go1.go ?_) | ((with_reducible first | refine brv_mk ?_ ?_ | refine gsplitD ?_ ?_ | refine gsplitG ?_ ?_) <;> intro h <;> (try simp only [Bool.not_eq_true', Bool.not_eq_false'] at h) <;> replace hb0 := h) | (refine And.intro ?_ ?_; (try simp only [sxO] at *); omega) | fail) <;> (try simp (maxSteps := 1000000) only [hb0, grSt, f1, intV64, hx, ↓hold_pre, awayP, runOps, regK, step1, newK, genR, appR, obl, buildR, Value.cells, closeK, keepH, outV, retK, ret1, retC, RetV, Option.getD, runD, stepD, afterK, undef, simprocAttr, sxB, ↓sxD, sxE, sxTab]))
  exact ⟨l.length - (i + 1), grSt M w l (i + 1), by omega, le_sub ⟨rfl, rfl, rfl, trivial⟩ trivial rfl rfl rfl (keepLt0 _), i + 1, by omega, rfl, rfl⟩
end
end Go.Proofs.Ytgkfmlgfmcpebaa.Sx
namespace Go.Proofs.Ytgkfmlgfmcpebaa.Sx
open Go Go.RowKit
set_option linter.unusedVariables false
set_option linter.unusedSimpArgs false
set_option maxRecDepth 100000
set_option maxHeartbeats 8000000
attribute [local congr] fin_congr finG_congr stepG_congr step1_congr runOps_congr brv_congr obl_congr condK_congr LoopK_congr seqK_congr CutK_congr vc_congr DrawK_congr regK_congr CallK_congr AskK_congr newK_congr retC_congr ret1_congr retK_congr outV_congr closeK_congr genR_congr appR_congr finD_congr finGD_congr stepGD_congr stepD_congr CallK0_congr runD_congr okR_congr CallS_congr vcX_congr
attribute [local congr] Stop_congr
def natI (P : List (List Nat)) : List (List Int) := P.map fun l => l.map fun (x : Nat) => (x : Int)
theorem LsP_natI (P : List (List Nat)) : LsP P = LsI (natI P) := by
  unfold LsP LsI natI
  rw [List.map_map]
  refine List.map_congr_left fun l _ => ?_
  simp only [Function.comp, List.map_map]
  rfl
def t5 : List TK := mkT [5, 4, 3, 3, 3]
theorem t5_div : divR t5 2 allY [[0, 3], [1, 2, 4]] 0 := by
  refine .inr ⟨by decide, 2, rfl, some [[0, 3], [1, 2, 4]], ⟨[0, 1, 2, 3, 4], ⟨List.Perm.refl _, ?_⟩, by decide⟩, rfl, rfl⟩
  have h : ([0, 1, 2, 3, 4] : List Nat).Pairwise (fun x y => cosC t5 x y < 0 ∨ (cosC t5 x y = 0 ∧ x < y)) := by decide
  exact h
theorem t5_err : errT t5 2 = 0 := by decide
theorem t5_end : endQ t5 (natI [[0, 3], [1, 2, 4]]) = ([8, 10], 0) := by decide
theorem t5_bnd : bndQ t5 2 = 9 := by decide
theorem t5_best : bestQ t5 2 = (9, 0) := by decide
theorem t5_gr : grI [8, 10] = 10 := by decide
section
variable {M : Mem} {K : AV → Hp → Mem → Prop}
theorem known_ok (hK : ∀ M', Mem.le M M' → K (.ext (.bool true)) [] M') : CallS Try.prog 16 [] [] M [] K := by
  refine inlS (cs := []) Try.mixed Try.func16 rfl (by kernel_rfl) 0 rfl rfl ?_
  simp only [Try.f16]
  have hc5 : [AV.ext (.int .i64 5), .ext (.int .i64 4), .ext (.int .i64 3), .ext (.int .i64 3), .ext (.int .i64 3)] = cE intV64 [5, 4, 3, 3, 3] := rfl
  (replace hb0 := true_and True); refine Go1.mk ?_; repeat' ((first | (with_reducible refine Go1.go ?_) | ((with_reducible first | refine brv_mk ?_ ?_ | refine gsplitD ?_ ?_ | refine gsplitG ?_ ?_) <;> intro h <;> (try simp only [Bool.not_eq_true', Bool.not_eq_false'] at h) <;> replace hb0 := h) | ((with_reducible refine isCall (f := 23) ?_); refine callA ?_) | ((with_reducible refine isCallS (f := 23) ?_); refine (tasksB_ok (cs := [5, 4, 3, 3, 3]) rfl (by decide) (fun u M1 m1 hu => Stop.mk ?_))) | (refine And.intro ?_ ?_; (try simp only [sxO] at *); omega) | fail) <;> (try simp (maxSteps := 1000000) only [hb0, hc5, cE_ment, hasK_nil, ↓hold_pre, awayP, runOps, regK, step1, newK, genR, appR, obl, buildR, Value.cells, closeK, keepH, outV, retK, ret1, retC, RetV, Option.getD, runD, stepD, afterK, undef, simprocAttr, sxB, ↓sxD, sxE, sxTab]))
  have m1 : Mem.le M M1 := m1
  have hu : IsR M1 4 TK.c u t5 := hu
  clear hc5
  refine Stop.go ?_
  have hb : t5.length < 1000000 := by decide
  (replace hb0 := true_and True); refine Go1.mk ?_; repeat' ((first | (with_reducible refine Go1.go ?_) | ((with_reducible first | refine brv_mk ?_ ?_ | refine gsplitD ?_ ?_ | refine gsplitG ?_ ?_) <;> intro h <;> (try simp only [Bool.not_eq_true', Bool.not_eq_false'] at h) <;> replace hb0 := h) | (((with_reducible refine isCall (f := 13) ?_); refine callA_nil (by kernel_rfl) ?_; refine (Divide_ok hu hb 2 (fun M2 U P e m2 d1 hU => Stop.mk ?_)))) | (refine And.intro ?_ ?_; (try simp only [sxO] at *); omega) | fail) <;> (try simp (maxSteps := 1000000) only [hb0, hu.one, cE_ment, hasK_nil, ↓hold_pre, awayP, runOps, regK, step1, newK, genR, appR, obl, buildR, Value.cells, closeK, keepH, outV, retK, ret1, retC, RetV, Option.getD, runD, stepD, afterK, undef, simprocAttr, sxB, ↓sxD, sxE, sxTab]))
  have m2 : Mem.le M1 M2 := m2
  have d1 : divR t5 2 allY P e := d1
  have hU : LLF M1 M2 U (LsP P) := hU
  obtain ⟨rfl, rfl⟩ := divR_one d1 t5_div
  have hL := hU.ll
  rw [LsP_natI] at hL
  have hu2 := hu.le m2
  have ho := hL.sl.2.2
  refine Stop.go ?_
  (replace hb0 := true_and True); refine Go1.mk ?_; repeat' ((first | (with_reducible refine Go1.go ?_) | ((with_reducible first | refine brv_mk ?_ ?_ | refine gsplitD ?_ ?_ | refine gsplitG ?_ ?_) <;> intro h <;> (try simp only [Bool.not_eq_true', Bool.not_eq_false'] at h) <;> replace hb0 := h) | (((with_reducible refine isCall (f := 18) ?_); refine callA_nil (by kernel_rfl) ?_; refine (Ends_ok hu2 hb hL (by decide) (by decide) (fun V M3 m3 hV _ => Stop.mk ?_)))) | (refine And.intro ?_ ?_; (try simp only [sxO] at *); omega) | fail) <;> (try simp (maxSteps := 1000000) only [hb0, hu2.one, ho, cE_ment, hasK_nil, ↓hold_pre, awayP, runOps, regK, step1, newK, genR, appR, obl, buildR, Value.cells, closeK, keepH, outV, retK, ret1, retC, RetV, Option.getD, runD, stepD, afterK, undef, simprocAttr, sxB, ↓sxD, sxE, sxTab]))
  have m3 : Mem.le M2 M3 := m3
  rw [t5_end] at hV
  have hV : IsL M3 intV64 V [8, 10] := hV
  rw [t5_end]
  have hu3 := hu2.le m3
  have hb9 := t5_bnd
  have he2 := t5_err
  refine Stop.go ?_
  (replace hb0 := true_and True); refine Go1.mk ?_; repeat' ((first | (with_reducible refine Go1.go ?_) | ((with_reducible first | refine brv_mk ?_ ?_ | refine gsplitD ?_ ?_ | refine gsplitG ?_ ?_) <;> intro h <;> (try simp only [Bool.not_eq_true', Bool.not_eq_false'] at h) <;> replace hb0 := h) | (((with_reducible refine isCall (f := 24) ?_); refine callA_nil (by kernel_rfl) ?_; refine (Bound_ok hu3 hb 2 ?_))) | (((with_reducible refine isCall (f := 21) ?_); refine callA_nil (by kernel_rfl) ?_; refine (Best_ok hu3 hb 2 (fun M4 m4 => Stop.mk ?_)))) | (refine And.intro ?_ ?_; (try simp only [sxO] at *); omega) | fail) <;> (try simp (maxSteps := 1000000) only [hb0, hu3.one, hV.one, hb9, he2, cE_ment, hasK_nil, ↓hold_pre, awayP, runOps, regK, step1, newK, genR, appR, obl, buildR, Value.cells, closeK, keepH, outV, retK, ret1, retC, RetV, Option.getD, runD, stepD, afterK, undef, simprocAttr, sxB, ↓sxD, sxE, sxTab]))
  have m4 : Mem.le M3 M4 := m4
  have hV4 := hV.le m4
  rw [t5_best]
  have hk := hK M4 (m1.trans (m2.trans (m3.trans m4)))
  have hgr := t5_gr
  refine Stop.go ?_
  (replace hb0 := true_and True); refine Go1.mk ?_; repeat' ((first | (with_reducible refine Go1.go ?_) | ((with_reducible first | refine brv_mk ?_ ?_ | refine gsplitD ?_ ?_ | refine gsplitG ?_ ?_) <;> intro h <;> (try simp only [Bool.not_eq_true', Bool.not_eq_false'] at h) <;> replace hb0 := h) | (((with_reducible refine isCall (f := 25) ?_); refine callA_nil (by kernel_rfl) ?_; refine (greatest_ok hV4 (by decide) (Stop.mk ?_)))) | (refine And.intro ?_ ?_; (try simp only [sxO] at *); omega) | fail) <;> (try simp (maxSteps := 1000000) only [hb0, hV4.one, hgr, cE_ment, hasK_nil, ↓hold_pre, awayP, runOps, regK, step1, newK, genR, appR, obl, buildR, Value.cells, closeK, keepH, outV, retK, ret1, retC, RetV, Option.getD, runD, stepD, afterK, undef, simprocAttr, sxB, ↓sxD, sxE, sxTab]))
  exact Stop.go hk
end
end Go.Proofs.Ytgkfmlgfmcpebaa.Sx
namespace Go.Proofs.Ytgkfmlgfmcpebaa.Sx
open Go Go.RowKit
set_option linter.unusedVariables false
set_option linter.unusedSimpArgs false
set_option maxRecDepth 100000
set_option maxHeartbeats 8000000
attribute [local congr] fin_congr finG_congr stepG_congr step1_congr runOps_congr brv_congr obl_congr condK_congr LoopK_congr seqK_congr CutK_congr vc_congr DrawK_congr regK_congr CallK_congr AskK_congr newK_congr retC_congr ret1_congr retK_congr outV_congr closeK_congr genR_congr appR_congr finD_congr finGD_congr stepGD_congr stepD_congr CallK0_congr runD_congr okR_congr CallS_congr vcX_congr
attribute [local congr] Stop_congr
theorem tkC_set : ∀ {L : List TK} {i : Nat} (h : i < L.length) (e : Int), (tkC L).set (i * 4 + 2) (.ext (.int .i64 e)) = tkC (L.set i { L[i] with env := e })
  | x :: L, 0, _, e => by simp [tkC, TK.c]
  | x :: L, i + 1, h, e => by
    have ih := tkC_set (L := L) (i := i) (by simpa using h) e
    have e1 : tkC (x :: L) = [.ext (.string (bs x.pk)), .ext (.string (bs x.ts)), .ext (.int .i64 x.env), .ext (.int .i64 x.cost)] ++ tkC L := by simp [tkC, TK.c]
    have e2 : ∀ y, tkC (x :: L.set i y) = [.ext (.string (bs x.pk)), .ext (.string (bs x.ts)), .ext (.int .i64 x.env), .ext (.int .i64 x.cost)] ++ tkC (L.set i y) := fun y => by simp [tkC, TK.c]
    rw [e1, List.set_append_right _ _ (by simp; omega), List.set_cons_succ, e2]
    congr 1
    refine Eq.trans ?_ ih
    congr 1
    simp only [List.length_cons, List.length_nil]; omega
theorem FrzF.keepZ {K : AV → Hp → Mem → Prop} {H H2 : Hp} {M' : Mem} {k n z : Nat} {T : TypeId} (cs : List Value) (h1 : lkH H k = none) (h2 : cs.length = n * z) (h3 : hasK k (mentH H2) = false) (h4 : lkH H2 k = none) (h : ∀ u M'', Mem.le M' M'' → SlM M'' z u n cs → FreshS M' u → K (.ext u) H2 M'') : FrzF K H (.slo k 0 n z) ((k, T, cs.map .ext) :: H2) M' :=
  .inr ⟨none, [], [], k, n, z, T, cs, H2, rfl, rfl, h4, h1, h2, by simpa [mentL] using h3, h⟩
structure okT (x : TK) : Prop where
  pk : x.pk = [112]
  ts : x.ts = [116]
  e0 : 0 ≤ x.env
  e2 : x.env ≤ 2
  c1 : 1 ≤ x.cost
  c2 : x.cost ≤ 100
theorem okT_chk {x : TK} (h : okT x) : chkT x = true := by
  obtain ⟨pk, ts, env, cost⟩ := x
  obtain ⟨h1, h2, h3, h4, h5, h6⟩ := h
  simp only at *
  subst h1 h2
  unfold chkT usaT
  simp
  omega
theorem mkT_ok {cs : List Int} (h : ∀ c ∈ cs, 1 ≤ c ∧ c ≤ 100) : ∀ x ∈ mkT cs, okT x := fun x hx => by
  unfold mkT mkP at hx
  obtain ⟨i, hi, rfl⟩ := List.mem_map.1 hx
  have hi := List.mem_range.1 hi
  have := h (cs.getD i 0) (by rw [List.getD_eq_getElem?_getD, List.getElem?_eq_getElem hi]; exact List.getElem_mem _)
  exact ⟨rfl, rfl, by simp only [mkX]; omega, by simp only [mkX]; omega, this.1, this.2⟩
section
variable {M : Mem} {K : AV → Hp → Mem → Prop}
theorem tasksO_ok {k n : Nat} {cs : List Int} {Ty : TypeId} (hk : k ≠ 221) (hn : n = cs.length) (hb : cs.length < 1000000) (hK : K (.slo 221 0 n 4) [(221, 49, tkC (mkT cs)), (k, Ty, cE intV64 cs)] M) : CallS Try.prog 23 [.slo k 0 n 1] [(k, Ty, cE intV64 cs)] M [] K := by
  subst hn
  refine CallS.bor ⟨⟨_, rfl⟩, trivial⟩ fun us M' hM hb' => ?_
  obtain ⟨x, _, rfl, h1, rfl⟩ := hb'
  refine tasks_ok (h1.isL (L := cs) (T := Ty) (by simp [lkH]) rfl) hb ⟨fun j hj => ?_, fun M3 _ _ h => by rw [h rfl]; exact hK⟩
  simp only [lkH] at hj ⊢
  split at hj
  · rename_i e
    rw [if_neg (by omega)]
  · cases hj
theorem pick3_ok (u : Value) (l : List Int) (p : Nat) (L : List Int) (hL : L.length = 3) (hu : IsL M intV64 u l) (hp : p < 1000000) (hK : ∀ x ∈ L, K (.ext (.int .i64 x)) [(31, 27, [.ext u, .ext (.int .i64 ((p + 1 : Nat) : Int))]), (311, 3, cE intV64 L)] M) :
    CallS Try.prog 26 [.own 31 0, .slo 311 0 3 1] [(311, 3, cE intV64 L), (31, 27, [.ext u, .ext (.int .i64 (p : Int))])] M [] K := by
  refine inlS (cs := []) Try.mixed Try.func26 rfl (by kernel_rfl) 400 rfl rfl ?_
  simp only [Try.f26]
  (replace hb0 := true_and True); refine Go1.mk ?_; repeat' ((first | (with_reducible refine Go1.go ?_) | ((with_reducible first | refine brv_mk ?_ ?_ | refine gsplitD ?_ ?_ | refine gsplitG ?_ ?_) <;> intro h <;> (try simp only [Bool.not_eq_true', Bool.not_eq_false'] at h) <;> replace hb0 := h) | ((with_reducible refine isCall (f := 17) ?_); refine callA ?_) | ((with_reducible refine isCallS (f := 17) ?_); refine (nextI_ok 31 u l p 3 hu (by omega) (by omega) (by omega) (fun x hx0 hx1 => Stop.mk ?_))) | (refine And.intro ?_ ?_; (try simp only [sxO] at *); omega) | fail) <;> (try simp (maxSteps := 1000000) only [hb0, cE_ment, cE_len, cE_kill, hasK_nil, Nat.mul_one, hu.one, ↓hold_pre, awayP, runOps, regK, step1, newK, genR, appR, obl, buildR, Value.cells, closeK, keepH, outV, retK, ret1, retC, RetV, Option.getD, runD, stepD, afterK, undef, simprocAttr, sxB, ↓sxD, sxE, sxTab]))
  obtain ⟨j, rfl⟩ := Int.eq_ofNat_of_zero_le hx0
  have hj : j < L.length := by omega
  have hat := cE_at intV64 hj
  have hm : L[j] ∈ L := List.getElem_mem hj
  have a1 : (0 : Int) ≤ (j : Int) := by omega
  have a2 : (j : Int) < 3 := by omega
  have a3 : (j : Int) < ((3 : Nat) : Int) := by omega
  generalize L[j] = y at *
  refine Stop.go ?_
  (replace hb0 := true_and True); refine Go1.mk ?_; repeat' ((first | (with_reducible refine Go1.go ?_) | ((with_reducible first | refine brv_mk ?_ ?_ | refine gsplitD ?_ ?_ | refine gsplitG ?_ ?_) <;> intro h <;> (try simp only [Bool.not_eq_true', Bool.not_eq_false'] at h) <;> replace hb0 := h) | (refine And.intro ?_ ?_; (try simp only [sxO] at *); omega) | fail) <;> (try simp (maxSteps := 1000000) only [hb0, cE_ment, cE_len, cE_kill, hasK_nil, Nat.mul_one, hu.one, hat, a1, a2, a3, intV64, ↓hold_pre, awayP, runOps, regK, step1, newK, genR, appR, obl, buildR, Value.cells, closeK, keepH, outV, retK, ret1, retC, RetV, Option.getD, runD, stepD, afterK, undef, simprocAttr, sxB, ↓sxD, sxE, sxTab]))
  exact hK _ hm
def drA (M : Mem) (u : Value) (p q : Nat) (top : Int) (cs : List Int) : St := { env := [(7, .ext (.int .i64 (q : Int))), (6, .ext (.int .i64 top)), (5, .slo 327 0 cs.length 1), (0, .own 31 0)], hp := [(327, 3, cE intV64 cs), (31, 27, [.ext u, .ext (.int .i64 (p : Int))])], M := M, kb := 300, fx := [31] }
def drB (M : Mem) (u : Value) (p n : Nat) (L : List TK) (i : Nat) : St := { env := [(9, .ext (.int .i64 (i : Int))), (8, .slo 221 0 n 4), (0, .own 31 0)], hp := [(221, 49, tkC L), (31, 27, [.ext u, .ext (.int .i64 (p : Int))])], M := M, kb := 300, fx := [31] }
theorem drawn_ok (u : Value) (l : List Int) (p : Nat) (most : Nat) (hu : IsL M intV64 u l) (hp : p < 10000) (hmo : most < 1000) (hK : ∀ U L p' M', Mem.le M M' → IsR M' 4 TK.c U L → L.length ≤ most → (∀ x ∈ L, okT x) → p' ≤ p + 3000 → K (.ext U) [(31, 27, [.ext u, .ext (.int .i64 ((p' : Nat) : Int))])] M') :
    CallS Try.prog 11 [.own 31 0, .ext (.int .i64 (most : Int))] [(31, 27, [.ext u, .ext (.int .i64 (p : Int))])] M [] K := by
  refine CallS.frzF ?_
  refine inlS (cs := []) Try.mixed Try.func11 rfl (by kernel_rfl) 300 rfl rfl ?_
  simp only [Try.f11]
  have hc3 : [AV.ext (.int .i64 4), .ext (.int .i64 10), .ext (.int .i64 100)] = cE intV64 [4, 10, 100] := rfl
  have w0 : IntKind.i64.wrap ((most : Int) + 1) = ((most + 1 : Nat) : Int) := succ_i (by omega)
  (replace hb0 := true_and True); refine Go1.mk ?_; repeat' ((first | (with_reducible refine Go1.go ?_) | ((with_reducible first | refine brv_mk ?_ ?_ | refine gsplitD ?_ ?_ | refine gsplitG ?_ ?_) <;> intro h <;> (try simp only [Bool.not_eq_true', Bool.not_eq_false'] at h) <;> replace hb0 := h) | ((with_reducible refine isCall (f := 26) ?_); refine callA ?_) | ((with_reducible refine isCallS (f := 26) ?_); refine (pick3_ok u l p [4, 10, 100] rfl hu (by omega) (fun top htop => Stop.mk ?_))) | (refine And.intro ?_ ?_; (try simp only [sxO] at *); omega) | fail) <;> (try simp (maxSteps := 1000000) only [hb0, hc3, w0, hu.one, cE_ment, cE_kill, hasK_nil, ↓hold_pre, awayP, runOps, regK, step1, newK, genR, appR, obl, buildR, Value.cells, closeK, keepH, outV, retK, ret1, retC, RetV, Option.getD, runD, stepD, afterK, undef, simprocAttr, sxB, ↓sxD, sxE, sxTab]))
  have ht : 4 ≤ top ∧ top ≤ 100 := by
    have htop : top ∈ ([4, 10, 100] : List Int) := htop
    simp only [List.mem_cons, List.not_mem_nil, or_false] at htop
    omega
  refine Stop.go ?_
  (replace hb0 := true_and True); refine Go1.mk ?_; repeat' ((first | (with_reducible refine Go1.go ?_) | ((with_reducible first | refine brv_mk ?_ ?_ | refine gsplitD ?_ ?_ | refine gsplitG ?_ ?_) <;> intro h <;> (try simp only [Bool.not_eq_true', Bool.not_eq_false'] at h) <;> replace hb0 := h) | ((with_reducible refine isCall (f := 17) ?_); refine callA ?_) | ((with_reducible refine isCallS (f := 17) ?_); refine (nextI_ok 31 u l (p + 1) ((most + 1 : Nat) : Int) hu (by omega) (by omega) (by omega) (fun x hx0 hx1 => Stop.mk ?_))) | (refine And.intro ?_ ?_; (try simp only [sxO] at *); omega) | fail) <;> (try simp (maxSteps := 1000000) only [hb0, w0, hu.one, cE_ment, cE_kill, hasK_nil, ↓hold_pre, awayP, runOps, regK, step1, newK, genR, appR, obl, buildR, Value.cells, closeK, keepH, outV, retK, ret1, retC, RetV, Option.getD, runD, stepD, afterK, undef, simprocAttr, sxB, ↓sxD, sxE, sxTab]))
  obtain ⟨q0, rfl⟩ := Int.eq_ofNat_of_zero_le hx0
  refine Stop.go ?_
  clear hc3
  (replace hb0 := true_and True); refine Go1.mk ?_; repeat' ((first | (with_reducible refine Go1.go ?_) | ((with_reducible first | refine brv_mk ?_ ?_ | refine gsplitD ?_ ?_ | refine gsplitG ?_ ?_) <;> intro h <;> (try simp only [Bool.not_eq_true', Bool.not_eq_false'] at h) <;> replace hb0 := h) | (refine And.intro ?_ ?_; (try simp only [sxO] at *); omega) | fail) <;> (try simp (maxSteps := 1000000) only [hb0, hu.one, cE_ment, cE_kill, hasK_nil, ↓hold_pre, awayP, runOps, regK, step1, newK, genR, appR, obl, buildR, Value.cells, closeK, keepH, outV, retK, ret1, retC, RetV, Option.getD, runD, stepD, afterK, undef, simprocAttr, sxB, ↓sxD, sxE, sxTab]))
  refine ⟨fun d z => ∃ q cs p', d = q ∧ cs.length + q ≤ most ∧ p' ≤ p + 2 + cs.length ∧ (∀ c ∈ cs, 1 ≤ c ∧ c ≤ 100) ∧ z = drA M u p' q top cs, ⟨q0, drA M u (p + 1 + 1) q0 top [], (le_nil 5 327 3 1 rfl (.inl (by simp [awayB, mentE, mentH, mentL, AV.ment, hasK, cE_ment]))).trans (le_sub ⟨rfl, rfl, rfl, rfl, trivial⟩ ⟨by simp [lkH, drA, cE], by simp [lkH, drA], trivial⟩ rfl rfl rfl (by simp [keepLt, drA, lkH])), ⟨q0, [], p + 1 + 1, rfl, by simp only [List.length_nil]; omega, by simp only [List.length_nil]; omega, fun c hc => (by cases hc), rfl⟩⟩, ?_⟩
  rintro d z ⟨q, cs, p', rfl, hcl, hp', hcs, rfl⟩
  cases d with
  | zero =>
    have d1 : decide ((0 : Int) < ((0 : Nat) : Int)) = false := by simp
    (replace hb0 := true_and True); refine Go1.mk ?_; repeat' ((first | (with_reducible refine Go1.go ?_) | ((with_reducible first | refine brv_mk ?_ ?_ | refine gsplitD ?_ ?_ | refine gsplitG ?_ ?_) <;> intro h <;> (try simp only [Bool.not_eq_true', Bool.not_eq_false'] at h) <;> replace hb0 := h) | ((with_reducible refine isCall (f := 23) ?_); refine callA ?_) | ((with_reducible refine isCallS (f := 23) ?_); refine (tasksO_ok (by decide) rfl (by omega) (Stop.mk ?_))) | (refine And.intro ?_ ?_; (try simp only [sxO] at *); omega) | fail) <;> (try simp (maxSteps := 1000000) only [hb0, drA, d1, hu.one, cE_ment, cE_kill, hasK_nil, ↓hold_pre, awayP, runOps, regK, step1, newK, genR, appR, obl, buildR, Value.cells, closeK, keepH, outV, retK, ret1, retC, RetV, Option.getD, runD, stepD, afterK, undef, simprocAttr, sxB, ↓sxD, sxE, sxTab]))
    have hlt0 : (mkT cs).length = cs.length := mkP_len cs cs.length
    refine Stop.go ?_
    (replace hb0 := true_and True); refine Go1.mk ?_; repeat' ((first | (with_reducible refine Go1.go ?_) | ((with_reducible first | refine brv_mk ?_ ?_ | refine gsplitD ?_ ?_ | refine gsplitG ?_ ?_) <;> intro h <;> (try simp only [Bool.not_eq_true', Bool.not_eq_false'] at h) <;> replace hb0 := h) | (refine And.intro ?_ ?_; (try simp only [sxO] at *); omega) | fail) <;> (try simp (maxSteps := 1000000) only [hb0, hu.one, cE_ment, cE_kill, tkC_ment, tkC_kill, hasK_nil, ↓hold_pre, awayP, runOps, regK, step1, newK, genR, appR, obl, buildR, Value.cells, closeK, keepH, outV, retK, ret1, retC, RetV, Option.getD, runD, stepD, afterK, undef, simprocAttr, sxB, ↓sxD, sxE, sxTab]))
    refine ⟨fun d z => ∃ i L p2, d = cs.length - i ∧ i ≤ cs.length ∧ L.length = cs.length ∧ p2 ≤ p + 2 + cs.length + i ∧ (∀ x ∈ L, okT x) ∧ z = drB M u p2 cs.length L i, ⟨cs.length, drB M u p' cs.length (mkT cs) 0, le_sub ⟨rfl, rfl, rfl, trivial⟩ ⟨by simp [lkH, drB], by simp [lkH, drB], trivial⟩ rfl rfl rfl (by simp [keepLt, drB, lkH]), ⟨0, mkT cs, p', by omega, by omega, hlt0, by omega, mkT_ok hcs, rfl⟩⟩, ?_⟩
    rintro d z ⟨i, L, p2, rfl, hi, hL, hp2, hok, rfl⟩
    by_cases hlt : i < cs.length
    case neg =>
      obtain rfl : i = cs.length := by omega
      have d2 : decide ((cs.length : Int) < (cs.length : Int)) = false := by simp
      (replace hb0 := true_and True); refine Go1.mk ?_; repeat' ((first | (with_reducible refine Go1.go ?_) | ((with_reducible first | refine brv_mk ?_ ?_ | refine gsplitD ?_ ?_ | refine gsplitG ?_ ?_) <;> intro h <;> (try simp only [Bool.not_eq_true', Bool.not_eq_false'] at h) <;> replace hb0 := h) | (refine And.intro ?_ ?_; (try simp only [sxO] at *); omega) | fail) <;> (try simp (maxSteps := 1000000) only [hb0, drB, d2, hu.one, tkC_ment, tkC_kill, hasK_nil, ↓hold_pre, awayP, runOps, regK, step1, newK, genR, appR, obl, buildR, Value.cells, closeK, keepH, outV, retK, ret1, retC, RetV, Option.getD, runD, stepD, afterK, undef, simprocAttr, sxB, ↓sxD, sxE, sxTab]))
      refine FrzF.keepZ (L.flatMap TK.c) rfl (by rw [flat_len (z := 4) (fun _ => rfl), hL]) (by simp [mentH, mentL, AV.ment, hasK]) rfl fun w M3 h1 h2 h3 => hK w L p2 M3 h1 ?_ (by omega) hok (by omega)
      unfold IsR
      rw [hL]; exact h2
    have d2 : decide ((i : Int) < (cs.length : Int)) = true := by rw [decide_eq_true_eq]; omega
    have b1 : (0 : Int) ≤ (i : Int) := by omega
    have b2 : (i : Int) < (cs.length : Int) := by omega
    have wi : IntKind.i64.wrap ((i : Int) + 1) = ((i + 1 : Nat) : Int) := succ_i (by omega)
    have hle := tkC_len L
    rw [hL] at hle
    (replace hb0 := true_and True); refine Go1.mk ?_; repeat' ((first | (with_reducible refine Go1.go ?_) | ((with_reducible first | refine brv_mk ?_ ?_ | refine gsplitD ?_ ?_ | refine gsplitG ?_ ?_) <;> intro h <;> (try simp only [Bool.not_eq_true', Bool.not_eq_false'] at h) <;> replace hb0 := h) | ((with_reducible refine isCall (f := 17) ?_); refine callA ?_) | ((with_reducible refine isCallS (f := 17) ?_); refine (nextI_ok 31 u l p2 3 hu (by omega) (by omega) (by omega) (fun e he0 he1 => Stop.mk ?_))) | (refine And.intro ?_ ?_; (try simp only [sxO] at *); omega) | fail) <;> (try simp (maxSteps := 1000000) only [hb0, drB, d2, b1, b2, hu.one, tkC_ment, tkC_kill, hasK_nil, ↓hold_pre, awayP, runOps, regK, step1, newK, genR, appR, obl, buildR, Value.cells, closeK, keepH, outV, retK, ret1, retC, RetV, Option.getD, runD, stepD, afterK, undef, simprocAttr, sxB, ↓sxD, sxE, sxTab]))
    have hse := tkC_set (L := L) (i := i) (by omega) e
    have hok2 : ∀ x ∈ L.set i { L[i] with env := e }, okT x := fun x hx => by
      rcases List.mem_or_eq_of_mem_set hx with h | rfl
      · exact hok x h
      · have := hok _ (List.getElem_mem (show i < L.length by omega))
        exact ⟨this.pk, this.ts, he0, by simp only; omega, this.c1, this.c2⟩
    have hin : i * 4 + 2 < cs.length * 4 := by omega
    refine Stop.go ?_
    (replace hb0 := true_and True); refine Go1.mk ?_; repeat' ((first | (with_reducible refine Go1.go ?_) | ((with_reducible first | refine brv_mk ?_ ?_ | refine gsplitD ?_ ?_ | refine gsplitG ?_ ?_) <;> intro h <;> (try simp only [Bool.not_eq_true', Bool.not_eq_false'] at h) <;> replace hb0 := h) | (refine And.intro ?_ ?_; (try simp only [sxO] at *); omega) | fail) <;> (try simp (maxSteps := 1000000) only [hb0, b1, b2, wi, hle, hse, hin, hu.one, tkC_ment, tkC_kill, hasK_nil, Nat.zero_add, ↓hold_pre, awayP, runOps, regK, step1, newK, genR, appR, obl, buildR, Value.cells, closeK, keepH, outV, retK, ret1, retC, RetV, Option.getD, runD, stepD, afterK, undef, simprocAttr, sxB, ↓sxD, sxE, sxTab]))
    exact ⟨cs.length - (i + 1), drB M u (p2 + 1) cs.length _ (i + 1), by omega, le_sub ⟨rfl, rfl, rfl, trivial⟩ ⟨by simp [lkH, drB], by simp [lkH, drB], trivial⟩ rfl rfl rfl (by simp [keepLt, drB, lkH]), i + 1, _, p2 + 1, rfl, by omega, by rw [List.length_set, hL], by omega, hok2, rfl⟩
  | succ q =>
    have d1 : decide ((0 : Int) < ((q + 1 : Nat) : Int)) = true := by rw [decide_eq_true_eq]; omega
    have w1 : IntKind.i64.wrap (((q + 1 : Nat) : Int) - 1) = ((q : Nat) : Int) := by rw [wrap_id (by omega) (by omega)]; omega
    (replace hb0 := true_and True); refine Go1.mk ?_; repeat' ((first | (with_reducible refine Go1.go ?_) | ((with_reducible first | refine brv_mk ?_ ?_ | refine gsplitD ?_ ?_ | refine gsplitG ?_ ?_) <;> intro h <;> (try simp only [Bool.not_eq_true', Bool.not_eq_false'] at h) <;> replace hb0 := h) | ((with_reducible refine isCall (f := 17) ?_); refine callA ?_) | ((with_reducible refine isCallS (f := 17) ?_); refine (nextI_ok 31 u l p' top hu (by omega) (by omega) (by omega) (fun x hx0 hx1 => Stop.mk ?_))) | (refine And.intro ?_ ?_; (try simp only [sxO] at *); omega) | fail) <;> (try simp (maxSteps := 1000000) only [hb0, drA, d1, hu.one, cE_ment, cE_kill, hasK_nil, ↓hold_pre, awayP, runOps, regK, step1, newK, genR, appR, obl, buildR, Value.cells, closeK, keepH, outV, retK, ret1, retC, RetV, Option.getD, runD, stepD, afterK, undef, simprocAttr, sxB, ↓sxD, sxE, sxTab]))
    have w2 : IntKind.i64.wrap (1 + x) = 1 + x := wrap_id (by omega) (by omega)
    have hsn : cE intV64 cs ++ [.ext (.int .i64 (1 + x))] = cE intV64 (cs ++ [1 + x]) := cE_snoc intV64 cs (1 + x)
    have hln : cs.length + 1 = (cs ++ [1 + x]).length := by simp
    refine Stop.go ?_
    (replace hb0 := true_and True); refine Go1.mk ?_; repeat' ((first | (with_reducible refine Go1.go ?_) | ((with_reducible first | refine brv_mk ?_ ?_ | refine gsplitD ?_ ?_ | refine gsplitG ?_ ?_) <;> intro h <;> (try simp only [Bool.not_eq_true', Bool.not_eq_false'] at h) <;> replace hb0 := h) | (refine And.intro ?_ ?_; (try simp only [sxO] at *); omega) | fail) <;> (try simp (maxSteps := 1000000) only [hb0, w1, w2, hsn, hu.one, cE_len, cE_ment, cE_kill, hasK_nil, ↓hold_pre, awayP, runOps, regK, step1, newK, genR, appR, obl, buildR, Value.cells, closeK, keepH, outV, retK, ret1, retC, RetV, Option.getD, runD, stepD, afterK, undef, simprocAttr, sxB, ↓sxD, sxE, sxTab]))
    exact ⟨q, drA M u (p' + 1) q top (cs ++ [1 + x]), by omega, le_sub ⟨rfl, rfl, by rw [← hln]; rfl, rfl, trivial⟩ ⟨by simp [lkH, drA], by simp [lkH, drA], trivial⟩ rfl rfl rfl (by simp [keepLt, drA, lkH]), q, _, p' + 1, rfl, by rw [← hln]; omega, by rw [← hln]; omega, fun c hc => by
      rcases List.mem_append.1 hc with h | h
      · exact hcs c h
      · rw [List.mem_singleton.1 h]; omega, rfl⟩
end
end Go.Proofs.Ytgkfmlgfmcpebaa.Sx
namespace Go.Proofs.Ytgkfmlgfmcpebaa.Sx
open Go Go.RowKit
set_option linter.unusedVariables false
set_option linter.unusedSimpArgs false
set_option maxRecDepth 100000
set_option maxHeartbeats 8000000
attribute [local congr] fin_congr finG_congr stepG_congr step1_congr runOps_congr brv_congr obl_congr condK_congr LoopK_congr seqK_congr CutK_congr vc_congr DrawK_congr regK_congr CallK_congr AskK_congr newK_congr retC_congr ret1_congr retK_congr outV_congr closeK_congr genR_congr appR_congr finD_congr finGD_congr stepGD_congr stepD_congr CallK0_congr runD_congr okR_congr CallS_congr vcX_congr
attribute [local congr] Stop_congr
theorem mem_flat_len : ∀ {P : List (List Nat)} {l : List Nat}, l ∈ P → l.length ≤ P.flatten.length
  | p :: P, l, h => by
    rw [List.flatten_cons, List.length_append]
    rcases List.mem_cons.1 h with rfl | h
    · omega
    · have := mem_flat_len h; omega
theorem divR_len {T : List TK} {n : Int} {may : Nat → Nat → Bool} {P : List (List Nat)} {e : Int} (h : divR T n may P e) : (∀ l ∈ P, l.length ≤ T.length) ∧ P.length ≤ 8 := by
  rcases h with ⟨_, rfl, _⟩ | ⟨he, m, rfl, Q, ⟨Z, hZ, hQ⟩, rfl, _⟩
  · exact ⟨fun l hl => (by cases hl), by simp⟩
  · obtain ⟨_, _, h8⟩ := errT_0 he
    cases hg : giveS may (cosN T) m Z (List.replicate m 0) (List.replicate m []) with
    | none => rw [hg] at hQ; subst hQ; exact ⟨fun l hl => (by cases hl), by simp [divO]⟩
    | some x =>
      obtain ⟨E, P⟩ := x
      rw [hg] at hQ
      subst hQ
      have hk := giveS_ok (giv_start (cosN T) m) hg
      refine ⟨fun l hl => ?_, ?_⟩
      · have h1 := mem_flat_len (P := P) hl
        rw [hk.all.length_eq, List.append_nil, List.length_reverse, hZ.1.length_eq, List.length_range] at h1
        exact h1
      · have : (divO (Option.map Prod.snd (some (E, P)))).length = m := hk.lp
        omega
section
variable {M : Mem} {K : AV → Hp → Mem → Prop}
end
end Go.Proofs.Ytgkfmlgfmcpebaa.Sx
namespace Go.Proofs.Ytgkfmlgfmcpebaa.Sx
open Go
set_option linter.unusedVariables false
theorem chkTL_drawn {L : List TK} (h : ∀ x ∈ L, okT x) (hl : L.length ≤ 64) : chkTL L = true := by
  unfold chkTL
  rw [decide_eq_true hl, Bool.true_and]
  exact List.all_eq_true.2 fun x hx => okT_chk (h x hx)
theorem errT_drawn {L : List TK} (h : ∀ x ∈ L, okT x) (hl : L.length ≤ 64) {m : Nat} (h1 : 1 ≤ m) (h8 : m ≤ 8) : errT L m = 0 := by
  unfold errT
  rw [chkTL_drawn h hl, if_pos rfl, if_pos (by omega)]
theorem cosI_N {L : List TK} (h : ∀ x ∈ L, okT x) (i : Nat) : cosI L i = ((cosN L i : Nat) : Int) := by
  unfold cosN
  by_cases hi : i < L.length
  · have := (h _ (List.getElem_mem hi)).c1
    rw [cosI_in hi, Int.toNat_of_nonneg (by omega)]
  · have : cosI L i = 0 := by unfold cosI; rw [List.getElem?_eq_none (by omega)]; rfl
    rw [this]; rfl
theorem sumC_N {L : List TK} (h : ∀ x ∈ L, okT x) : ∀ l : List Nat, sumC L (l.map fun (x : Nat) => (x : Int)) = (((l.map (cosN L)).sum : Nat) : Int)
  | [] => rfl
  | i :: l => by
    have ih := sumC_N h l
    unfold sumC at ih ⊢
    simp only [List.map_cons, List.sum_cons, Int.toNat_natCast] at ih ⊢
    rw [ih, cosI_N h i]; omega
theorem grI_from : ∀ (E : List Nat) (n : Nat), (E.map fun (x : Nat) => (x : Int)).foldl (fun n x => if n < x then x else n) (n : Int) = ((max n (maxL E) : Nat) : Int)
  | [], n => by simp [maxL]
  | x :: E, n => by
    rw [List.map_cons, List.foldl_cons, maxI, grI_from E (max n x)]
    simp only [maxL]; omega
theorem grI_nat (E : List Nat) : grI (E.map fun (x : Nat) => (x : Int)) = ((maxL E : Nat) : Int) := by
  have := grI_from E 0
  rw [Nat.zero_max] at this
  exact this
structure DivD (L : List TK) (m : Nat) (P : List (List Nat)) (Z E : List Nat) : Prop where
  lon : lonZ L Z
  giv : giveS allY (cosN L) m Z (List.replicate m 0) (List.replicate m []) = some (E, P)
  ok : GivOK (cosN L) m (Z.reverse ++ []) E P
theorem divD_of {L : List TK} (h : ∀ x ∈ L, okT x) (hl : L.length ≤ 64) {m : Nat} (h1 : 1 ≤ m) (h8 : m ≤ 8) {P : List (List Nat)} {e : Int} (hd : divR L m allY P e) : e = 0 ∧ ∃ Z E, DivD L m P Z E := by
  rcases hd with ⟨he, _, _⟩ | ⟨_, m', hm, Q, ⟨Z, hZ, hQ⟩, rfl, rfl⟩
  · exact absurd (errT_drawn h hl h1 h8) he
  · obtain rfl : m = m' := by omega
    obtain ⟨E', P', hg⟩ := give_all (c := cosN L) (m := m) (by omega) Z (List.replicate m 0) (List.replicate m [])
    have hg : giveS allY (cosN L) m Z (List.replicate m 0) (List.replicate m []) = some (E', P') := hg
    rw [hg] at hQ
    subst hQ
    exact ⟨rfl, Z, E', hZ, hg, giveS_ok (giv_start (cosN L) m) hg⟩
end Go.Proofs.Ytgkfmlgfmcpebaa.Sx
namespace Go.Proofs.Ytgkfmlgfmcpebaa.Sx
open Go
set_option linter.unusedVariables false
theorem giv_ends {L : List TK} (h : ∀ x ∈ L, okT x) {m : Nat} (he : errT L m = 0) {P : List (List Nat)} {D E : List Nat} (hG : GivOK (cosN L) m D E P) (hD : D.Perm (List.range L.length)) : endQ L (natI P) = (E.map (fun (x : Nat) => (x : Int)), 0) := by
  have hlP : (natI P).length = m := by unfold natI; rw [List.length_map, hG.lp]
  have hfl : (natI P).flatten = P.flatten.map fun (x : Nat) => (x : Int) := by unfold natI; rw [List.map_flatten]
  have hpm : P.flatten.Perm (List.range L.length) := hG.all.trans hD
  rw [endQ_ok (by rw [hlP]; exact he) (permB_iff.2 (by rw [hfl]; exact hpm.map _))]
  congr 1
  refine List.ext_getElem (by simp only [endsV, List.length_map, hlP, hG.le]) fun r h2 h3 => ?_
  have hr : r < m := by rw [List.length_map, hG.le] at h3; exact h3
  have hrP : r < P.length := by rw [hG.lp]; exact hr
  have hs := hG.sum r hr
  rw [List.getD_eq_getElem?_getD, List.getElem?_eq_getElem (by rw [hG.le]; exact hr), List.getD_eq_getElem?_getD, List.getElem?_eq_getElem hrP] at hs
  simp only [Option.getD_some] at hs
  simp only [endsV, natI, List.getElem_map]
  rw [sumC_N h, hs]
theorem giv_bnd {L : List TK} {m : Nat} (h1 : 1 ≤ m) {P : List (List Nat)} {D E : List Nat} (hG : GivOK (cosN L) m D E P) (hD : D.Perm (List.range L.length)) : bndT L m ≤ maxL E := by
  have hEl : E.length = m := hG.le
  refine bnd_le (f := fP P) (by omega) ((hG.ends (v := maxL E) (hD.symm.nodup List.nodup_range) (fun r hr => ?_)).perm hD)
  refine maxL_le ?_
  rw [List.getD_eq_getElem?_getD, List.getElem?_eq_getElem (by omega)]
  exact List.getElem_mem _
theorem callA_no {P : Program} {f : FuncId} {args : List AV} {s : St} {d : Option Nat} {K : St → Prop} (hm : mentL args = []) (h : CallS P f args [] s.M [] (afterK s d [] K)) : CallK P f args s d K := callA_nil (by rw [hm]; simp [reachK, cellsK, subH_no]) h
theorem late_start (c : Nat → Nat) (m : Nat) : lateOK c m (List.replicate m 0) (List.replicate m []) := fun i k _ _ x hx => by
  rw [rep_getD] at hx; cases hx
theorem div_perm {L : List TK} {m : Nat} {P : List (List Nat)} {Z E : List Nat} (hD : DivD L m P Z E) : (Z.reverse ++ []).Perm (List.range L.length) := by rw [List.append_nil]; exact (List.reverse_perm Z).trans hD.lon.1
theorem div_late {L : List TK} {m : Nat} {P : List (List Nat)} {Z E : List Nat} (hD : DivD L m P Z E) : lateOK (cosN L) m E P := give_late (giv_start (cosN L) m) (late_start _ _) hD.giv
theorem giv_small {L : List TK} (h : ∀ x ∈ L, okT x) (hl : L.length ≤ 64) {m : Nat} {P : List (List Nat)} {D E : List Nat} (hG : GivOK (cosN L) m D E P) (hD : D.Perm (List.range L.length)) : ∀ r, E.getD r 0 ≤ 6400 := fun r => by
  by_cases hr : r < m
  · rw [hG.sum r hr]
    have hpm : P.flatten.Perm (List.range L.length) := hG.all.trans hD
    have hP : r < P.length := by rw [hG.lp]; exact hr
    have hmem : P.getD r [] ∈ P := by rw [List.getD_eq_getElem?_getD, List.getElem?_eq_getElem hP]; exact List.getElem_mem _
    have hlen : (P.getD r []).length ≤ 64 := by
      have := mem_flat_len hmem
      rw [hpm.length_eq, List.length_range] at this; omega
    have hb : ((P.getD r []).map (cosN L)).sum ≤ (P.getD r []).length * 100 := sum_bd fun i hi => by
      have hi2 : i ∈ P.flatten := List.mem_flatten.2 ⟨_, hmem, hi⟩
      have hi3 := List.mem_range.1 (hpm.subset hi2)
      have := (h _ (List.getElem_mem hi3)).c2
      unfold cosN
      rw [cosI_in hi3]; omega
    have : (P.getD r []).length * 100 ≤ 64 * 100 := Nat.mul_le_mul_right 100 hlen
    omega
  · have : E.getD r 0 = 0 := by rw [List.getD_eq_getElem?_getD, List.getElem?_eq_none (by rw [hG.le]; omega)]; rfl
    rw [this]; omega
end Go.Proofs.Ytgkfmlgfmcpebaa.Sx
namespace Go.Proofs.Ytgkfmlgfmcpebaa.Sx
open Go Go.RowKit
set_option linter.unusedVariables false
set_option linter.unusedSimpArgs false
section
variable {b : Nat} {T T0 : TypeId} {Ls : List (List Value)} {k i n O : Nat}
theorem hasK_end (k : Nat) (l : List Nat) : hasK k (l ++ [k]) = true := by
  rw [hasK_app]
  have : hasK k [k] = true := by simp [hasK]
  rw [this, Bool.or_true]
theorem subH_fam1 : subH (famH b T Ls []) (mentL (famC b Ls) ++ [O]) = famH b T Ls [] := by
  rw [subH_famAll fun j hj => by rw [hasK_app, famC_has hj]; rfl]; rfl
theorem lk_famI {x : TypeId × List AV} (hO : O < b) (hi : i < Ls.length) : lkH ((O, x) :: famH b T Ls []) (i + b) = some (T, Ls[i].map .ext) := by
  simp only [lkH]
  rw [if_neg (by omega)]
  exact lkH_famI hi
theorem dropH_fam1 {x : TypeId × List AV} (hO : O < b) : dropH ((O, x) :: famH b T Ls []) (famH b T Ls []) = [] := by
  rw [dropH_famAll fun j hj => by rw [lk_famI hO hj]; rfl]; rfl
theorem newKeys_fam {x : TypeId × List AV} (hO : O < b) (s : St) : newKeys s ((O, x) :: famH b T Ls []) (famH b T Ls []) = True := by
  refine eq_true ?_
  have key : ∀ (H : Hp), (∀ j, (lkH (famH b T Ls []) j).isSome = true → (lkH H j).isSome = true) → ∀ (A : Hp), (∀ y ∈ A, (lkH H y.1).isSome = true) → newKeys s H A := fun H _ A => by
    induction A with
    | nil => exact fun _ => trivial
    | cons y A ih => exact fun h => ⟨.inl (h y List.mem_cons_self), ih fun z hz => h z (List.mem_cons_of_mem _ hz)⟩
  refine key _ (fun j hj => ?_) _ (fun y hy => ?_)
  · simp only [lkH]; split
    · rfl
    · exact hj
  · unfold famH famB at hy
    rw [List.append_nil] at hy
    obtain ⟨q, hq, e⟩ := List.getElem_of_mem hy
    rw [List.getElem_mapIdx] at e
    rw [← e]
    have hq2 : q < Ls.length := by rw [List.length_mapIdx] at hq; exact hq
    show (lkH ((O, x) :: famH b T Ls []) (q + b)).isSome = true
    rw [lk_famI hO hq2]; rfl
end
end Go.Proofs.Ytgkfmlgfmcpebaa.Sx
namespace Go.Proofs.Ytgkfmlgfmcpebaa.Sx
open Go Go.RowKit
set_option linter.unusedVariables false
set_option linter.unusedSimpArgs false
set_option maxRecDepth 100000
set_option maxHeartbeats 8000000
attribute [local congr] fin_congr finG_congr stepG_congr step1_congr runOps_congr brv_congr obl_congr condK_congr LoopK_congr seqK_congr CutK_congr vc_congr DrawK_congr regK_congr CallK_congr AskK_congr newK_congr retC_congr ret1_congr retK_congr outV_congr closeK_congr genR_congr appR_congr finD_congr finGD_congr stepGD_congr stepD_congr CallK0_congr runD_congr okR_congr CallS_congr vcX_congr
attribute [local congr] Stop_congr
theorem famH_app (b : Nat) (T : TypeId) (Ls : List (List Value)) (r r' : Hp) : famH b T Ls r ++ r' = famH b T Ls (r ++ r') := by unfold famH; rw [List.append_assoc]
section
variable {M : Mem} {K : AV → Hp → Mem → Prop}
def beSt (M : Mem) (u U : Value) (m i p : Nat) (P : List (List Nat)) : St := { env := [(9, .ext (.int .i64 (i : Int))), (8, .slo 38 0 m 1), (7, .ext (.int .i64 (m : Int))), (6, .ext U), (5, .own 31 0)], hp := (38, 22, famC 1000 (LsP P)) :: (31, 27, [.ext u, .ext (.int .i64 (p : Int))]) :: famH 1000 3 (LsP P) [], M := M, kb := 7, fx := [] }
def bo1 (M : Mem) (U Z V : Value) (m i : Nat) : St := { env := [(19, .ext (.int .i64 (i : Int))), (17, .ext V), (15, .ext Z), (7, .ext (.int .i64 (m : Int))), (6, .ext U)], hp := [], M := M, kb := 7, fx := [] }
def bo2 (M : Mem) (U Z V : Value) (m i k : Nat) : St := { env := [(20, .ext (.int .i64 (k : Int))), (19, .ext (.int .i64 (i : Int))), (17, .ext V), (15, .ext Z), (7, .ext (.int .i64 (m : Int))), (6, .ext U)], hp := [], M := M, kb := 7, fx := [] }
theorem IsL.natR {u : Value} {l : List Nat} (h : IsL M intV64 u (l.map fun (x : Nat) => (x : Int))) : IsL M natV u l := by
  unfold IsL at h ⊢
  rw [List.map_map, List.length_map] at h
  exact h
theorem bounds30_ok (u : Value) (l : List Int) (n : Int) (hu : IsL M intV64 u l) (hK : ∀ M', Mem.le M M' → K (.ext (.bool true)) [] M') : CallS Try.prog 7 [.ext u, .ext (.int .i64 n)] [] M [] K := by
  refine inlS (cs := []) Try.mixed Try.func7 rfl (by kernel_rfl) 7 rfl rfl ?_
  simp only [Try.f7]
  (replace hb0 := true_and True); refine Go1.mk ?_; repeat' ((first | (with_reducible refine Go1.go ?_) | ((with_reducible first | refine brv_mk ?_ ?_ | refine gsplitD ?_ ?_ | refine gsplitG ?_ ?_) <;> intro h <;> (try simp only [Bool.not_eq_true', Bool.not_eq_false'] at h) <;> replace hb0 := h) | ((with_reducible refine isCall (f := 11) ?_); refine callA ?_) | ((with_reducible refine isCallS (f := 11) ?_); refine (drawn_ok u l 0 30 hu (by omega) (by omega) (fun U L p' M1 m1 hU hl hok hp => Stop.mk ?_))) | (refine And.intro ?_ ?_; (try simp only [sxO] at *); omega) | fail) <;> (try simp (maxSteps := 1000000) only [hb0, hu.one, hasK_nil, ↓hold_pre, awayP, runOps, regK, step1, newK, genR, appR, obl, buildR, Value.cells, closeK, keepH, outV, retK, ret1, retC, RetV, Option.getD, runD, stepD, afterK, undef, simprocAttr, sxB, ↓sxD, sxE, sxTab]))
  have m1 : Mem.le M M1 := m1
  have hU : IsR M1 4 TK.c U L := hU
  have hu1 := hu.le m1
  have hLb : L.length < 1000000 := by omega
  refine Stop.go ?_
  (replace hb0 := true_and True); refine Go1.mk ?_; repeat' ((first | (with_reducible refine Go1.go ?_) | ((with_reducible first | refine brv_mk ?_ ?_ | refine gsplitD ?_ ?_ | refine gsplitG ?_ ?_) <;> intro h <;> (try simp only [Bool.not_eq_true', Bool.not_eq_false'] at h) <;> replace hb0 := h) | (((with_reducible refine isCall (f := 12) ?_); refine callA_nil (by kernel_rfl) ?_; refine (fold_ok n 8 (Stop.mk ?_)))) | (refine And.intro ?_ ?_; (try simp only [sxO] at *); omega) | fail) <;> (try simp (maxSteps := 1000000) only [hb0, hU.one, hasK_nil, ↓hold_pre, awayP, runOps, regK, step1, newK, genR, appR, obl, buildR, Value.cells, closeK, keepH, outV, retK, ret1, retC, RetV, Option.getD, runD, stepD, afterK, undef, simprocAttr, sxB, ↓sxD, sxE, sxTab]))
  obtain ⟨m, hm, hm1, hm8⟩ : ∃ m : Nat, IntKind.i64.wrap (1 + foldI n 8) = (m : Int) ∧ 1 ≤ m ∧ m ≤ 8 := by
    obtain ⟨f1, f2⟩ := foldI_bd1 n 8 (by omega) (by omega)
    refine ⟨(1 + foldI n 8).toNat, ?_, by omega, by omega⟩
    rw [wrap_id (by omega) (by omega)]; omega
  rw [hm]
  have he := errT_drawn hok (by omega) hm1 hm8
  have t1 := Int.toNat_natCast m
  have t2 := repN_nil m
  refine Stop.go ?_
  (replace hb0 := true_and True); refine Go1.mk ?_; repeat' ((first | (with_reducible refine Go1.go ?_) | ((with_reducible first | refine brv_mk ?_ ?_ | refine gsplitD ?_ ?_ | refine gsplitG ?_ ?_) <;> intro h <;> (try simp only [Bool.not_eq_true', Bool.not_eq_false'] at h) <;> replace hb0 := h) | (refine And.intro ?_ ?_; (try simp only [sxO] at *); omega) | fail) <;> (try simp (maxSteps := 1000000) only [hb0, hU.one, t1, t2, mentL_rep, hasK_nil, ↓hold_pre, awayP, runOps, regK, step1, newK, genR, appR, obl, buildR, Value.cells, closeK, keepH, outV, retK, ret1, retC, RetV, Option.getD, runD, stepD, afterK, undef, simprocAttr, sxB, ↓sxD, sxE, sxTab]))
  clear t1 t2
  refine ⟨fun d z => ∃ i E P p, d = L.length - i ∧ i ≤ L.length ∧ p ≤ p' + i ∧ GivOK (cosN L) m (List.range i).reverse E P ∧ (∀ q ∈ P, q.length ≤ i) ∧ z = beSt M1 u U m i p P, ⟨L.length, beSt M1 u U m 0 p' (List.replicate m []), (le_fam (O := 38) (b := 1000) (n := m) 3 (T0 := 22) (by simp [lkH]) (by simp [ltB, mentE, AV.ment]) (by simp [ltB, mentH, mentL, AV.ment, mentL_rep]) (by simp [ltB]) (by simp)).trans (le_sub ⟨rfl, rfl, rfl, rfl, rfl, trivial⟩ ⟨by rw [lkH_fam (by omega), LsP_rep]; simp [lkH, upH], by rw [lkH_fam (by omega)]; simp [lkH, upH], by rw [LsP_rep]; exact subHp_fam (fun i hi => lkH_famI hi) trivial⟩ rfl rfl rfl (keepLt_fam (show 7 ≤ 1000 by omega) (by simp [keepLt, upH]))), ⟨0, _, _, p', by omega, by omega, by omega, giv_start (cosN L) m, fun q hq => by rw [(List.mem_replicate.1 hq).2]; simp, rfl⟩⟩, ?_⟩
  rintro d z ⟨i, E, P, p, rfl, hi, hp2, hG, hPl, rfl⟩
  have hLP : (LsP P).length = m := by unfold LsP; rw [List.length_map]; exact hG.lp
  have fl := famC_len (b := 1000) (Ls := LsP P)
  rw [hLP] at fl
  by_cases hlt : i < L.length
  · have d1 : decide ((i : Int) < (L.length : Int)) = true := by rw [decide_eq_true_eq]; omega
    have wi : IntKind.i64.wrap ((i : Int) + 1) = ((i + 1 : Nat) : Int) := succ_i (by omega)
    have s1 : subH (famH 1000 3 (LsP P) []) [31] = [] := subH_fam (by simp [ltB])
    have s2 : ∀ cs, dropH [(31, 27, cs)] (famH 1000 3 (LsP P) []) = famH 1000 3 (LsP P) [] := fun cs => dropH_fam (by simp [ltB, keysH])
    (replace hb0 := true_and True); refine Go1.mk ?_; repeat' ((first | (with_reducible refine Go1.go ?_) | ((with_reducible first | refine brv_mk ?_ ?_ | refine gsplitD ?_ ?_ | refine gsplitG ?_ ?_) <;> intro h <;> (try simp only [Bool.not_eq_true', Bool.not_eq_false'] at h) <;> replace hb0 := h) | ((with_reducible refine isCall (f := 17) ?_); refine callA ?_) | ((with_reducible refine isCallS (f := 17) ?_); refine (nextI_ok 31 u l p m hu1 (by omega) (by omega) (by omega) (fun x hx0 hx1 => Stop.mk ?_))) | (refine And.intro ?_ ?_; (try simp only [sxO] at *); omega) | fail) <;> (try simp (maxSteps := 1000000) only [hb0, beSt, d1, s1, s2, hU.len, hU.sl, hu1.one, hasK_nil, ↓hold_pre, awayP, runOps, regK, step1, newK, genR, appR, obl, buildR, Value.cells, closeK, keepH, outV, retK, ret1, retC, RetV, Option.getD, runD, stepD, afterK, undef, simprocAttr, sxB, ↓sxD, sxE, sxTab]))
    obtain ⟨k, rfl⟩ := Int.eq_ofNat_of_zero_le hx0
    have hk : k < m := by omega
    have c6 : (0 : Int) ≤ (k : Int) := by omega
    have c7 : (k : Int) < (m : Int) := by omega
    have hkL : k < (LsP P).length := by omega
    have hPm : P.getD k [] ∈ P := by rw [List.getD_eq_getElem?_getD, List.getElem?_eq_getElem (by rw [hG.lp]; omega)]; exact List.getElem_mem _
    have hPk := hPl _ hPm
    have hLk := LsP_at hkL
    have fa := famC_at (b := 1000) hkL
    rw [hLk, List.length_map] at fa
    have fk : lkH (famH 1000 3 (LsP P) []) (k + 1000) = some (3, cE natV (P.getD k [])) := by rw [lkH_famI hkL, hLk]; unfold cE; rw [List.map_map]
    have f1 : hasK 55 (mentL (famC 1000 (LsP P))) = false := famC_ment (LsP P) 1000 (by omega)
    have f2 : hasK 55 (mentH (famH 1000 3 (LsP P) [])) = false := by rw [hasK_fam (by omega)]; rfl
    have f3 : killL (k + 1000) (famC 1000 (LsP P)) = (famC 1000 (LsP P)).set k .unk := famC_killI
    have f4 : killH (k + 1000) (famH 1000 3 (LsP P) []) = famX 1000 3 (LsP P) k [] := killH_famI
    have f5 : (famC 1000 (LsP P)).set k (.slo (k + 1000) 0 ((P.getD k []).length + 1) 1) = famC 1000 (LsP (P.set k (P.getD k [] ++ [i]))) := by
      rw [LsP_set, ← famC_set (n := (P.getD k []).length + 1) (by simp)]
    have f6 := fun j (hj : j < (LsP P).length) (hne : j ≠ k) => lkH_famXJ (b := 1000) (T := 3) (r := []) hj hne
    have hfx : ∀ H : Hp, (∀ j, 1000 ≤ j → lkH H j = if j = k + 1000 then some (3, cE natV (P.getD k []) ++ [.ext (.int .i64 (i : Int))]) else lkH (famX 1000 3 (LsP P) k []) j) → subHp (famH 1000 3 (LsP (P.set k (P.getD k [] ++ [i]))) []) H := fun H hH => subHp_fam (fun j hj => by
      have hj2 : j < (LsP P).length := by simpa [LsP] using hj
      have hkP : k < P.length := by rw [hG.lp]; exact hk
      rw [hH _ (by omega), LsP_at hj]
      by_cases e : j = k
      · subst e
        rw [if_pos rfl, getD_set hkP, if_pos rfl, List.map_append, List.map_append]
        unfold cE; rw [List.map_map]; rfl
      · rw [if_neg (by omega), f6 j hj2 e, LsP_at hj2, getD_set hkP, if_neg (fun h => e h.symm)]) trivial
    clear f6 hLk
    have hPset := setP_le hPl hPk (b := k) (i := i)
    have hG2 := hG.step (i := i) hk
    have er : i :: (List.range i).reverse = (List.range (i + 1)).reverse := by rw [List.range_succ, List.reverse_append]; rfl
    rw [er] at hG2
    clear er
    generalize hPe : P.getD k [] = pl at *
    refine Stop.go ?_
    (replace hb0 := true_and True); refine Go1.mk ?_; repeat' ((first | (with_reducible refine Go1.go ?_) | ((with_reducible first | refine brv_mk ?_ ?_ | refine gsplitD ?_ ?_ | refine gsplitG ?_ ?_) <;> intro h <;> (try simp only [Bool.not_eq_true', Bool.not_eq_false'] at h) <;> replace hb0 := h) | (refine And.intro ?_ ?_; (try simp only [sxO] at *); omega) | fail) <;> (try simp (maxSteps := 1000000) only [hb0, wi, c6, c7, fl, fa, fk, f1, f2, f3, f4, f5, killL_exts, hasK_app, List.set_set, List.length_set, cE_len, cE_ment, cE_kill, hasK_nil, mentL_ext, List.nil_append, Nat.mul_one, Nat.zero_add, ↓hold_pre, awayP, runOps, regK, step1, newK, genR, appR, obl, buildR, Value.cells, closeK, keepH, outV, retK, ret1, retC, RetV, Option.getD, runD, stepD, afterK, undef, simprocAttr, sxB, ↓sxD, sxE, sxTab]))
    exact ⟨L.length - (i + 1), beSt M1 u U m (i + 1) (p + 1) (P.set k (pl ++ [i])), by omega, le_sub ⟨rfl, rfl, rfl, rfl, rfl, trivial⟩ ⟨by simp [lkH], by simp [lkH], hfx _ (fun j hj => fam_lk hj (by omega) (by omega) (by omega))⟩ rfl rfl rfl ⟨.inl (show 7 ≤ k + 1000 by omega), .inl (show 7 ≤ 55 by omega), .inl (show 7 ≤ 31 by omega), .inl (show 7 ≤ 38 by omega), keepLt_famX (show 7 ≤ 1000 by omega) trivial⟩, i + 1, _, _, p + 1, rfl, by omega, by omega, hG2, hPset, rfl⟩
  obtain rfl : i = L.length := by omega
  have hDp : (List.range L.length).reverse.Perm (List.range L.length) := List.reverse_perm _
  have hen1 := giv_ends hok he hG hDp
  have hbn1 := giv_bnd hm1 hG hDp
  have hE1 : E.length = m := hG.le
  have hbq : bndQ L m = ((bndT L m : Nat) : Int) := by unfold bndQ; rw [if_pos he, Int.toNat_natCast]
  have d1 : decide ((L.length : Int) < (L.length : Int)) = false := by simp
  have hPb : ∀ q ∈ natI P, q.length < 1000000000000000000 := fun q hq => by
    obtain ⟨w, hw, rfl⟩ := List.mem_map.1 hq
    have := hPl w hw
    rw [List.length_map]; omega
  have hPn : (natI P).length = m := by unfold natI; rw [List.length_map, hG.lp]
  have r1 := hasK_end 38 (mentL (famC 1000 (LsP P)))
  have r0 : hasK 31 (mentL (famC 1000 (LsP P)) ++ [38]) = false := by
    rw [hasK_app, famC_ment (LsP P) 1000 (by omega)]; simp [hasK]
  have r2 := subH_fam1 (b := 1000) (T := 3) (Ls := LsP P) (O := 38)
  have r3 := dropH_fam1 (b := 1000) (T := 3) (Ls := LsP P) (O := 38) (x := (22, famC 1000 (LsP P))) (by omega)
  have r4 := newKeys_fam (b := 1000) (T := 3) (Ls := LsP P) (O := 38) (x := (22, famC 1000 (LsP P))) (by omega)
  have r5 : lkH (famH 1000 3 (LsP P) []) 31 = none := by rw [lkH_fam (by omega)]; rfl
  (replace hb0 := true_and True); refine Go1.mk ?_; repeat' ((first | (with_reducible refine Go1.go ?_) | ((with_reducible first | refine brv_mk ?_ ?_ | refine gsplitD ?_ ?_ | refine gsplitG ?_ ?_) <;> intro h <;> (try simp only [Bool.not_eq_true', Bool.not_eq_false'] at h) <;> replace hb0 := h) | (((with_reducible refine isCall (f := 24) ?_); refine callA_no (by simp [mentL, AV.ment, mentL_ext]) ?_; refine (Bound_ok hU hLb _ ?_))) | ((with_reducible refine isCall (f := 18) ?_); refine callA ?_) | ((with_reducible refine isCallS (f := 18) ?_); refine (Stop.mk ?_)) | (refine And.intro ?_ ?_; (try simp only [sxO] at *); omega) | fail) <;> (try simp (maxSteps := 1000000) only [hb0, beSt, d1, hU.one, hU.len, hU.sl, dropH_no, r0, r1, r2, hasK_nil, ↓hold_pre, awayP, runOps, regK, step1, newK, genR, appR, obl, buildR, Value.cells, closeK, keepH, outV, retK, ret1, retC, RetV, Option.getD, runD, stepD, afterK, undef, simprocAttr, sxB, ↓sxD, sxE, sxTab]))
  refine Stop.go (CallS.borFam (b := 1000) (Ls := LsP P) (l1 := [U]) (l2 := []) (by omega) hLP.symm (fun W M2 m2 hW => ?_))
  have m2 : Mem.le M1 M2 := m2
  have hW : LLF M1 M2 W (LsP P) := hW
  have hWl := hW.ll
  rw [LsP_natI] at hWl
  refine Ends_ok (hU.le m2) hLb hWl hPb (by omega) (fun V M3 m3 hV fV => ⟨fun j hj => rfl, fun M4 g1 g2 _ => Stop.mk ?_⟩)
  have g0 : Mem.le M1 M4 := g1
  clear g1
  rw [hen1] at hV
  have hV : IsL M3 intV64 V (E.map fun (x : Nat) => (x : Int)) := hV
  rw [hen1]
  have hV4 := hV.move fV g2
  have hU4 := hU.le g0
  clear hV hW hWl
  refine Stop.go ?_
  (replace hb0 := true_and True); refine Go1.mk ?_; repeat' ((first | (with_reducible refine Go1.go ?_) | ((with_reducible first | refine brv_mk ?_ ?_ | refine gsplitD ?_ ?_ | refine gsplitG ?_ ?_) <;> intro h <;> (try simp only [Bool.not_eq_true', Bool.not_eq_false'] at h) <;> replace hb0 := h) | (((with_reducible refine isCall (f := 13) ?_); refine callA_no (by simp [mentL, AV.ment, mentL_ext]) ?_; refine (Divide_ok hU4 hLb _ (fun M5 Z Q e m5 q1 hZ => Stop.mk ?_)))) | (refine And.intro ?_ ?_; (try simp only [sxO] at *); omega) | fail) <;> (try simp (maxSteps := 1000000) only [hb0, hU4.one, hV4.one, dropH_no, r0, r1, r2, r3, r4, r5, List.append_nil, List.nil_append, List.cons_append, famH_app, hasK_nil, ↓hold_pre, awayP, runOps, regK, step1, newK, genR, appR, obl, buildR, Value.cells, closeK, keepH, outV, retK, ret1, retC, RetV, Option.getD, runD, stepD, afterK, undef, simprocAttr, sxB, ↓sxD, sxE, sxTab]))
  have m5 : Mem.le M4 M5 := m5
  have q1 : divR L m allY Q e := q1
  have hZ : LLF M4 M5 Z (LsP Q) := hZ
  obtain ⟨rfl, Zs, F, hD⟩ := divD_of hok (by omega) hm1 hm8 q1
  have hen2 := giv_ends hok he hD.ok (div_perm hD)
  have hbn2 := giv_bnd hm1 hD.ok (div_perm hD)
  have hlate := div_late hD
  have hFs := giv_small hok (by omega) hD.ok (div_perm hD)
  have hF : F.length = m := hD.ok.le
  have hQ : Q.length = m := hD.ok.lp
  have hQp : Q.flatten.Perm (List.range L.length) := hD.ok.all.trans (div_perm hD)
  have hU5 := hU4.le m5
  have hV5 := hV4.le m5
  have hZl := hZ.ll
  have hZ1 := hZl.sl
  rw [show (LsP Q).length = m by unfold LsP; rw [List.length_map, hQ]] at hZ1
  obtain ⟨z1, z2, z3⟩ := hZ1
  have hZi := hZl
  rw [LsP_natI] at hZi
  have hQb : ∀ q ∈ natI Q, q.length < 1000000000000000000 := fun q hq => by
    obtain ⟨w, hw, rfl⟩ := List.mem_map.1 hq
    have := (divR_len q1).1 w hw
    rw [List.length_map]; omega
  have hQn : (natI Q).length = m := by unfold natI; rw [List.length_map, hQ]
  refine Stop.go ?_
  (replace hb0 := true_and True); refine Go1.mk ?_; repeat' ((first | (with_reducible refine Go1.go ?_) | ((with_reducible first | refine brv_mk ?_ ?_ | refine gsplitD ?_ ?_ | refine gsplitG ?_ ?_) <;> intro h <;> (try simp only [Bool.not_eq_true', Bool.not_eq_false'] at h) <;> replace hb0 := h) | (((with_reducible refine isCall (f := 18) ?_); refine callA_no (by simp [mentL, AV.ment, mentL_ext]) ?_; refine (Ends_ok hU5 hLb hZi hQb (by omega) (fun W2 M6 m6 hW2 _ => Stop.mk ?_)))) | (refine And.intro ?_ ?_; (try simp only [sxO] at *); omega) | fail) <;> (try simp (maxSteps := 1000000) only [hb0, hU5.one, hV5.one, z3, dropH_no, r0, r1, r2, r3, r4, r5, List.append_nil, List.nil_append, List.cons_append, famH_app, hasK_nil, ↓hold_pre, awayP, runOps, regK, step1, newK, genR, appR, obl, buildR, Value.cells, closeK, keepH, outV, retK, ret1, retC, RetV, Option.getD, runD, stepD, afterK, undef, simprocAttr, sxB, ↓sxD, sxE, sxTab]))
  have m6 : Mem.le M5 M6 := m6
  rw [hen2] at hW2
  have hW2 : IsL M6 intV64 W2 (F.map fun (x : Nat) => (x : Int)) := hW2
  rw [hen2]
  have hU6 := hU5.le m6
  have hV6 := hV5.le m6
  have hZ6 := hZl.le m6
  have hWn := hW2.natR
  have g1 := grI_nat E
  have g2 := grI_nat F
  have l1 : (E.map fun (x : Nat) => (x : Int)).length < 1000000 := by rw [List.length_map]; omega
  have l2 : (F.map fun (x : Nat) => (x : Int)).length < 1000000 := by rw [List.length_map]; omega
  have wl : slen W2 = m := by rw [hWn.len, hF]
  have e1 : decide (((maxL E : Nat) : Int) < ((bndT L m : Nat) : Int)) = false := by rw [decide_eq_false_iff_not]; omega
  have e2 : decide (((maxL F : Nat) : Int) < ((bndT L m : Nat) : Int)) = false := by rw [decide_eq_false_iff_not]; omega
  have e3 : decide ((m : Int) = (m : Int)) = true := by simp
  clear hV hV4 hV5 hU4 hU5 hen1 hen2 hZ hZl hZi
  refine Stop.go ?_
  (replace hb0 := true_and True); refine Go1.mk ?_; repeat' ((first | (with_reducible refine Go1.go ?_) | ((with_reducible first | refine brv_mk ?_ ?_ | refine gsplitD ?_ ?_ | refine gsplitG ?_ ?_) <;> intro h <;> (try simp only [Bool.not_eq_true', Bool.not_eq_false'] at h) <;> replace hb0 := h) | (((with_reducible refine isCall (f := 25) ?_); refine callA_no (by simp [mentL, AV.ment, mentL_ext]) ?_; refine (greatest_ok hV6 l1 ?_))) | (((with_reducible refine isCall (f := 25) ?_); refine callA_no (by simp [mentL, AV.ment, mentL_ext]) ?_; refine (greatest_ok hW2 l2 ?_))) | (refine And.intro ?_ ?_; (try simp only [sxO] at *); omega) | fail) <;> (try simp (maxSteps := 1000000) only [hb0, hV6.one, hWn.one, hWn.sl, wl, z1, z2, z3, he, hbq, g1, g2, e1, e2, e3, dropH_no, List.append_nil, List.nil_append, List.cons_append, hasK_nil, ↓hold_pre, awayP, runOps, regK, step1, newK, genR, appR, obl, buildR, Value.cells, closeK, keepH, outV, retK, ret1, retC, RetV, Option.getD, runD, stepD, afterK, undef, simprocAttr, sxB, ↓sxD, sxE, sxTab]))
  refine ⟨fun d z => ∃ i, d = m - i ∧ i ≤ m ∧ z = bo1 M6 U Z W2 m i, ⟨m, bo1 M6 U Z W2 m 0, le_sub ⟨rfl, rfl, rfl, rfl, rfl, trivial⟩ trivial rfl rfl rfl ⟨.inl (show 7 ≤ 38 by omega), keepLt_fam (show 7 ≤ 1000 by omega) ⟨.inl (show 7 ≤ 31 by omega), trivial⟩⟩, ⟨0, by omega, by omega, rfl⟩⟩, ?_⟩
  rintro d z ⟨i, rfl, hi, rfl⟩
  by_cases hlt : i < m
  case neg =>
    obtain rfl : i = m := by omega
    have d2 : decide ((i : Int) < (i : Int)) = false := by simp
    (replace hb0 := true_and True); refine Go1.mk ?_; repeat' ((first | (with_reducible refine Go1.go ?_) | ((with_reducible first | refine brv_mk ?_ ?_ | refine gsplitD ?_ ?_ | refine gsplitG ?_ ?_) <;> intro h <;> (try simp only [Bool.not_eq_true', Bool.not_eq_false'] at h) <;> replace hb0 := h) | (((with_reducible refine isCall (f := 16) ?_); refine callA_nil (by kernel_rfl) ?_; refine (known_ok (fun M7 m7 => Stop.mk ?_)))) | (refine And.intro ?_ ?_; (try simp only [sxO] at *); omega) | fail) <;> (try simp (maxSteps := 1000000) only [hb0, bo1, d2, hasK_nil, ↓hold_pre, awayP, runOps, regK, step1, newK, genR, appR, obl, buildR, Value.cells, closeK, keepH, outV, retK, ret1, retC, RetV, Option.getD, runD, stepD, afterK, undef, simprocAttr, sxB, ↓sxD, sxE, sxTab]))
    have hk := hK M7 (m1.trans (g0.trans (m5.trans (m6.trans m7))))
    refine Stop.go ?_
    (replace hb0 := true_and True); refine Go1.mk ?_; repeat' ((first | (with_reducible refine Go1.go ?_) | ((with_reducible first | refine brv_mk ?_ ?_ | refine gsplitD ?_ ?_ | refine gsplitG ?_ ?_) <;> intro h <;> (try simp only [Bool.not_eq_true', Bool.not_eq_false'] at h) <;> replace hb0 := h) | (refine And.intro ?_ ?_; (try simp only [sxO] at *); omega) | fail) <;> (try simp (maxSteps := 1000000) only [hb0, hasK_nil, ↓hold_pre, awayP, runOps, regK, step1, newK, genR, appR, obl, buildR, Value.cells, closeK, keepH, outV, retK, ret1, retC, RetV, Option.getD, runD, stepD, afterK, undef, simprocAttr, sxB, ↓sxD, sxE, sxTab]))
    exact hk
  have d2 : decide ((i : Int) < (m : Int)) = true := by rw [decide_eq_true_eq]; omega
  have b1 : (0 : Int) ≤ (i : Int) := by omega
  have b2 : (i : Int) < (m : Int) := by omega
  have wi : IntKind.i64.wrap ((i : Int) + 1) = ((i + 1 : Nat) : Int) := succ_i (by omega)
  (replace hb0 := true_and True); refine Go1.mk ?_; repeat' ((first | (with_reducible refine Go1.go ?_) | ((with_reducible first | refine brv_mk ?_ ?_ | refine gsplitD ?_ ?_ | refine gsplitG ?_ ?_) <;> intro h <;> (try simp only [Bool.not_eq_true', Bool.not_eq_false'] at h) <;> replace hb0 := h) | (refine And.intro ?_ ?_; (try simp only [sxO] at *); omega) | fail) <;> (try simp (maxSteps := 1000000) only [hb0, bo1, d2, hasK_nil, ↓hold_pre, awayP, runOps, regK, step1, newK, genR, appR, obl, buildR, Value.cells, closeK, keepH, outV, retK, ret1, retC, RetV, Option.getD, runD, stepD, afterK, undef, simprocAttr, sxB, ↓sxD, sxE, sxTab]))
  refine ⟨fun d z => ∃ k, d = m - k ∧ k ≤ m ∧ z = bo2 M6 U Z W2 m i k, ⟨m, bo2 M6 U Z W2 m i 0, le_sub ⟨rfl, rfl, rfl, rfl, rfl, rfl, trivial⟩ trivial rfl rfl rfl trivial, ⟨0, by omega, by omega, rfl⟩⟩, ?_⟩
  rintro d z ⟨k, rfl, hk, rfl⟩
  by_cases hkt : k < m
  case neg =>
    obtain rfl : k = m := by omega
    have d3 : decide ((k : Int) < (k : Int)) = false := by simp
    (replace hb0 := true_and True); refine Go1.mk ?_; repeat' ((first | (with_reducible refine Go1.go ?_) | ((with_reducible first | refine brv_mk ?_ ?_ | refine gsplitD ?_ ?_ | refine gsplitG ?_ ?_) <;> intro h <;> (try simp only [Bool.not_eq_true', Bool.not_eq_false'] at h) <;> replace hb0 := h) | (refine And.intro ?_ ?_; (try simp only [sxO] at *); omega) | fail) <;> (try simp (maxSteps := 1000000) only [hb0, bo2, d3, wi, hasK_nil, ↓hold_pre, awayP, runOps, regK, step1, newK, genR, appR, obl, buildR, Value.cells, closeK, keepH, outV, retK, ret1, retC, RetV, Option.getD, runD, stepD, afterK, undef, simprocAttr, sxB, ↓sxD, sxE, sxTab]))
    exact ⟨k - (i + 1), bo1 M6 U Z W2 k (i + 1), by omega, le_sub ⟨rfl, rfl, rfl, rfl, rfl, trivial⟩ trivial rfl rfl rfl trivial, i + 1, rfl, by omega, rfl⟩
  have d3 : decide ((k : Int) < (m : Int)) = true := by rw [decide_eq_true_eq]; omega
  have b3 : (0 : Int) ≤ (k : Int) := by omega
  have b4 : (k : Int) < (m : Int) := by omega
  have wk : IntKind.i64.wrap ((k : Int) + 1) = ((k + 1 : Nat) : Int) := succ_i (by omega)
  obtain ⟨x, x1, x2, x3⟩ := hZ6.atN (P := Try.prog) (Tt := 22) tk22 tz22 (show i < Q.length by omega)
  cases hql : (Q.getD i []).getLast? with
  | none =>
    rw [List.getLast?_eq_none_iff] at hql
    rw [hql] at x2
    have d4 : decide ((0 : Int) < (([] : List Nat).length : Int)) = false := by simp
    (replace hb0 := true_and True); refine Go1.mk ?_; repeat' ((first | (with_reducible refine Go1.go ?_) | ((with_reducible first | refine brv_mk ?_ ?_ | refine gsplitD ?_ ?_ | refine gsplitG ?_ ?_) <;> intro h <;> (try simp only [Bool.not_eq_true', Bool.not_eq_false'] at h) <;> replace hb0 := h) | ((with_reducible refine isDraw [some 128, some 129, some 130, some 131, some 132, some 133, some 134, some 135, some 136, some 137, some 138, some 139, some 140, some 141, some 142, some 143, some 144, some 145, some 146, some 147, some 148, some 149, some 150, some 151, some 152, some 153] (by decide) ?_); refine draw_rule [(0, []), (1, []), (2, []), (3, []), (4, []), (5, []), (6, []), (7, [6]), (8, [6]), (9, [6]), (10, [6]), (11, [6]), (12, [6, 11]), (13, [6, 11]), (14, [6]), (15, [6]), (16, [6]), (17, [6]), (18, [6]), (19, []), (20, [6, 11, 15, 18]), (21, [6, 11, 15, 18]), (22, [6, 11, 15, 18]), (23, [6, 11, 15, 18]), (24, []), (25, [])] [[], [0], [0, 1], [0, 1, 2], [0, 1, 2], [0, 1, 2, 3, 4], [0, 1, 2, 3, 4, 5], [0, 1, 2], [0, 1, 2], [0, 1, 2], [0, 1, 2, 8, 9], [0, 1, 2, 8, 9, 10], [0, 1, 2], [0, 1, 2, 12], [0, 1, 2, 8, 9, 10, 11, 12, 13], [0, 1, 2, 8, 9, 10, 11, 12, 13, 14], [0, 1, 2, 7, 8, 9, 10, 11, 12, 13, 14, 15], [0, 1, 2, 7, 8, 9, 10, 11, 12, 13, 14, 15, 16], [0, 1, 2, 7, 8, 9, 10, 11, 12, 13, 14, 15, 16, 17], [0, 1, 2, 3, 4, 5, 6, 7, 8, 9, 10, 11, 12, 13, 14, 15, 16, 17, 18], [0, 1, 2], [0, 1, 2], [0, 1, 2, 20, 21], [0, 1, 2, 20, 21, 22], [0, 1, 2, 3, 4, 5, 6, 7, 8, 9, 10, 11, 12, 13, 14, 15, 16, 17, 18, 19, 20, 21, 22, 23], [0, 1, 2, 3, 4, 5, 6, 7, 8, 9, 10, 11, 12, 13, 14, 15, 16, 17, 18, 19, 20, 21, 22, 23, 24]] [131, 132, 133, 134, 135, 136, 137, 138, 139, 140, 141, 142, 143, 144, 145, 146, 147, 148, 149, 150, 151] [] (by kernel_rfl) (by kernel_rfl) (by kernel_rfl) (by kernel_rfl) (by exact trivial) ?_) | (refine And.intro ?_ ?_; (try simp only [sxO] at *); omega) | fail) <;> (try simp (maxSteps := 1000000) only [hb0, bo2, d3, d4, b1, b2, b3, b4, z1, z2, z3, x1, x2.sl, x2.len, x2.one, x3, wk, hasK_nil, ↓hold_pre, awayP, runOps, regK, step1, newK, genR, appR, obl, buildR, Value.cells, closeK, keepH, outV, retK, ret1, retC, RetV, Option.getD, runD, stepD, afterK, undef, simprocAttr, sxB, ↓sxD, sxE, sxTab]))
    exact ⟨m - (k + 1), bo2 M6 U Z W2 m i (k + 1), by omega, le_sub ⟨rfl, rfl, rfl, rfl, rfl, rfl, trivial⟩ trivial rfl rfl rfl trivial, k + 1, rfl, by omega, rfl⟩
  | some j =>
    have hlt2 := hlate i k hlt hkt j hql
    rw [List.getLast?_eq_getElem?] at hql
    have hnp : (Q.getD i []).length - 1 < (Q.getD i []).length := (List.getElem?_eq_some_iff.1 hql).1
    have hjj : (Q.getD i [])[(Q.getD i []).length - 1] = j := by
      rw [List.getElem?_eq_getElem hnp] at hql
      exact Option.some.inj hql
    have hjm : j ∈ Q.getD i [] := List.mem_of_getElem? hql
    have hQm : Q.getD i [] ∈ Q := by rw [List.getD_eq_getElem?_getD, List.getElem?_eq_getElem (by omega)]; exact List.getElem_mem _
    have hjL := List.mem_range.1 (hQp.subset (List.mem_flatten.2 ⟨_, hQm, hjm⟩))
    have hq31 := (divR_len q1).1 _ hQm
    have x4 := x2.at (P := Try.prog) (T := 3) tk3 tz3 hnp
    rw [hjj] at x4
    have x4 : lookM Try.prog 3 M6 (elemP x 1 ((Q.getD i []).length - 1)) = some (.int .i64 ((j : Nat) : Int)) := x4
    have x5 := x2.len
    have x6 := x2.nn hnp
    have hci := (hok _ (List.getElem_mem hjL)).c1
    have hcj := (hok _ (List.getElem_mem hjL)).c2
    have hcn : cosN L j ≤ 100 := by unfold cosN; rw [cosI_in hjL]; omega
    have uat := hU6.atF (P := Try.prog) (T := 3) (fun _ => rfl) tk3 tz3 hjL (o := 3) (v := .int .i64 L[j].cost) rfl
    rw [cosN_cost hjL (by rw [cosI_in hjL]; exact hci)] at uat
    have p1 := hU6.pt hjL
    have unn := hU6.nn hjL
    have wnn := hWn.nn (show i < F.length by omega)
    have wi1 := hWn.at (P := Try.prog) (T := 3) tk3 tz3 (show i < F.length by omega)
    have wk1 := hWn.at (P := Try.prog) (T := 3) tk3 tz3 (show k < F.length by omega)
    have ei : F.getD i 0 = F[i]'(by omega) := by rw [List.getD_eq_getElem?_getD, List.getElem?_eq_getElem (by omega)]; rfl
    have ek : F.getD k 0 = F[k]'(by omega) := by rw [List.getD_eq_getElem?_getD, List.getElem?_eq_getElem (by omega)]; rfl
    rw [← ei] at wi1
    rw [← ek] at wk1
    have wi1 : lookM Try.prog 3 M6 (elemP W2 1 i) = some (.int .i64 ((F.getD i 0 : Nat) : Int)) := wi1
    have wk1 : lookM Try.prog 3 M6 (elemP W2 1 k) = some (.int .i64 ((F.getD k 0 : Nat) : Int)) := wk1
    have fs1 := hFs i
    have fs2 := hFs k
    clear ei ek hjj hql
    generalize (Q.getD i []).length = nq at *
    generalize F.getD i 0 = fi at *
    generalize F.getD k 0 = fk at *
    generalize cosN L j = cj at *
    have j1 : (0 : Int) ≤ (j : Int) := by omega
    have j2 : (j : Int) < (L.length : Int) := by omega
    have n1 : (0 : Int) ≤ ((nq - 1 : Nat) : Int) := by omega
    have n2 : ((nq - 1 : Nat) : Int) < (nq : Int) := by omega
    have wn : IntKind.i64.wrap ((nq : Int) - 1) = ((nq - 1 : Nat) : Int) := by rw [wrap_id (by omega) (by omega)]; omega
    have wc : IntKind.i64.wrap ((fi : Int) - (cj : Int)) = (fi : Int) - (cj : Int) := wrap_id (by omega) (by omega)
    have d4 : decide ((0 : Int) < (nq : Int)) = true := by rw [decide_eq_true_eq]; omega
    have d5 : decide ((fk : Int) < (fi : Int) - (cj : Int)) = false := by rw [decide_eq_false_iff_not]; omega
    (replace hb0 := true_and True); refine Go1.mk ?_; repeat' ((first | (with_reducible refine Go1.go ?_) | ((with_reducible first | refine brv_mk ?_ ?_ | refine gsplitD ?_ ?_ | refine gsplitG ?_ ?_) <;> intro h <;> (try simp only [Bool.not_eq_true', Bool.not_eq_false'] at h) <;> replace hb0 := h) | ((with_reducible refine isDraw [some 128, some 129, some 130, some 131, some 132, some 133, some 134, some 135, some 136, some 137, some 138, some 139, some 140, some 141, some 142, some 143, some 144, some 145, some 146, some 147, some 148, some 149, some 150, some 151, some 152, some 153] (by decide) ?_); refine draw_rule [(0, []), (1, []), (2, []), (3, []), (4, []), (5, []), (6, []), (7, [6]), (8, [6]), (9, [6]), (10, [6]), (11, [6]), (12, [6, 11]), (13, [6, 11]), (14, [6]), (15, [6]), (16, [6]), (17, [6]), (18, [6]), (19, []), (20, [6, 11, 15, 18]), (21, [6, 11, 15, 18]), (22, [6, 11, 15, 18]), (23, [6, 11, 15, 18]), (24, []), (25, [])] [[], [0], [0, 1], [0, 1, 2], [0, 1, 2], [0, 1, 2, 3, 4], [0, 1, 2, 3, 4, 5], [0, 1, 2], [0, 1, 2], [0, 1, 2], [0, 1, 2, 8, 9], [0, 1, 2, 8, 9, 10], [0, 1, 2], [0, 1, 2, 12], [0, 1, 2, 8, 9, 10, 11, 12, 13], [0, 1, 2, 8, 9, 10, 11, 12, 13, 14], [0, 1, 2, 7, 8, 9, 10, 11, 12, 13, 14, 15], [0, 1, 2, 7, 8, 9, 10, 11, 12, 13, 14, 15, 16], [0, 1, 2, 7, 8, 9, 10, 11, 12, 13, 14, 15, 16, 17], [0, 1, 2, 3, 4, 5, 6, 7, 8, 9, 10, 11, 12, 13, 14, 15, 16, 17, 18], [0, 1, 2], [0, 1, 2], [0, 1, 2, 20, 21], [0, 1, 2, 20, 21, 22], [0, 1, 2, 3, 4, 5, 6, 7, 8, 9, 10, 11, 12, 13, 14, 15, 16, 17, 18, 19, 20, 21, 22, 23], [0, 1, 2, 3, 4, 5, 6, 7, 8, 9, 10, 11, 12, 13, 14, 15, 16, 17, 18, 19, 20, 21, 22, 23, 24]] [131, 132, 133, 134, 135, 136, 137, 138, 139, 140, 141, 142, 143, 144, 145, 146, 147, 148, 149, 150, 151] [] (by kernel_rfl) (by kernel_rfl) (by kernel_rfl) (by kernel_rfl) (by exact trivial) ?_) | (refine And.intro ?_ ?_; (try simp only [sxO] at *); omega) | fail) <;> (try simp (maxSteps := 1000000) only [hb0, bo2, d3, d4, d5, b1, b2, b3, b4, j1, j2, n1, n2, wn, wc, z1, z2, z3, x1, x2.sl, x5, x6, x2.one, x3, x4, hU6.one, hU6.sl, hU6.len, unn, p1, uat, hWn.one, hWn.sl, wl, wnn, wi1, wk1, wk, hasK_nil, ↓hold_pre, awayP, runOps, regK, step1, newK, genR, appR, obl, buildR, Value.cells, closeK, keepH, outV, retK, ret1, retC, RetV, Option.getD, runD, stepD, afterK, undef, simprocAttr, sxB, ↓sxD, sxE, sxTab]))
    exact ⟨m - (k + 1), bo2 M6 U Z W2 m i (k + 1), by omega, le_sub ⟨rfl, rfl, rfl, rfl, rfl, rfl, trivial⟩ trivial rfl rfl rfl trivial, k + 1, rfl, by omega, rfl⟩
end
end Go.Proofs.Ytgkfmlgfmcpebaa.Sx
