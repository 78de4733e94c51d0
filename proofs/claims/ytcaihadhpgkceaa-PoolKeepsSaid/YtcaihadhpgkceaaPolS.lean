import Derived.Test.YtcaihadhpgkceaaPolF
import Derived.RangeFuncNested
import Derived.RangeFuncBound
import Derived.RangeFuncCalls
import Derived.RangeFuncLeaves
import Derived.RangeFuncBox
import Derived.Shelf.Abstract
import Derived.Shelf.RegionOpen
import Derived.WalkKit
import Derived.OwnWalkIn
import Derived.TacticsInMore
import Derived.LoopNIn
import Derived.LoopIn
import Derived.Maps.AppendAt
import Derived.Stop.RegionWithIn
/- The pool: the hypotheses (a range over a function: by the kit's laws, inside the wide fence). -/
namespace Go.Proofs.Ytcaihadhpgkceaa.Sx
open Go Go.RowKit Go.Shelf
set_option linter.unusedVariables false
set_option linter.unusedSimpArgs false
set_option maxRecDepth 100000
attribute [local go_sem] Oper.semAt_some
theorem CallS.value {P : Program} {f : FuncId} {args : List Value} {v : Value} {M : Mem} {w : World} (h : ∀ K : AV → Hp → Mem → Prop, K (.ext v) [] M → CallS P f (args.map .ext) [] M [] K) (hM : Sub M w) : Calls P f args.toArray w fun e w' => e = .returned v ∧ Below w.heap.size w w' := by
  refine (h (fun r H' M' => r = .ext v ∧ H' = [] ∧ M' = M) ⟨rfl, rfl, rfl⟩ (fun _ => none) w args ⟨fun k T cs b hk => by simp [lkH] at hk, fun k T cs hk => by simp [lkH] at hk, fun k k' b b' hk => by simp [lkH] at hk, hM⟩ (isL_ext args)).mono fun e w' hall => ?_
  obtain ⟨r, v', H', M'', ρ', e1, ⟨rfl, _, _⟩, hL⟩ := hall
  have hr : r = v := hL.is
  subst hr
  exact ⟨e1, ⟨hL.os, hL.tape, hL.output, hL.size, fun i hi => hL.block i hi fun j y hj => by simp [lkH] at hj⟩⟩
/-- the sets with at least one and at most so many commits, below k -/
def hypP (most s : Nat) : Bool := decide (1 ≤ s) && decide (ones s 8 ≤ most)
def hypTo (most k : Nat) : List Nat := (List.range k).filter (hypP most)
def hyps (n most : Nat) : List Nat := hypTo most (2 ^ n)
theorem hypTo_hit {most k : Nat} (h : hypP most k = true) : hypTo most (k + 1) = hypTo most k ++ [k] := by simp [hypTo, List.range_succ, h]
theorem hypTo_miss {most k : Nat} (h : hypP most k = false) : hypTo most (k + 1) = hypTo most k := by simp [hypTo, List.range_succ, h]
theorem hypTo_len (most k : Nat) : (hypTo most k).length ≤ k := by
  have := List.length_filter_le (hypP most) (List.range k)
  rw [List.length_range] at this; exact this
theorem hypTo_one (most : Nat) : hypTo most 1 = [] := rfl
theorem onesCount_calls (x : Nat) (hx : x < 256) (w : World) : Calls Try.prog 43 #[.int .u64 (x : Int)] w fun e w' => e = .returned (.int .i64 ((ones x 8 : Nat) : Int)) ∧ Below w.heap.size w w' :=
  CallS.value (args := [.int .u64 (x : Int)]) (M := fun _ => none) (fun K hK => onesCount_ok x hx hK) (fun b o h => by cases h)
theorem below_grown {w w' : World} (h : Below w.heap.size w w') : w.grownBy w' none := ⟨h.os, h.tape, h.output, h.size, fun k hk _ => h.block k hk⟩
/-- what a round keeps: the two boxes that the iterator reads -/
structure KpB (Bn Bm : Nat) (W W' : World) : Prop where
  size : W.heap.size ≤ W'.heap.size
  n : W'.heap[Bn]? = W.heap[Bn]?
  m : W'.heap[Bm]? = W.heap[Bm]?
theorem KpB.cB {Bn Bm : Nat} {W W' : World} (h : KpB Bn Bm W W') : W'.cell? ⟨Bn, 0, none⟩ = W.cell? ⟨Bn, 0, none⟩ := World.cell?_of_block (a := ⟨Bn, 0, none⟩) h.n
theorem KpB.cM {Bn Bm : Nat} {W W' : World} (h : KpB Bn Bm W W') : W'.cell? ⟨Bm, 0, none⟩ = W.cell? ⟨Bm, 0, none⟩ := World.cell?_of_block (a := ⟨Bm, 0, none⟩) h.m
theorem KpB.trans {Bn Bm : Nat} {A B C : World} (h : KpB Bn Bm A B) (k : KpB Bn Bm B C) : KpB Bn Bm A C := ⟨Nat.le_trans h.size k.size, k.n.trans h.n, k.m.trans h.m⟩
theorem KpB.put {Bn Bm : Nat} (W : World) (l : Nat) (o' : Obj) (h1 : Bn < l) (h2 : Bm < l) : KpB Bn Bm W (W.putObj l o') :=
  have g := grownBy_putObj' W l o'
  ⟨g.size, World.putObj_heap_other (by omega), World.putObj_heap_other (by omega)⟩
theorem wrap64_nat {n : Nat} (h : n < 2 ^ 63) : wrap64 (n : Int) = (n : Int) := by
  unfold wrap64
  omega
theorem cellB {B : Nat} {v : Value} {w w1 : World} (h : Below (World.drew w).heap.size (World.drew w) w1) (hc : w.cell? ⟨B, 0, none⟩ = some v) : w1.cell? ⟨B, 0, none⟩ = some v := by
  have hlt : B < w.heap.size := by
    obtain ⟨o, ho, _⟩ := cells_of_cell hc
    exact (Array.getElem?_eq_some_iff.1 ho).1
  have := World.cell?_of_block (w := World.drew w) (w' := w1) (a := ⟨B, 0, none⟩) (h.block B hlt)
  rw [this]; exact hc
theorem grownD {w w1 : World} (h : Below (World.drew w).heap.size (World.drew w) w1) : w.grownBy w1 none := ⟨h.os, h.tape, h.output, h.size, fun k hk _ => h.block k hk⟩
set_option maxHeartbeats 4000000 in
theorem sets1_in (n : Nat) (hn : 1 ≤ n) (l Bn Bm N most : Nat) (hN : N ≤ 8) (J Jx : List Nat → World → Prop)
    (hY : ∀ pre x W, J pre W → pre.length < 256 → YieldAt Fence.wide (n - 1) Try.prog l #[.int .i64 ((x : Nat) : Int)] W fun e W' =>
      (e = .returned (.bool true) ∧ J (pre ++ [x]) W' ∧ KpB Bn Bm W W') ∨ (e = .returned (.bool false) ∧ Jx (pre ++ [x]) W'))
    (W : World) (hJ : AbidesFrom W.heap.size J) (hBn : W.cell? ⟨Bn, 0, none⟩ = some (.int .i64 (N : Int))) (hBm : W.cell? ⟨Bm, 0, none⟩ = some (.int .i64 (most : Int))) (h0 : J [] W) :
    CallsIn Fence.wide n Try.prog 42 #[.func (.yield l) #[] #[], .pointer (some ⟨Bn, 0, none⟩), .pointer (some ⟨Bm, 0, none⟩)] W fun e W' => (∃ v, e = .returned v) ∧
      ((∃ ys, ys = hyps N most ∧ J ys W') ∨ (∃ pre, True ∧ Jx pre W')) := by
  obtain ⟨T, hT⟩ : ∃ T : Nat, T = 2 ^ N := ⟨_, rfl⟩
  have hT2 : T ≤ 256 := by rw [hT]; exact Nat.pow_le_pow_right (n := 2) (by decide) hN
  have hT1 : 1 ≤ T := by rw [hT]; exact Nat.one_le_two_pow
  have hTi : (2 : Int) ^ N = (T : Int) := by rw [hT]; simp
  have hyd : hyps N most = hypTo most T := by rw [hT]; rfl
  clear hT
  have hpw : wrap64 ((2 : Int) ^ N) = (T : Int) := by rw [hTi]; exact wrap64_nat (by omega)
  have hwT : wrap64 (T : Int) = (T : Int) := wrap64_nat (by omega)
  have hws : ∀ s : Nat, s ≤ T → wrap64 ((s : Int) + 1) = ((s + 1 : Nat) : Int) := fun s h => wrap64_nat (n := s + 1) (by omega)
  have hsl : ∀ s : Nat, s < T → decide ((s : Int) < wrap64 ((2 : Int) ^ N)) = true := fun s h => by rw [hpw]; simp only [decide_eq_true_eq]; omega
  have hsf : ∀ s : Nat, s = T → decide ((s : Int) < wrap64 ((2 : Int) ^ N)) = false := fun s h => by rw [hpw]; simp only [decide_eq_false_iff_not]; omega
  have hsm : ∀ s : Nat, s < T → s < 256 := fun s h => by omega
  have hlen : ∀ s : Nat, s < T → (hypTo most s).length < 256 := fun s h => by have := hypTo_len most s; omega
  have hwu : ∀ s : Nat, s < T → IntKind.u64.wrap (s : Int) = (s : Int) := fun s h => by rw [IntKind.wrap_u64]; omega
  have hph : ∀ s : Nat, 1 ≤ s → ones s 8 ≤ most → hypP most s = true := fun s h h' => by simp [hypP, h, h']
  have hpm : ∀ s : Nat, ¬ ones s 8 ≤ most → hypP most s = false := fun s h => by simp [hypP, h]
  have hms : ∀ s : Nat, s < T → T - (intOf (.int .i64 ((s + 1 : Nat) : Int))).toNat < T - (intOf (.int .i64 (s : Int))).toNat := fun s h => by simp only [intOf, Int.toNat_natCast]; omega
  have hgt : ∀ s : Nat, ones s 8 ≤ most → decide (((ones s 8 : Nat) : Int) ≤ (most : Int)) = true := fun s h => by simp; omega
  have hgf : ∀ s : Nat, ¬ ones s 8 ≤ most → decide (((ones s 8 : Nat) : Int) ≤ (most : Int)) = false := fun s h => by simp; omega
  clear hpw hTi hwT
  refine callsIn_of_wp Try.func42 rfl trivial ?_ rfl
  simp only [Try.ntmps42, List.size_toArray, List.length_cons, List.length_nil, Nat.reduceAdd, Nat.reduceSub, Array.replicate_succ, Array.replicate_zero, List.push_toArray, List.append_toArray, List.nil_append, List.cons_append]
  gi_wp2
  gi_loopw [4] (fun p wr => ∃ s : Nat, p = .int .i64 (s : Int) ∧ 1 ≤ s ∧ s ≤ T ∧ wr.cell? ⟨Bn, 0, none⟩ = some (.int .i64 (N : Int)) ∧ wr.cell? ⟨Bm, 0, none⟩ = some (.int .i64 (most : Int)) ∧ J (hypTo most s) wr)
    (fun p _ => T - (intOf p).toNat)
  case atStart =>
    exact ⟨1, rfl, Nat.le_refl 1, hT1, hBn, hBm, h0⟩
  case round =>
    obtain ⟨s, rfl, h1, h2, hwB, hwM, hJs⟩ := hrel
    have hws := hws s h2
    by_cases hlt : s < T
    · have hlt2 := hsl s hlt
      gi_wp2
      by_cases hc : ones s 8 ≤ most
      · have hg := hgt s hc
        refine wpIn_region_any (by kernel_rfl) ?_
        change wpAnyIn _ _ _ _ _ _ _ _ _ (World.drew _)
        refine wpAnyIn_take (i := 0) (v := ?_) rfl rfl (by kernel_rfl) (by kernel_rfl) (by kernel_rfl) (fun _ _ _ h => h) ⟨Or.inl ⟨by rfl, ?_⟩, fun _ => rfl⟩ ?_
        rotate_left
        · intro w; go_simp; with_reducible rfl
        refine wpAnyIn_take (i := 1) (v := ?_) rfl rfl (by kernel_rfl) (by kernel_rfl) (by kernel_rfl) (fun _ _ _ h => h) ⟨Or.inl ⟨by rfl, ?_⟩, fun _ => rfl⟩ ?_
        rotate_left
        · intro w; go_simp; with_reducible rfl
        refine wpAnyIn_ready (rs := [2, 3]) (by kernel_rfl) (by simp) ?_
        refine AllReadyIn.cons rfl (fun K hK => ?_) (AllReadyIn.cons rfl (fun K hK => ?_) AllReadyIn.nil)
        · go_simp
          refine ⟨trivial, ?_⟩
          refine (callsIn_wide.2 (onesCount_calls s (hsm s hlt) _)).mono ?_
          rintro e w1 ⟨rfl, hB1⟩
          dsimp only
          refine hK _ _ ?_
          clear hK K
          have cM1 := cellB hB1 hwM
          have cB1 := cellB hB1 hwB
          have hJ1 : J (hypTo most s) w1 := hJ _ wr w1 none hJs (grownD hB1) (fun r e => by cases e)
          have hn1 : True := trivial
          refine wpAnyIn_ready (rs := [3]) (by kernel_rfl) (by simp) ?_
          refine AllReadyIn.cons rfl (fun K hK => ?_) AllReadyIn.nil
          go_simp
          refine hK _ _ ?_
          clear hK K
          refine wpAnyIn_ready (rs := [4]) (by kernel_rfl) (by simp) ?_
          refine AllReadyIn.cons rfl (fun K hK => ?_) AllReadyIn.nil
          go_simp
          refine hK _ _ ?_
          clear hK K
          refine wpAnyIn_ready (rs := [5]) (by kernel_rfl) (by simp) ?_
          refine AllReadyIn.cons rfl (fun K hK => ?_) AllReadyIn.nil
          go_simp
          refine hK _ _ ?_
          clear hK K
          refine wpAnyIn_take (i := 6) (v := ?_) rfl rfl (by kernel_rfl) (by kernel_rfl) (by kernel_rfl) (fun _ _ _ h => h) ⟨Or.inl ⟨by rfl, ?_⟩, fun _ => rfl⟩ ?_
          rotate_left
          · intro w; go_simp; with_reducible rfl
          refine wpAnyIn_ready (rs := [7]) (by kernel_rfl) (by simp) ?_
          refine AllReadyIn.cons rfl (fun K hK => ?_) AllReadyIn.nil
          go_simp
          refine hK _ _ ?_
          clear hK K
          obtain ⟨fn, tmps, assign, body, hy, hR⟩ := hY _ s w1 hJ1 (hlen s hlt)
          refine wpAnyIn_ready (rs := [8]) (by kernel_rfl) (by simp) ?_
          refine AllReadyIn.cons rfl (fun K hK => ?_) AllReadyIn.nil
          go_simp
          refine hR.mono ?_
          rintro e W3 (⟨rfl, hJ3, hk3⟩ | ⟨rfl, hJx3⟩)
          · dsimp only
            refine hK _ _ ?_
            clear hK K
            refine wpAnyIn_ready (rs := [9]) (by kernel_rfl) (by simp) ?_
            refine AllReadyIn.cons rfl (fun K hK => ?_) AllReadyIn.nil
            go_simp
            refine hK _ _ ?_
            clear hK K
            refine wpAnyIn_ready (rs := [10]) (by kernel_rfl) (by simp) ?_
            refine AllReadyIn.cons rfl (fun K hK => ?_) AllReadyIn.nil
            go_simp
            refine hK _ _ ?_
            clear hK K
            refine wpAnyIn_done (by kernel_rfl) ?_ _
            have cB3 := hk3.cB.trans cB1
            have cM3 := hk3.cM.trans cM1
            rw [← hypTo_hit (hph s h1 hc)] at hJ3
            have m1 := hms s hlt
            clear hsl hsf hsm hlen hgt hgf hph hpm hms hwu hY hJ hyd
            gi_wp2
            exact ⟨⟨s + 1, rfl, Nat.le_succ_of_le h1, hlt, cB3, cM3, hJ3⟩, m1⟩
          · dsimp only
            refine hK _ _ ?_
            clear hK K
            refine wpAnyIn_ready (rs := [9]) (by kernel_rfl) (by simp) ?_
            refine AllReadyIn.cons rfl (fun K hK => ?_) AllReadyIn.nil
            go_simp
            refine hK _ _ ?_
            clear hK K
            refine wpAnyIn_ready (rs := [10]) (by kernel_rfl) (by simp) ?_
            refine AllReadyIn.cons rfl (fun K hK => ?_) AllReadyIn.nil
            go_simp
            refine hK _ _ ?_
            clear hK K
            refine wpAnyIn_done (by kernel_rfl) ?_ _
            clear hsl hsf hsm hlen hgt hgf hph hpm hms hwu hY hJ hyd
            gi_wp2
            refine bodyPost_ret (results_none rfl _ _ _) rfl ?_
            exact ⟨⟨_, rfl⟩, .inr ⟨_, trivial, hJx3⟩⟩
        · go_simp
          refine hK _ _ ?_
          clear hK K
          refine wpAnyIn_ready (rs := [2]) (by kernel_rfl) (by simp) ?_
          refine AllReadyIn.cons rfl (fun K hK => ?_) AllReadyIn.nil
          go_simp
          refine ⟨trivial, ?_⟩
          refine (callsIn_wide.2 (onesCount_calls s (hsm s hlt) _)).mono ?_
          rintro e w1 ⟨rfl, hB1⟩
          dsimp only
          refine hK _ _ ?_
          clear hK K
          have cM1 := cellB hB1 hwM
          have cB1 := cellB hB1 hwB
          have hJ1 : J (hypTo most s) w1 := hJ _ wr w1 none hJs (grownD hB1) (fun r e => by cases e)
          have hn1 : True := trivial
          refine wpAnyIn_ready (rs := [4]) (by kernel_rfl) (by simp) ?_
          refine AllReadyIn.cons rfl (fun K hK => ?_) AllReadyIn.nil
          go_simp
          refine hK _ _ ?_
          clear hK K
          refine wpAnyIn_ready (rs := [5]) (by kernel_rfl) (by simp) ?_
          refine AllReadyIn.cons rfl (fun K hK => ?_) AllReadyIn.nil
          go_simp
          refine hK _ _ ?_
          clear hK K
          refine wpAnyIn_take (i := 6) (v := ?_) rfl rfl (by kernel_rfl) (by kernel_rfl) (by kernel_rfl) (fun _ _ _ h => h) ⟨Or.inl ⟨by rfl, ?_⟩, fun _ => rfl⟩ ?_
          rotate_left
          · intro w; go_simp; with_reducible rfl
          refine wpAnyIn_ready (rs := [7]) (by kernel_rfl) (by simp) ?_
          refine AllReadyIn.cons rfl (fun K hK => ?_) AllReadyIn.nil
          go_simp
          refine hK _ _ ?_
          clear hK K
          obtain ⟨fn, tmps, assign, body, hy, hR⟩ := hY _ s w1 hJ1 (hlen s hlt)
          refine wpAnyIn_ready (rs := [8]) (by kernel_rfl) (by simp) ?_
          refine AllReadyIn.cons rfl (fun K hK => ?_) AllReadyIn.nil
          go_simp
          refine hR.mono ?_
          rintro e W3 (⟨rfl, hJ3, hk3⟩ | ⟨rfl, hJx3⟩)
          · dsimp only
            refine hK _ _ ?_
            clear hK K
            refine wpAnyIn_ready (rs := [9]) (by kernel_rfl) (by simp) ?_
            refine AllReadyIn.cons rfl (fun K hK => ?_) AllReadyIn.nil
            go_simp
            refine hK _ _ ?_
            clear hK K
            refine wpAnyIn_ready (rs := [10]) (by kernel_rfl) (by simp) ?_
            refine AllReadyIn.cons rfl (fun K hK => ?_) AllReadyIn.nil
            go_simp
            refine hK _ _ ?_
            clear hK K
            refine wpAnyIn_done (by kernel_rfl) ?_ _
            have cB3 := hk3.cB.trans cB1
            have cM3 := hk3.cM.trans cM1
            rw [← hypTo_hit (hph s h1 hc)] at hJ3
            have m1 := hms s hlt
            clear hsl hsf hsm hlen hgt hgf hph hpm hms hwu hY hJ hyd
            gi_wp2
            exact ⟨⟨s + 1, rfl, Nat.le_succ_of_le h1, hlt, cB3, cM3, hJ3⟩, m1⟩
          · dsimp only
            refine hK _ _ ?_
            clear hK K
            refine wpAnyIn_ready (rs := [9]) (by kernel_rfl) (by simp) ?_
            refine AllReadyIn.cons rfl (fun K hK => ?_) AllReadyIn.nil
            go_simp
            refine hK _ _ ?_
            clear hK K
            refine wpAnyIn_ready (rs := [10]) (by kernel_rfl) (by simp) ?_
            refine AllReadyIn.cons rfl (fun K hK => ?_) AllReadyIn.nil
            go_simp
            refine hK _ _ ?_
            clear hK K
            refine wpAnyIn_done (by kernel_rfl) ?_ _
            clear hsl hsf hsm hlen hgt hgf hph hpm hms hwu hY hJ hyd
            gi_wp2
            refine bodyPost_ret (results_none rfl _ _ _) rfl ?_
            exact ⟨⟨_, rfl⟩, .inr ⟨_, trivial, hJx3⟩⟩
      · have hg := hgf s hc
        refine wpIn_region_any (by kernel_rfl) ?_
        change wpAnyIn _ _ _ _ _ _ _ _ _ (World.drew _)
        refine wpAnyIn_take (i := 0) (v := ?_) rfl rfl (by kernel_rfl) (by kernel_rfl) (by kernel_rfl) (fun _ _ _ h => h) ⟨Or.inl ⟨by rfl, ?_⟩, fun _ => rfl⟩ ?_
        rotate_left
        · intro w; go_simp; with_reducible rfl
        refine wpAnyIn_take (i := 1) (v := ?_) rfl rfl (by kernel_rfl) (by kernel_rfl) (by kernel_rfl) (fun _ _ _ h => h) ⟨Or.inl ⟨by rfl, ?_⟩, fun _ => rfl⟩ ?_
        rotate_left
        · intro w; go_simp; with_reducible rfl
        refine wpAnyIn_ready (rs := [2, 3]) (by kernel_rfl) (by simp) ?_
        refine AllReadyIn.cons rfl (fun K hK => ?_) (AllReadyIn.cons rfl (fun K hK => ?_) AllReadyIn.nil)
        · go_simp
          refine ⟨trivial, ?_⟩
          refine (callsIn_wide.2 (onesCount_calls s (hsm s hlt) _)).mono ?_
          rintro e w1 ⟨rfl, hB1⟩
          dsimp only
          refine hK _ _ ?_
          clear hK K
          have cM1 := cellB hB1 hwM
          have cB1 := cellB hB1 hwB
          have hJ1 : J (hypTo most s) w1 := hJ _ wr w1 none hJs (grownD hB1) (fun r e => by cases e)
          have hn1 : True := trivial
          refine wpAnyIn_ready (rs := [3]) (by kernel_rfl) (by simp) ?_
          refine AllReadyIn.cons rfl (fun K hK => ?_) AllReadyIn.nil
          go_simp
          refine hK _ _ ?_
          clear hK K
          refine wpAnyIn_ready (rs := [4]) (by kernel_rfl) (by simp) ?_
          refine AllReadyIn.cons rfl (fun K hK => ?_) AllReadyIn.nil
          go_simp
          refine hK _ _ ?_
          clear hK K
          refine wpAnyIn_ready (rs := [5]) (by kernel_rfl) (by simp) ?_
          refine AllReadyIn.cons rfl (fun K hK => ?_) AllReadyIn.nil
          go_simp
          refine hK _ _ ?_
          clear hK K
          refine wpAnyIn_ready (rs := [6, 7]) (by kernel_rfl) (by simp) ?_
          refine AllReadyIn.cons rfl (fun K hK => ?_) (AllReadyIn.cons rfl (fun K hK => ?_) AllReadyIn.nil)
          · go_simp
            refine hK _ _ ?_
            clear hK K
            refine wpAnyIn_ready (rs := [7]) (by kernel_rfl) (by simp) ?_
            refine AllReadyIn.cons rfl (fun K hK => ?_) AllReadyIn.nil
            go_simp
            refine hK _ _ ?_
            clear hK K
            refine wpAnyIn_ready (rs := [8]) (by kernel_rfl) (by simp) ?_
            refine AllReadyIn.cons rfl (fun K hK => ?_) AllReadyIn.nil
            go_simp
            (try refine ⟨fun _ _ => trivial, ?_⟩)
            refine hK _ _ ?_
            clear hK K
            refine wpAnyIn_ready (rs := [9]) (by kernel_rfl) (by simp) ?_
            refine AllReadyIn.cons rfl (fun K hK => ?_) AllReadyIn.nil
            go_simp
            refine hK _ _ ?_
            clear hK K
            refine wpAnyIn_ready (rs := [10]) (by kernel_rfl) (by simp) ?_
            refine AllReadyIn.cons rfl (fun K hK => ?_) AllReadyIn.nil
            go_simp
            refine hK _ _ ?_
            clear hK K
            refine wpAnyIn_done (by kernel_rfl) ?_ _
            rw [← hypTo_miss (hpm s hc)] at hJ1
            have m1 := hms s hlt
            clear hsl hsf hsm hlen hgt hgf hph hpm hms hwu hY hJ hyd
            gi_wp2
            exact ⟨⟨s + 1, rfl, Nat.le_succ_of_le h1, hlt, cB1, cM1, hJ1⟩, m1⟩
          · go_simp
            refine hK _ _ ?_
            clear hK K
            refine wpAnyIn_ready (rs := [6]) (by kernel_rfl) (by simp) ?_
            refine AllReadyIn.cons rfl (fun K hK => ?_) AllReadyIn.nil
            go_simp
            refine hK _ _ ?_
            clear hK K
            refine wpAnyIn_ready (rs := [8]) (by kernel_rfl) (by simp) ?_
            refine AllReadyIn.cons rfl (fun K hK => ?_) AllReadyIn.nil
            go_simp
            (try refine ⟨fun _ _ => trivial, ?_⟩)
            refine hK _ _ ?_
            clear hK K
            refine wpAnyIn_ready (rs := [9]) (by kernel_rfl) (by simp) ?_
            refine AllReadyIn.cons rfl (fun K hK => ?_) AllReadyIn.nil
            go_simp
            refine hK _ _ ?_
            clear hK K
            refine wpAnyIn_ready (rs := [10]) (by kernel_rfl) (by simp) ?_
            refine AllReadyIn.cons rfl (fun K hK => ?_) AllReadyIn.nil
            go_simp
            refine hK _ _ ?_
            clear hK K
            refine wpAnyIn_done (by kernel_rfl) ?_ _
            rw [← hypTo_miss (hpm s hc)] at hJ1
            have m1 := hms s hlt
            clear hsl hsf hsm hlen hgt hgf hph hpm hms hwu hY hJ hyd
            gi_wp2
            exact ⟨⟨s + 1, rfl, Nat.le_succ_of_le h1, hlt, cB1, cM1, hJ1⟩, m1⟩
        · go_simp
          refine hK _ _ ?_
          clear hK K
          refine wpAnyIn_ready (rs := [2]) (by kernel_rfl) (by simp) ?_
          refine AllReadyIn.cons rfl (fun K hK => ?_) AllReadyIn.nil
          go_simp
          refine ⟨trivial, ?_⟩
          refine (callsIn_wide.2 (onesCount_calls s (hsm s hlt) _)).mono ?_
          rintro e w1 ⟨rfl, hB1⟩
          dsimp only
          refine hK _ _ ?_
          clear hK K
          have cM1 := cellB hB1 hwM
          have cB1 := cellB hB1 hwB
          have hJ1 : J (hypTo most s) w1 := hJ _ wr w1 none hJs (grownD hB1) (fun r e => by cases e)
          have hn1 : True := trivial
          refine wpAnyIn_ready (rs := [4]) (by kernel_rfl) (by simp) ?_
          refine AllReadyIn.cons rfl (fun K hK => ?_) AllReadyIn.nil
          go_simp
          refine hK _ _ ?_
          clear hK K
          refine wpAnyIn_ready (rs := [5]) (by kernel_rfl) (by simp) ?_
          refine AllReadyIn.cons rfl (fun K hK => ?_) AllReadyIn.nil
          go_simp
          refine hK _ _ ?_
          clear hK K
          refine wpAnyIn_ready (rs := [6, 7]) (by kernel_rfl) (by simp) ?_
          refine AllReadyIn.cons rfl (fun K hK => ?_) (AllReadyIn.cons rfl (fun K hK => ?_) AllReadyIn.nil)
          · go_simp
            refine hK _ _ ?_
            clear hK K
            refine wpAnyIn_ready (rs := [7]) (by kernel_rfl) (by simp) ?_
            refine AllReadyIn.cons rfl (fun K hK => ?_) AllReadyIn.nil
            go_simp
            refine hK _ _ ?_
            clear hK K
            refine wpAnyIn_ready (rs := [8]) (by kernel_rfl) (by simp) ?_
            refine AllReadyIn.cons rfl (fun K hK => ?_) AllReadyIn.nil
            go_simp
            (try refine ⟨fun _ _ => trivial, ?_⟩)
            refine hK _ _ ?_
            clear hK K
            refine wpAnyIn_ready (rs := [9]) (by kernel_rfl) (by simp) ?_
            refine AllReadyIn.cons rfl (fun K hK => ?_) AllReadyIn.nil
            go_simp
            refine hK _ _ ?_
            clear hK K
            refine wpAnyIn_ready (rs := [10]) (by kernel_rfl) (by simp) ?_
            refine AllReadyIn.cons rfl (fun K hK => ?_) AllReadyIn.nil
            go_simp
            refine hK _ _ ?_
            clear hK K
            refine wpAnyIn_done (by kernel_rfl) ?_ _
            rw [← hypTo_miss (hpm s hc)] at hJ1
            have m1 := hms s hlt
            clear hsl hsf hsm hlen hgt hgf hph hpm hms hwu hY hJ hyd
            gi_wp2
            exact ⟨⟨s + 1, rfl, Nat.le_succ_of_le h1, hlt, cB1, cM1, hJ1⟩, m1⟩
          · go_simp
            refine hK _ _ ?_
            clear hK K
            refine wpAnyIn_ready (rs := [6]) (by kernel_rfl) (by simp) ?_
            refine AllReadyIn.cons rfl (fun K hK => ?_) AllReadyIn.nil
            go_simp
            refine hK _ _ ?_
            clear hK K
            refine wpAnyIn_ready (rs := [8]) (by kernel_rfl) (by simp) ?_
            refine AllReadyIn.cons rfl (fun K hK => ?_) AllReadyIn.nil
            go_simp
            (try refine ⟨fun _ _ => trivial, ?_⟩)
            refine hK _ _ ?_
            clear hK K
            refine wpAnyIn_ready (rs := [9]) (by kernel_rfl) (by simp) ?_
            refine AllReadyIn.cons rfl (fun K hK => ?_) AllReadyIn.nil
            go_simp
            refine hK _ _ ?_
            clear hK K
            refine wpAnyIn_ready (rs := [10]) (by kernel_rfl) (by simp) ?_
            refine AllReadyIn.cons rfl (fun K hK => ?_) AllReadyIn.nil
            go_simp
            refine hK _ _ ?_
            clear hK K
            refine wpAnyIn_done (by kernel_rfl) ?_ _
            rw [← hypTo_miss (hpm s hc)] at hJ1
            have m1 := hms s hlt
            clear hsl hsf hsm hlen hgt hgf hph hpm hms hwu hY hJ hyd
            gi_wp2
            exact ⟨⟨s + 1, rfl, Nat.le_succ_of_le h1, hlt, cB1, cM1, hJ1⟩, m1⟩
    · have elt : s = T := Nat.le_antisymm h2 (Nat.le_of_not_lt hlt)
      have hdf := hsf s elt
      subst elt
      clear hsl hsf hsm hlen hgt hgf hph hpm hms hwu hY hJ
      gi_wp2
      go_end0
      exact ⟨⟨_, rfl⟩, .inl ⟨_, hyd.symm, hJs⟩⟩
end Go.Proofs.Ytcaihadhpgkceaa.Sx
