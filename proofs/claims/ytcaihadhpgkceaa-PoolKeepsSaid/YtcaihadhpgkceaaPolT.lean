import Derived.Test.YtcaihadhpgkceaaPolS
/- The pool: Sets, by the kit's laws. -/
namespace Go.Proofs.Ytcaihadhpgkceaa.Sx
open Go Go.RowKit Go.Shelf
set_option linter.unusedVariables false
set_option linter.unusedSimpArgs false
set_option maxRecDepth 100000
attribute [local go_sem] Oper.semAt_some
set_option maxHeartbeats 2000000 in
theorem sets_in (n : Nat) (N most : Int) (w : World) : CallsIn Fence.wide n Try.prog 36 #[.int .i64 N, .int .i64 most] w fun e w' =>
    e = .returned (.func (.func 42) #[] #[.pointer (some ⟨w.heap.size, 0, none⟩), .pointer (some ⟨w.heap.size + 1, 0, none⟩)]) ∧ w' = (w.alloc (.cells #[.int .i64 N] 3)).alloc (.cells #[.int .i64 most] 3) := by
  refine callsIn_of_wp Try.func36 rfl trivial ?_ rfl
  simp only [Try.ntmps36, List.size_toArray, List.length_cons, List.length_nil, Nat.reduceAdd, Nat.reduceSub, Array.replicate_succ, Array.replicate_zero, List.push_toArray, List.append_toArray, List.nil_append, List.cons_append]
  gi_wp2
  go_ret
  exact ⟨rfl, rfl⟩
theorem check_calls {M : Mem} {u : Value} {l : List Int} (hu : IsL M intV64 u l) (hl : chkL l = true) (w : World) (hM : Sub M w) : Calls Try.prog 19 #[.agg #[u]] w fun e w' => e = .returned (.bool true) ∧ Below w.heap.size w w' :=
  CallS.value (args := [.agg #[u]]) (M := M) (fun K hK => check_ok u l hu (by have := chk_len hl; omega) (by rw [hl]; exact hK)) hM
theorem Sub.alloc {M : Mem} {w : World} (h : Sub M w) (o : Obj) : Sub M (w.alloc o) := fun b p hb => by
  have h1 := h b p hb
  exact ((Below.refl w.heap.size w).alloc (Nat.le_refl _) o).block b (Array.getElem?_eq_some_iff.1 h1).1 ▸ h1
theorem cellNew {w w1 : World} {v : Value} {t : TypeId} (h : Below (w.alloc (.cells #[v] t)).heap.size (w.alloc (.cells #[v] t)) w1) : w1.cell? ⟨w.heap.size, 0, none⟩ = some v :=
  (h.cell (p := ⟨w.heap.size, 0, none⟩) (by simp)).trans (Boxed.new w t v).cell
theorem cellOld {w : World} {B : Nat} {v : Value} (h : w.cell? ⟨B, 0, none⟩ = some v) (o : Obj) : (w.alloc o).cell? ⟨B, 0, none⟩ = some v := by
  obtain ⟨p, h1, _⟩ := cells_of_cell h
  rw [World.cell?_of_block (a := ⟨B, 0, none⟩) (((Below.refl w.heap.size w).alloc (Nat.le_refl _) o).block B (Array.getElem?_eq_some_iff.1 h1).1)]; exact h
theorem ownsRow_base {W W' : World} {n m : Nat} {e e' : TypeId} {z z' k k' : Nat} {v : Value} {xs xs' : List Value} (h : W.ownsRow n e z v k xs) (h' : W'.ownsRow m e' z' v k' xs') : W.ownsRow m e z v k xs := by
  refine ⟨h.1, ?_⟩
  rcases h.2 with ⟨rfl, h0⟩ | ⟨g, cap, cur, rfl, _, rest⟩
  · exact .inl ⟨rfl, h0⟩
  · rcases h'.2 with ⟨h1, _⟩ | ⟨g2, cap2, cur2, e2, hb, _⟩
    · cases h1
    · cases e2
      exact .inr ⟨g, cap, cur, rfl, hb, rest⟩
theorem ownsRow_weak {W : World} {n m : Nat} {e : TypeId} {z k : Nat} {v : Value} {xs : List Value} (h : W.ownsRow n e z v k xs) (hm : m ≤ n) : W.ownsRow m e z v k xs := by
  refine ⟨h.1, ?_⟩
  rcases h.2 with h0 | ⟨g, cap, cur, e1, hb, rest⟩
  · exact .inl h0
  · exact .inr ⟨g, cap, cur, e1, Nat.le_trans hm hb, rest⟩
theorem KpB.app {W w4 : World} {base B Bn Bm : Nat} {e : TypeId} {v v' : Value} {k : Nat} {xs : List Value} {tmp : Obj} (hrow : W.ownsRow base e 1 v k xs) (hg : (W.alloc tmp).grownBy w4 v.ownBlock) (h1 : Bn < base) (h2 : Bm < base) (hb : base ≤ W.heap.size) (n1 : Bn ≠ B) (n2 : Bm ≠ B) : KpB Bn Bm W (w4.setCell ⟨B, 0, none⟩ v') := by
  have hsz : W.heap.size + 1 ≤ w4.heap.size := by have := hg.size; simpa using this
  have hs := grownBy_setCell' w4 B v'
  have key : ∀ x, x < base → x ≠ B → (w4.setCell ⟨B, 0, none⟩ v').heap[x]? = W.heap[x]? := fun x hx hne => by
    have a1 := hs.block x (by omega) (fun e => hne (by cases e; rfl))
    have a2 := hg.block x (by simp; omega) (fun e => by
      rcases hrow.2 with ⟨rfl, _⟩ | ⟨g, cap, cur, rfl, hbg, _⟩
      · simp [Value.ownBlock] at e
      · simp [Value.ownBlock] at e; omega)
    have a3 := ((Below.refl W.heap.size W).alloc (Nat.le_refl _) tmp).block x (by omega)
    rw [a1, a2, a3]
  exact ⟨by have := hs.size; omega, key Bn h1 n1, key Bm h2 n2⟩
theorem infoInt : (Try.prog.info? 3).map (fun i => (i.zero, i.size, i.bytes)) = some (some (.int .i64 0), 1, 8) := by kernel_rfl
theorem sets_stops (n : Nat) (hn : 1 ≤ n) (Bn Bm N most : Nat) (hN : N ≤ 8) (w : World) (hBn : w.cell? ⟨Bn, 0, none⟩ = some (.int .i64 (N : Int))) (hBm : w.cell? ⟨Bm, 0, none⟩ = some (.int .i64 (most : Int))) :
    SeqStopsK Fence.wide n Try.prog 42 #[.pointer (some ⟨Bn, 0, none⟩), .pointer (some ⟨Bm, 0, none⟩)] (fun x : Nat => #[Value.int .i64 (x : Int)]) (KpB Bn Bm) (fun ys => ys = hyps N most) (fun _ => True) 256 w := fun l J Jx W hW hJ _ hY h0 =>
  have cell : ∀ B v, w.cell? ⟨B, 0, none⟩ = some v → W.cell? ⟨B, 0, none⟩ = some v := fun B v h => by
    obtain ⟨o, ho, _⟩ := cells_of_cell h
    rw [World.cell?_of_block (a := ⟨B, 0, none⟩) (hW.block B (Array.getElem?_eq_some_iff.1 ho).1)]; exact h
  sets1_in n hn l Bn Bm N most hN J Jx hY W hJ (cell _ _ hBn) (cell _ _ hBm) h0
set_option maxHeartbeats 4000000 in
theorem Sets_in (n : Nat) (hn : 3 ≤ n) {M : Mem} {u : Value} {l : List Int} (hu : IsL M intV64 u l) (hl : chkL l = true) (most : Nat) (hm1 : 1 ≤ most) (hm2 : most ≤ 2) (w : World) (hM : Sub M w) :
    CallsIn Fence.wide n Try.prog 16 #[.agg #[u], .int .i64 (most : Int)] w fun e W' => ∃ v, e = .returned (.tuple #[v, .int .i64 0]) ∧ W'.ownsRow w.heap.size 3 1 v (hyps l.length most).length ((hyps l.length most).map natV) ∧ Below w.heap.size w W' := by
  have h1 : 1 ≤ n := by omega
  have hlen := chk_len hl
  obtain ⟨b, off, c, rfl, hc⟩ : ∃ b off c, u = .slice (some ⟨b, off, none⟩) l.length c ∧ l.length ≤ c := by
    rcases SlM.cases hu with ⟨h0, _⟩ | ⟨b, off, c, h2, h3, _⟩
    · omega
    · exact ⟨b, off, c, h2, h3⟩
  obtain ⟨i0, hi, hz0, hz1, hz2⟩ := info_parts infoInt
  have g1 : decide ((most : Int) < 1) = false := by simp; omega
  have g2 : decide (2 < (most : Int)) = false := by simp; omega
  refine callsIn_of_wp_marks Try.func16 rfl trivial ?_ rfl
  simp only [Try.ntmps16, List.size_toArray, List.length_cons, List.length_nil, Nat.reduceAdd, Nat.reduceSub, Array.replicate_succ, Array.replicate_zero, List.push_toArray, List.append_toArray, List.nil_append, List.cons_append]
  gi_wp2_with (first | (refine ⟨trivial, ?_⟩; gi_at_call 19; refine (callsIn_wide.2 (check_calls hu hl _ (hM.alloc _))).mono ?_; rintro e w1 ⟨rfl, hB1⟩; have hbx := cellOld (cellNew hB1)) | (refine ⟨trivial, ?_⟩; gi_at_call 36; refine (sets_in (n - 1) _ _ _).mono ?_; rintro e w2 ⟨rfl, rfl⟩))
  have hs1 : w.heap.size + 1 ≤ w1.heap.size := by have := hB1.size; simpa using this
  have bO := ((Boxed.new w1 22 (.slice none 0 0)).alloc (.cells #[.int .i64 (l.length : Int)] 3)).alloc (.cells #[.int .i64 (most : Int)] 3)
  have cN := cellOld (Boxed.new (w1.alloc (.cells #[.slice none 0 0] 22)) 3 (.int .i64 (l.length : Int))).cell (.cells #[.int .i64 (most : Int)] 3)
  have cM := (Boxed.new ((w1.alloc (.cells #[.slice none 0 0] 22)).alloc (.cells #[.int .i64 (l.length : Int)] 3)) 3 (.int .i64 (most : Int))).cell
  have hB0 : Below w.heap.size w (((w1.alloc (.cells #[.slice none 0 0] 22)).alloc (.cells #[.int .i64 (l.length : Int)] 3)).alloc (.cells #[.int .i64 (most : Int)] 3)) := by
    have h2 : Below w.heap.size w w1 := ((Below.refl w.heap.size w).alloc (Nat.le_refl _) _).trans (hB1.mono (by simp))
    exact ((h2.alloc (by omega) _).alloc (by simp; omega) _).alloc (by simp; omega) _
  have hsz : (((w1.alloc (.cells #[.slice none 0 0] 22)).alloc (.cells #[.int .i64 (l.length : Int)] 3)).alloc (.cells #[.int .i64 (most : Int)] 3)).heap.size = w1.heap.size + 3 := by simp
  rw [World.size_alloc] at cN
  rw [World.size_alloc, World.size_alloc] at cM
  generalize hW3 : (((w1.alloc (.cells #[.slice none 0 0] 22)).alloc (.cells #[.int .i64 (l.length : Int)] 3)).alloc (.cells #[.int .i64 (most : Int)] 3)) = w3 at *
  refine wpIn_rangeFunc_ownG rfl h1 (gf := 42) (lb := #[.pointer (some ⟨w1.heap.size + 1, 0, none⟩), .pointer (some ⟨w1.heap.size + 1 + 1, 0, none⟩)]) rfl trivial (enters_of Try.func42 (by kernel_rfl) rfl)
    (sets_stops (n - 1) (by omega) (w1.heap.size + 1) (w1.heap.size + 1 + 1) l.length most hlen.2 w3 cN cM) KpB.trans (fun W j o o' h _ _ _ => KpB.put W j o' (by omega) (by omega)) (Below.refl _ _) (fun _ => rfl)
    (fun pre W => (∃ v, Boxed W w1.heap.size 22 v ∧ W.ownsRow w3.heap.size 3 1 v pre.length (pre.map natV) ∧ True) ∧ Below w.heap.size w W ∧ w3.heap.size ≤ W.heap.size)
    (fun _ _ _ => False)
    (OwnFrom.and (Own.from (holdsRow_own w3.heap.size w1.heap.size 22 3 1 (fun pre : List Nat => pre.length) (fun pre => pre.map natV) (fun _ _ => True)) _) (OwnFrom.and (ownFrom_below (Nat.le_refl _) (by omega)) (fun _ _ _ _ h hg _ => Nat.le_trans h hg.size)))
    (fun _ _ _ _ _ hs _ _ => hs)
    ⟨⟨_, bO, World.ownsRow_nil _ _ _ _, trivial⟩, hB0, Nat.le_refl _⟩
    (fun x => { tmps := #[.agg #[.slice (some ⟨b, off, none⟩) l.length c], .int .i64 (most : Int), .pointer (some ⟨w.heap.size, 0, none⟩), undef, .slice none 0 0, .int .i64 0, .pointer (some ⟨w1.heap.size, 0, none⟩), .int .i64 (x : Int), .bool false, .agg #[.slice (some ⟨b, off, none⟩) l.length c], .bool true, .bool false, .bool false, .int .i64 (most : Int), .bool false, .bool false, .int .i64 (most : Int), .bool false, .bool false, .pointer (some ⟨w.heap.size, 0, none⟩), .slice (some ⟨b, off, none⟩) l.length c, .int .i64 (l.length : Int), .int .i64 (most : Int), .func (.func 42) #[] #[.pointer (some ⟨w1.heap.size + 1, 0, none⟩), .pointer (some ⟨w1.heap.size + 1 + 1, 0, none⟩)], .int .i64 (x : Int), undef, undef, undef, undef, undef], defers := [] }) ?assign ?body ?done ?stop
  case assign =>
    intro l x W K hK
    gi_wp2
    exact hK
  case body =>
    rintro l2 pre x W ⟨⟨v, hv, hrow, _⟩, hB, hsW⟩ hlt
    have hc := hv.cell
    gi_wp2_with (gi_at_builtin; refine wpListIn_append_own _ rfl _ _ 22 rfl w3.heap.size 3 i0 (.int .i64 0) 1 8 Try.underlying22 hi hz0 hz1 hz2 rfl (by decide) _ _ _ rfl (hrow.alloc _) ⟨W.heap.size, 0, none⟩ 1 1 [.int .i64 (x : Int)] rfl rfl (cell_one_new _ _ _) (by simp [Value.oneCell']) (by first | omega | (unfold maxLen; omega)) (by first | omega | (unfold maxLen; omega)) (by simp; omega) ?_; intro v' w4 hown' hgrow _; obtain ⟨g', cap', rfl⟩ := ownsRow_succ hown'; obtain ⟨hv1, hv2, hr2, hk2, hb2⟩ := hv.appended (n₀ := w.heap.size) (by decide) (ownsRow_weak hrow (by omega)) hB.size (by omega) (ownsRow_weak hown' (by omega)) hgrow; have hc1 := hv1.cell; have hf1 := hv1.frozen)
    refine ⟨hk2.from _, KpB.app hrow hgrow (by omega) (by omega) hsW (by omega) (by omega), ⟨_, hv2, ?_, trivial⟩, hB.trans hb2, Nat.le_trans hsW (KpB.app (Bn := w1.heap.size + 1) (Bm := w1.heap.size + 1) hrow hgrow (by omega) (by omega) hsW (by omega) (by omega)).size⟩
    have hr3 := ownsRow_base hr2 hown'
    simpa [natV] using hr3
  case done =>
    rintro D ys W hD rfl ⟨⟨v, hv, hrow, _⟩, hB, _⟩ hK
    have hc := hv.cell
    gi_wp2
    refine ⟨by simp, .inl ⟨_, _, rfl, run_takeDeferred hK, ?_⟩⟩
    exact ⟨_, results_tmp2 rfl _ _ _, v, rfl, ownsRow_putObj (ownsRow_weak hrow (by omega)) _ hK rfl, hB.trans (belowK_b (w := w) (Nat.le_refl _) W D _ _ (by omega) hK rfl rfl)⟩
  case stop =>
    rintro D c pre W _ _ h _
    exact h.elim
/-- a range's hypotheses: a new list, or an error -/
theorem SetsP_ok {M : Mem} {K : AV → Hp → Mem → Prop} {u : Value} {l : List Int} (hu : IsL M intV64 u l) (hl : chkL l = true) (most : Nat) (hm1 : 1 ≤ most) (hm2 : most ≤ 2)
    (hK : ∀ v M', Mem.le M M' → IsL M' natV v (hyps l.length most) → FreshS M v → K (.ext (.tuple #[v, .int .i64 0])) [] M') : CallS Try.prog 16 [.ext (rngV u), .ext (.int .i64 (most : Int))] [] M [] K := by
  intro ρ w us hh he
  obtain ⟨x, r, rfl, h1, y, r2, rfl, h2, h3⟩ := he
  have h1 : x = rngV u := h1
  have h2 : y = .int .i64 (most : Int) := h2
  have h3 : r2 = [] := h3
  subst h1 h2 h3
  refine (callsIn_wide.1 (Sets_in 3 (by omega) hu hl most hm1 hm2 w hh.sub)).mono fun e w' hall => ?_
  obtain ⟨v, e1, hrow, hB⟩ := hall
  have base : ∀ (M' : Mem), Sub M' w' → Mem.le M M' → (∀ b, M' b ≠ none → M b ≠ none ∨ w.heap.size ≤ b) → IsL M' natV v (hyps l.length most) → FreshS M v →
      ∃ u v' H' M'' ρ', e = .returned u ∧ K v' H' M'' ∧ Left [] [] M ρ ρ' w u v' H' M'' w' := fun M' hs hle hmem hi hf =>
    ⟨_, .ext (.tuple #[v, .int .i64 0]), [], M', ρ, e1, hK v M' hle hi hf, { is := rfl, heap := ⟨fun k T cs b hk => by simp [lkH] at hk, fun k T cs hk => by simp [lkH] at hk, fun k k' b b' hk => by simp [lkH] at hk, hs⟩, keep := fun k hk => by simp [lkH] at hk, same := fun k _ _ => rfl, ment := fun k _ => ⟨by simp [AV.ment], fun j T cs hj => by simp [lkH] at hj⟩, fresh := fun k b hk => by simp [lkH] at hk, os := hB.os, tape := hB.tape, output := hB.output, size := hB.size, block := fun b hb _ => hB.block b hb, le := hle, mem := hmem }⟩
  have hsub : Sub M w' := fun b o hb => by
    have := hh.sub b o hb
    rw [hB.block b (Array.getElem?_eq_some_iff.1 this).1]; exact this
  rcases hrow with ⟨hxl, ⟨rfl, h0⟩ | ⟨g, cap, cur, rfl, hg, hcell, hn, hcap, hcs, hcx⟩⟩
  · refine base M hsub (Mem.le.refl _) (fun b hb => .inl hb) ?_ (freshS_nil _ _)
    have : hyps l.length most = [] := List.eq_nil_of_length_eq_zero h0
    rw [this]; exact isL_nil _ _ _
  · have hMg : M g = none := by
      cases e : M g with
      | none => rfl
      | some o => have := (Array.getElem?_eq_some_iff.1 (hh.sub g o e)).1; omega
    refine base (Mem.set M g (.cells cur 3 (0, 0))) (fun b o hb => ?_) (Mem.le_set hMg) (fun b hb => ?_) ?_ (.inr fun b off n c e => by cases e; exact hMg)
    · unfold Mem.set at hb
      split at hb
      · rename_i e; cases hb; rw [e]; exact hcell
      · exact hsub b o hb
    · unfold Mem.set at hb
      split at hb
      · rename_i e; subst e; exact .inr hg
      · exact .inl hb
    · refine ⟨rfl, rfl, hn, by simp, ?_⟩
      simp only [rowS]
      refine rowM_of (by simp) fun i v hi => ?_
      have hi2 : i < (hyps l.length most).length * 1 := by have := (List.getElem?_eq_some_iff.1 hi).1; simpa using this
      rw [← hcx, List.getElem?_take_of_lt hi2] at hi
      simp only [cellM, Mem.set, if_true, Nat.zero_add]
      simpa using hi
end Go.Proofs.Ytcaihadhpgkceaa.Sx
