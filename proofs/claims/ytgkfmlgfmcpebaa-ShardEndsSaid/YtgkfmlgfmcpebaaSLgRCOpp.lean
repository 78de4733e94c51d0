/- Part 24 of the texts of this claim: a symbolic executor and contracts of functions. -/
import Derived.Test.YtgkfmlgfmcpebaaSLgRCRow
namespace Go.Proofs.Ytgkfmlgfmcpebaa.Sx
set_option linter.unusedVariables false
open Go Go.RowKit Go.ChangeShapes Go.WideShapes Go.ChangeAt
section
variable {H : Type} {enc : TypeId × Value → H} {P : Program} {W : World} {base : Nat} {spare : Nat → Bool} {held : Bool}
theorem cell_row {t e : TypeId} {z fuel : Nat} {v : Value} {x0 : DataW H × List MemPlace} (ht : P.underlying t = some (.slice e)) (hz : P.cellsOf e = z) (hz0 : 0 < z) (hf : DataW.trod enc P W base spare held fuel t [v] = some x0) :
    ∃ n cs, SlM (heapM W) z v n cs ∧ n ≤ maxLen ∧ ∀ i, i < n → ∃ fu x, DataW.trod enc P W base spare held fu e ((cs.drop (i * z)).take z) = some x := by
  rcases Go.Deep.open_slice ht hf with ⟨h0, _⟩ | ⟨a, len, cap, m, n, D, Pl, hcs, hb, hl, hm, hmm, hx, hi⟩
  · obtain rfl : v = .slice none 0 0 := by simpa using h0
    exact ⟨0, [], slM_nil _ _ _, Nat.zero_le _, fun i hi => by omega⟩
  · obtain rfl : v = .slice (some a) len cap := by simpa using hcs
    have hlm : len ≤ m := by rw [hmm]; split <;> omega
    subst hz
    by_cases h0 : len = 0
    · subst h0
      exact ⟨0, [], slM_empty _ _ _ _, Nat.zero_le _, fun i hi => by omega⟩
    have hsp : a.spot = none := by
      · obtain ⟨cs', h1, _⟩ := hi 0 (by omega)
        obtain ⟨_, h3, h4⟩ := World.cells?_some h1
        have h5 := h4 0 (by omega)
        rw [List.getElem?_eq_getElem (by omega)] at h5
        have h6 := (cell_heapM h5).1
        rw [Nat.zero_mul] at h6
        simpa [Addr.add] using h6
    have key : ∀ i, i < len → ∃ cs', cs'.length = P.cellsOf e ∧ (∀ j, j < P.cellsOf e → cellM (heapM W) a.block (a.off + i * P.cellsOf e + j) = cs'[j]?) ∧ ∃ fu x, DataW.trod enc P W base spare held fu e cs' = some x := by
      intro i hil
      obtain ⟨cs', h1, h2⟩ := hi i (by omega)
      obtain ⟨_, h3, h4⟩ := World.cells?_some h1
      refine ⟨cs', h3, fun j hj => ?_, _, _, h2⟩
      have h5 := h4 j hj
      rw [List.getElem?_eq_getElem (by omega)] at h5 ⊢
      have h6 := (cell_heapM h5).2
      have hb1 : ∀ (x : Addr) n, (x.add n).block = x.block := fun x n => by unfold Addr.add; split <;> rfl
      have hb2 : ∀ (x : Addr) n, (x.add n).off = x.off + n := fun x n => by unfold Addr.add; split <;> simp_all
      rw [hb1, hb1, hb2, hb2] at h6
      exact h6
    let F : Nat → List Value := fun i => if h : i < len then (key i h).choose else []
    have hF : ∀ i (h : i < len), (F i).length = P.cellsOf e ∧ (∀ j, j < P.cellsOf e → cellM (heapM W) a.block (a.off + i * P.cellsOf e + j) = (F i)[j]?) ∧ ∃ fu x, DataW.trod enc P W base spare held fu e (F i) = some x := by
      intro i h
      have := (key i h).choose_spec
      show (dite _ _ _ : List Value).length = _ ∧ _
      simp only [F, h, dite_true]
      exact this
    have hlen : ∀ k, k ≤ len → ((List.range k).flatMap F).length = k * P.cellsOf e ∧ (∀ j, j < k * P.cellsOf e → cellM (heapM W) a.block (a.off + j) = ((List.range k).flatMap F)[j]?) ∧ ∀ i, i < k → (((List.range k).flatMap F).drop (i * P.cellsOf e)).take (P.cellsOf e) = F i := by
      intro k
      induction k with
      | zero => intro _; simp
      | succ k ih =>
        intro hk
        obtain ⟨a1, a2, a3⟩ := ih (by omega)
        obtain ⟨b1, b2, _⟩ := hF k (by omega)
        rw [List.range_succ, List.flatMap_append]
        simp only [List.flatMap_cons, List.flatMap_nil, List.append_nil]
        refine ⟨by rw [List.length_append, a1, b1, Nat.succ_mul], fun j hj => ?_, fun i hi => ?_⟩
        · by_cases hjk : j < k * P.cellsOf e
          · rw [List.getElem?_append_left (by omega)]
            exact a2 j hjk
          · rw [List.getElem?_append_right (by omega), a1]
            have := b2 (j - k * P.cellsOf e) (by rw [Nat.succ_mul] at hj; omega)
            rw [← this]
            congr 1
            omega
        · by_cases hik : i < k
          · rw [← a3 i hik]
            have h1 : i * P.cellsOf e + P.cellsOf e ≤ k * P.cellsOf e := by
              have := Nat.mul_le_mul_right (P.cellsOf e) (show i + 1 ≤ k by omega)
              rw [Nat.succ_mul] at this
              exact this
            rw [List.drop_append_of_le_length (by omega), List.take_append_of_le_length (by rw [List.length_drop]; omega)]
          · obtain rfl : i = k := by omega
            rw [List.drop_append_of_le_length (by omega), List.drop_eq_nil_of_le (by omega)]
            simp only [List.nil_append]
            exact List.take_of_length_le (by omega)
    obtain ⟨c1, c2, c3⟩ := hlen len (Nat.le_refl _)
    refine ⟨len, (List.range len).flatMap F, ⟨rfl, rfl, hl, c1, ?_⟩, by omega, fun i hi => ?_⟩
    · obtain ⟨b, off, sp⟩ := a
      obtain rfl : sp = none := hsp
      refine rowM_of c1 fun i v hv => ?_
      have hlt : i < ((List.range len).flatMap F).length := (List.getElem?_eq_some_iff.1 hv).1
      rw [← hv]
      exact c2 i (by omega)
    · rw [c3 i hi]
      exact (hF i hi).2.2
theorem cell_ints {t e : TypeId} {fuel : Nat} {v : Value} {x0 : DataW H × List MemPlace} (ht : P.underlying t = some (.slice e)) (he : P.underlying e = some (.int .i64)) (hz : P.cellsOf e = 1) (hf : DataW.trod enc P W base spare held fuel t [v] = some x0) :
    ∃ l : List Int, IsL (heapM W) intV64 v l ∧ l.length ≤ maxLen := by
  obtain ⟨n, cs, h1, h2, h3⟩ := cell_row ht hz (by omega) hf
  have hl : cs.length = n := by have := h1.size; omega
  have key : ∀ i, i < cs.length → ∃ y : Int, cs[i]? = some (intV64 y) := by
    intro i hi
    obtain ⟨fu, x, hx⟩ := h3 i (by omega)
    rw [Nat.mul_one, List.drop_eq_getElem_cons hi] at hx
    have hx : DataW.trod enc P W base spare held fu e [cs[i]] = some x := hx
    obtain ⟨y, h4, _, _⟩ := DataW.trod_int he hx
    exact ⟨y, by rw [List.getElem?_eq_getElem hi]; simpa [intV64] using h4⟩
  have all : ∀ cs : List Value, (∀ i, i < cs.length → ∃ y : Int, cs[i]? = some (intV64 y)) → ∃ l : List Int, cs = l.map intV64 := by
    intro cs
    induction cs with
    | nil => intro _; exact ⟨[], rfl⟩
    | cons c cs ih =>
      intro hh
      obtain ⟨y, hy⟩ := hh 0 (by simp)
      obtain ⟨l, rfl⟩ := ih fun i hi => by have := hh (i + 1) (by simp; omega); simpa using this
      obtain rfl : c = intV64 y := by simpa using hy
      exact ⟨y :: l, rfl⟩
  obtain ⟨l, rfl⟩ := all cs key
  have hln : l.length = n := by simpa using hl
  subst hln
  exact ⟨l, h1, h2⟩
theorem open_ll {t e i0 : TypeId} {v : Value} {d : DataW H} {ps : List MemPlace} {r : Reach} {b0 : Nat} (ht : P.underlying t = some (.slice e)) (he : P.underlying e = some (.slice i0)) (hi0 : P.underlying i0 = some (.int .i64)) (hz : P.cellsOf e = 1) (hz0 : P.cellsOf i0 = 1) (hv : Value.okWide P W r b0 t v) (h : DataW.Trod enc P W base spare held t v d ps) :
    ∃ Rw : List (List Int), LL (heapM W) v (LsI Rw) ∧ Rw.length ≤ maxLen ∧ ∀ w ∈ Rw, w.length ≤ maxLen := by
  obtain ⟨n, cs, h1, h2, h3⟩ := open_row ht hz hv h
  have hl : cs.length = n := by have := h1.size; omega
  have key : ∀ i, i < cs.length → ∃ c l, cs[i]? = some c ∧ IsL (heapM W) intV64 c l ∧ l.length ≤ maxLen := by
    intro i hi
    obtain ⟨fu, x, hx⟩ := h3 i (by omega)
    rw [Nat.mul_one, List.drop_eq_getElem_cons hi] at hx
    have hx : DataW.trod enc P W base spare held fu e [cs[i]] = some x := hx
    obtain ⟨l, h4, h5⟩ := cell_ints he hi0 hz0 hx
    exact ⟨_, l, List.getElem?_eq_getElem hi, h4, h5⟩
  have all : ∀ cs : List Value, (∀ i, i < cs.length → ∃ c l, cs[i]? = some c ∧ IsL (heapM W) intV64 c l ∧ l.length ≤ maxLen) → ∃ Rw : List (List Int), Rw.length = cs.length ∧ ∀ i (h : i < cs.length) (h2 : i < Rw.length), IsL (heapM W) intV64 cs[i] Rw[i] ∧ Rw[i].length ≤ maxLen := by
    intro cs
    induction cs with
    | nil => intro _; exact ⟨[], rfl, fun i h => by simp at h⟩
    | cons c cs ih =>
      intro hh
      obtain ⟨c0, l, h4, h5, h6⟩ := hh 0 (by simp)
      obtain ⟨Rw, h7, h8⟩ := ih fun i hi => by have := hh (i + 1) (by simp; omega); simpa using this
      obtain rfl : c = c0 := by simpa using h4
      refine ⟨l :: Rw, by simp [h7], fun i hi hi2 => ?_⟩
      cases i with
      | zero => exact ⟨h5, h6⟩
      | succ i => exact h8 i (by simpa using hi) (by simpa using hi2)
  obtain ⟨Rw, h4, h5⟩ := all cs key
  refine ⟨Rw, ⟨cs, ?_, by rw [LsI_len]; omega, fun i hi => ?_⟩, by omega, fun w hw => ?_⟩
  · rw [LsI_len, h4, hl]; exact h1
  · have hi2 : i < Rw.length := by rw [LsI_len] at hi; exact hi
    have e2 : (LsI Rw)[i] = Rw[i].map intV64 := by simp [LsI]
    rw [e2, List.length_map]
    exact (h5 i (by omega) hi2).1
  · obtain ⟨i, hi, rfl⟩ := List.getElem_of_mem hw
    exact (h5 i (by omega) hi).2
end
end Go.Proofs.Ytgkfmlgfmcpebaa.Sx
