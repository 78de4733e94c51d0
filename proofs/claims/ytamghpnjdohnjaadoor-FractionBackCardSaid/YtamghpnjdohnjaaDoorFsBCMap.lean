/- Part 34 of the texts of this claim: a symbolic executor and contracts of functions. -/
import Derived.Test.YtamghpnjdohnjaaDoorFsBCBor
import Derived.Maps.Keyed
import Derived.Maps.Own
namespace Go.Proofs.YtamghpnjdohnjaaDoor.Sx
open Go Go.RowKit
set_option linter.unusedVariables false
set_option linter.unusedSimpArgs false
def MapIs (o : Obj) (ks : List Value) : Prop := ∃ es clock, o = .map es clock ∧ es.toList.map (·.key) = ks ∧ ∀ e ∈ es.toList, e.val = .bool true
def updM (M : Mem) (b : Nat) (o : Obj) : Mem := fun x => if x = b then some o else M x
theorem updM_self (M : Mem) (b : Nat) (o : Obj) : updM M b o b = some o := by simp [updM]
theorem updM_ne {M : Mem} {b x : Nat} {o : Obj} (h : x ≠ b) : updM M b o x = M x := by simp [updM, h]
theorem MapIs.nil : MapIs (.map #[] 0) [] := ⟨#[], 0, rfl, rfl, by simp⟩
section
variable {P : Program} {c : Cx} {n : Nat} {s : St} {ρ : Rho} {a : Act} {w : World} {K : St → Prop}
theorem Gam.newM (h : Gam c n s ρ a w) (o : Obj) : Gam c n { s with M := updM s.M w.heap.size o, fr := w.heap.size :: s.fr } ρ a (w.alloc o) := by
  have hold : ∀ i, i < w.heap.size → (w.alloc o).heap[i]? = w.heap[i]? := fun i hi => Below.heap_alloc w _ i hi
  have hnew : (w.alloc o).heap[w.heap.size]? = some o := heap_alloc_new w _
  have hM : s.M w.heap.size = none := by
    cases hm : s.M w.heap.size with
    | none => rfl
    | some o' =>
      have := h.sub _ _ hm
      rw [Array.getElem?_eq_none (Nat.le_refl _)] at this
      cases this
  refine { h with hp := fun k T cs b hk hb => ?_, size := by rw [World.size_alloc]; exact Nat.le_succ_of_le h.size, block := fun i hi hx => ?_, sub := fun x o' hx => ?_, le := fun x o' hx => ?_, mf := fun b hb => ?_, fr := fun b hb => ?_ }
  · obtain ⟨⟨arr, r⟩, h2, h3⟩ := h.hp k T cs b hk hb
    refine ⟨⟨arr, by rw [hold _ r.lt]; exact r.there, r.size, r.le, r.is⟩, h2, ?_⟩
    have : b.b ≠ w.heap.size := Nat.ne_of_lt r.lt
    show updM s.M w.heap.size o b.b = none
    rw [updM_ne this]; exact h3
  · rw [hold i (Nat.lt_of_lt_of_le hi h.size)]; exact h.block i hi hx
  · have hx : updM s.M w.heap.size o x = some o' := hx
    by_cases e : x = w.heap.size
    · subst e
      rw [updM_self] at hx
      rw [hnew]; exact hx
    · rw [updM_ne e] at hx
      have := h.sub _ _ hx
      rw [hold x (Array.getElem?_eq_some_iff.1 this).1]; exact this
  · have h1 := h.le _ _ hx
    have e : x ≠ w.heap.size := fun e => by rw [e, hM] at h1; cases h1
    show updM s.M w.heap.size o x = some o'
    rw [updM_ne e]; exact h1
  · by_cases e : b = w.heap.size
    · right; rw [e]; exact h.size
    · have hb : updM s.M w.heap.size o b ≠ none := hb
      rw [updM_ne e] at hb
      exact h.mf b hb
  · rcases List.mem_cons.1 hb with rfl | hb
    · refine ⟨h.size, ?_⟩
      cases hm : c.M0 w.heap.size with
      | none => rfl
      | some o' => have := h.le _ _ hm; rw [hM] at this; cases this
    · exact h.fr b hb
end
end Go.Proofs.YtamghpnjdohnjaaDoor.Sx
