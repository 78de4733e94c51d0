import Derived.Test.YtncbbbappadcfaaDoorRow
import Derived.Test.YtncbbbappadcfaaDoorLst
import Derived.LaidMore
import Derived.LaidLaws
/- A listed package-level variable that holds a list of strings: what the call reads of it. -/
namespace Go.Proofs.YtncbbbappadcfaaDoor.Sx
set_option linter.unusedVariables false
open Go Go.RowKit Go.ChangeShapes Go.WideShapes Go.ChangeAt
theorem laid_strs {P : Program} {W : World} {n : String} {g : Nat} {t e : TypeId} {z : Nat} {ss : List (List UInt8)} (hgn : P.globalNamed n = some g) (htg : (P.globals[g]?).map (·.type) = some t) (hk : kindT P t = some false) (hz1 : szO P t = some z) (ht : P.underlying t = some (.slice e)) (he : P.underlying e = some .string) (hz : P.cellsOf e = 1) (h0 : 0 < ss.length)
    (h : laidMet P [(n, .slice (ss.map fun s => .lit (.string s)) [])] W) :
    ∃ up, lookM P t (heapM W) (.pointer (some ⟨g, 0, none⟩)) = some up ∧ IsL (heapM W) sbV up ss := by
  obtain ⟨ps, ⟨g0, t0, cs0, f0, p0, q0, hg0, ht0, hv0, hd0, _, _⟩, _, _⟩ := h
  obtain rfl := Option.some.inj (hgn.symm.trans hg0)
  obtain rfl := Option.some.inj (htg.symm.trans ht0)
  obtain ⟨a, cap, hcs, hcap, hel⟩ := Go.open_row ht hz hd0
  rw [List.length_map] at hcs hcap
  have hcell : W.cell? ⟨g, 0, none⟩ = some (.slice (some a) ss.length cap) := by
    have := World.var?_cell hg0 hv0 0
    rw [Array.eq_one_of_toList hcs] at this
    simpa using this
  have hb1 : ∀ (x : Addr) n, (x.add n).block = x.block := fun x n => by unfold Addr.add; split <;> rfl
  have hb2 : ∀ (x : Addr) n, (x.add n).off = x.off + n := fun x n => by unfold Addr.add; split <;> simp_all
  have hat : ∀ i (hi : i < ss.length), W.cell? (a.add i) = some (sbV ss[i]) := fun i hi => by
    obtain ⟨v, n, q, h1, h2⟩ := hel i (.lit (.string ss[i])) (by simp [hi])
    obtain ⟨s, h3, h4, _⟩ := DataW.trod_string he h2
    obtain rfl : v = .string s := by simpa using h3
    rw [h1]
    congr 1
    unfold sbV bs
    congr 1
    simp at h4
    have : s.data.toList = ss[i] := h4.1.symm
    rw [← this]
  have hsp : a.spot = none := by
    have := (cell_heapM (hat 0 h0)).1
    simpa [Addr.add] using this
  refine ⟨.slice (some a) ss.length cap, ?_, rfl, rfl, hcap, by simp, ?_⟩
  · simp only [lookM, hk, hz1]
    exact (cell_heapM hcell).2
  · obtain ⟨b, off, sp⟩ := a
    obtain rfl : sp = none := hsp
    refine rowM_of (by simp) fun i v hv => ?_
    have hi : i < ss.length := by
      have := (List.getElem?_eq_some_iff.1 hv).1
      simpa using this
    have h1 := (cell_heapM (hat i hi)).2
    rw [hb1, hb2] at h1
    rw [List.getElem?_map, List.getElem?_eq_getElem hi] at hv
    simp at hv
    rw [← hv]
    exact h1
end Go.Proofs.YtncbbbappadcfaaDoor.Sx
