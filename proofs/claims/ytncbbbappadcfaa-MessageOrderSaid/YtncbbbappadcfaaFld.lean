import Derived.Test.YtncbbbappadcfaaRow
import Derived.Test.YtncbbbappadcfaaLst
/- Lists of strings in a struct that is handed by value. -/
namespace Go.Proofs.Ytncbbbappadcfaa.Sx
set_option linter.unusedVariables false
open Go Go.RowKit Go.ChangeShapes Go.WideShapes Go.ChangeAt
section
variable {H : Type} {enc : TypeId × Value → H} {P : Program} {W : World} {base : Nat} {spare : Nat → Bool} {held : Bool}
theorem open_fstrs {t ft e : TypeId} {fs : Array Field} {q : Value} {r : Reach} {b0 fu j : Nat} {cs cs0 : List Value} {tl : List TypeId} {x : DataW H × List MemPlace} (hu : P.underlying t = some (.struct fs)) (hct : P.cellTypes P.depth t = some tl) (hj : tl[j]? = some ft) (ht : P.underlying ft = some (.slice e)) (he : P.underlying e = some .string) (hz : P.cellsOf e = 1) (hv : Value.okWide P W r b0 t (.agg cs0.toArray)) (hq0 : cs0[j]? = some q) (h : DataW.trod enc P W base spare held fu ft cs = some x) (hcs : cs = [q]) :
    ∃ l : List ByteArray, IsL (heapM W) Value.string q l ∧ l.length ≤ maxLen ∧ ∀ x ∈ l, x.size ≤ maxLen := by
  subst hcs
  have hq : Value.okWide P W r b0 ft q := by
    simp only [Value.okWide, hu] at hv
    obtain ⟨cs, e1, _, ts, e2, _, h3⟩ := hv
    cases e1
    rw [hct] at e2
    cases e2
    obtain ⟨u, h4, h5⟩ := h3 j q (by simpa using hq0)
    obtain rfl : ft = u := by
      have hlt := (List.getElem?_eq_some_iff.1 hj).1
      rw [Nat.mod_eq_of_lt hlt, hj] at h4; simpa using h4
    simp only [Value.okWide, ht]
    exact h5
  obtain ⟨a, len, cap, rfl⟩ := okWide_slice ht hq
  exact open_sstrs ht he hz hq (d := x.1) (ps := x.2) ⟨fu, h⟩
theorem isL_str {M : Mem} {v : Value} {l : List ByteArray} (h : IsL M Value.string v l) : IsL M sbV v (l.map fun b => b.data.toList) := by
  unfold IsL at h ⊢
  have e : (l.map fun b => b.data.toList).map sbV = l.map Value.string := by
    rw [List.map_map]
    rfl
  rw [List.length_map, e]; exact h
end
end Go.Proofs.Ytncbbbappadcfaa.Sx
