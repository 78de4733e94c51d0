import Derived.Test.YtncbbbappadcfaaDoorUse
/- A plain law: lists with repetitions removed. -/
set_option linter.unusedVariables false
namespace Go.Proofs.YtncbbbappadcfaaDoor.Sx
/-- no up to 4 are followed by the same ones -/
def sqf {α : Type} (l : List α) : Prop := ∀ i k, 1 ≤ k → k ≤ 4 → i + 2 * k ≤ l.length → (l.drop i).take k ≠ (l.drop (i + k)).take k
theorem sqf_take {α : Type} {l : List α} (h : sqf l) (n : Nat) : sqf (l.take n) := fun i k h1 h2 h3 e => by
  rw [List.length_take] at h3
  refine h i k h1 h2 (by omega) ?_
  rw [List.drop_take, List.drop_take, List.take_take, List.take_take, Nat.min_eq_left (by omega), Nat.min_eq_left (by omega)] at e
  exact e
theorem sqf_nil {α : Type} : sqf ([] : List α) := fun i k h1 _ h3 _ => by simp at h3; omega
variable {α : Type} [DecidableEq α]
/-- the last k are the k before them -/
def twiB (l : List α) (k : Nat) : Bool := decide (2 * k ≤ l.length) && decide (l.drop (l.length - k) = (l.drop (l.length - 2 * k)).take k)
def fstep (out : List α) (s : α) : List α :=
  let l := out ++ [s]
  if twiB l 1 then l.take (l.length - 1) else if twiB l 2 then l.take (l.length - 2) else if twiB l 3 then l.take (l.length - 3) else if twiB l 4 then l.take (l.length - 4) else l
def foldB (l : List α) : List α := l.foldl fstep []
theorem twi_sq {l : List α} {k : Nat} (h2 : 2 * k ≤ l.length) : twiB l k = true ↔ (l.drop (l.length - 2 * k)).take k = (l.drop (l.length - 2 * k + k)).take k := by
  have e : l.length - 2 * k + k = l.length - k := by omega
  have e2 : (l.drop (l.length - k)).take k = l.drop (l.length - k) := List.take_of_length_le (by rw [List.length_drop]; omega)
  rw [e, e2]
  simp only [twiB, Bool.and_eq_true, decide_eq_true_eq]
  exact ⟨fun h => h.2.symm, fun h => ⟨h2, h.symm⟩⟩
theorem twi_le {l : List α} {k : Nat} (h : twiB l k = true) : 2 * k ≤ l.length := by
  simp only [twiB, Bool.and_eq_true, decide_eq_true_eq] at h; exact h.1
theorem sqf_snoc {l : List α} (h : sqf l.dropLast) (ht : ∀ k, 1 ≤ k → k ≤ 4 → twiB l k = false) : sqf l := fun i k h1 h2 h3 e => by
  by_cases hl : i + 2 * k = l.length
  · have hi : i = l.length - 2 * k := by omega
    subst hi
    have := (twi_sq (l := l) (k := k) (by omega)).2 e
    rw [ht k h1 h2] at this; cases this
  · refine h i k h1 h2 (by rw [List.length_dropLast]; omega) ?_
    rw [List.dropLast_eq_take, List.drop_take, List.drop_take, List.take_take, List.take_take, Nat.min_eq_left (by omega), Nat.min_eq_left (by omega)]
    exact e
/-- what a step comes to -/
theorem fstep_cases (out : List α) (s : α) : (∃ k, 1 ≤ k ∧ k ≤ 4 ∧ twiB (out ++ [s]) k = true ∧ fstep out s = (out ++ [s]).take ((out ++ [s]).length - k)) ∨ ((∀ k, 1 ≤ k → k ≤ 4 → twiB (out ++ [s]) k = false) ∧ fstep out s = out ++ [s]) := by
  simp only [fstep]
  by_cases h1 : twiB (out ++ [s]) 1 = true
  · exact .inl ⟨1, by omega, by omega, h1, by rw [if_pos h1]⟩
  by_cases h2 : twiB (out ++ [s]) 2 = true
  · exact .inl ⟨2, by omega, by omega, h2, by rw [if_neg h1, if_pos h2]⟩
  by_cases h3 : twiB (out ++ [s]) 3 = true
  · exact .inl ⟨3, by omega, by omega, h3, by rw [if_neg h1, if_neg h2, if_pos h3]⟩
  by_cases h4 : twiB (out ++ [s]) 4 = true
  · exact .inl ⟨4, by omega, by omega, h4, by rw [if_neg h1, if_neg h2, if_neg h3, if_pos h4]⟩
  · refine .inr ⟨fun k ha hb => ?_, by rw [if_neg h1, if_neg h2, if_neg h3, if_neg h4]⟩
    have : k = 1 ∨ k = 2 ∨ k = 3 ∨ k = 4 := by omega
    rcases this with rfl | rfl | rfl | rfl <;> simp_all
/-- a step keeps what is free of repetitions, its first element, and ends with what it adds -/
theorem fstep_ok {out : List α} (h : sqf out) (s : α) : sqf (fstep out s) ∧ (fstep out s).length ≤ out.length + 1 ∧ (fstep out s).getLast? = some s ∧ (fstep out s).head? = (out ++ [s]).head? := by
  rcases fstep_cases out s with ⟨k, h1, h2, h3, h4⟩ | ⟨h1, h2⟩
  · have hl := twi_le h3
    have hlen : (out ++ [s]).length = out.length + 1 := by simp
    have e : fstep out s = out.take ((out ++ [s]).length - k) := by
      rw [h4, List.take_append_of_le_length (by omega)]
    refine ⟨by rw [e]; exact sqf_take h _, by rw [e, List.length_take]; omega, ?_, ?_⟩
    · have := (twi_sq hl).1 h3
      have hs : (out ++ [s])[(out ++ [s]).length - 1]? = some s := by
        rw [hlen]; simp
      have hx : ((out ++ [s]).drop ((out ++ [s]).length - 2 * k)).take k = ((out ++ [s]).drop ((out ++ [s]).length - 2 * k + k)).take k := this
      have hg := congrArg (fun l => l[k - 1]?) hx
      simp only [List.getElem?_take_of_lt (show k - 1 < k by omega), List.getElem?_drop] at hg
      rw [show (out ++ [s]).length - 2 * k + k + (k - 1) = (out ++ [s]).length - 1 by omega, hs] at hg
      rw [h4, List.getLast?_eq_getElem?, List.length_take, List.getElem?_take_of_lt (by omega), Nat.min_eq_left (by omega), ← hg]
      congr 1
      omega
    · rw [h4, List.head?_take, if_neg (by omega)]
  · rw [h2]
    refine ⟨sqf_snoc (by simpa using h) h1, by simp, by simp, rfl⟩
theorem fold_ok' : ∀ (l out : List α), sqf out → sqf (l.foldl fstep out) ∧ (l.foldl fstep out).length ≤ out.length + l.length ∧ (l.foldl fstep out).getLast? = (l.getLast?).or out.getLast? ∧ (l.foldl fstep out).head? = (out ++ l).head?
  | [], out, h => ⟨h, by simp, by simp, by simp⟩
  | s :: l, out, h => by
    obtain ⟨h1, h2, h3, h4⟩ := fstep_ok h s
    obtain ⟨g1, g2, g3, g4⟩ := fold_ok' l (fstep out s) h1
    refine ⟨g1, by simp only [List.foldl_cons, List.length_cons] at *; omega, ?_, ?_⟩
    · simp only [List.foldl_cons]
      rw [g3, h3]
      cases l with
      | nil => simp
      | cons a r => rw [List.getLast?_cons_cons]; cases hh : (a :: r).getLast? <;> simp at hh ⊢
    · simp only [List.foldl_cons]
      rw [g4]
      cases hf : fstep out s with
      | nil => rw [hf] at h3; simp at h3
      | cons a r =>
        rw [hf] at h4
        have h4 : some a = (out ++ [s]).head? := h4
        rw [List.cons_append, List.head?_cons, h4]
        cases out <;> simp
/-- what is free of repetitions is its own fold -/
theorem fold_sqf : ∀ (l out : List α), sqf (out ++ l) → l.foldl fstep out = out ++ l
  | [], out, _ => by simp
  | s :: l, out, h => by
    have h' : sqf ((out ++ [s]) ++ l) := by simpa using h
    have h1 : sqf (out ++ [s]) := by have := sqf_take h' (out ++ [s]).length; rwa [List.take_left] at this
    have e : fstep out s = out ++ [s] := by
      rcases fstep_cases out s with ⟨k, h2, h3, h4, _⟩ | ⟨_, h2⟩
      · have hl := twi_le h4
        exact absurd ((twi_sq hl).1 h4) (h1 _ k h2 h3 (by omega))
      · exact h2
    rw [List.foldl_cons, e, fold_sqf l (out ++ [s]) h']
    simp
theorem foldB_ok (l : List α) : sqf (foldB l) ∧ (foldB l).length ≤ l.length ∧ (foldB l).getLast? = l.getLast? ∧ (foldB l).head? = l.head? ∧ foldB (foldB l) = foldB l := by
  obtain ⟨h1, h2, h3, h4⟩ := fold_ok' l [] sqf_nil
  simp only [List.length_nil, Nat.zero_add, List.getLast?_nil, Option.or_none, List.nil_append] at h2 h3 h4
  exact ⟨h1, h2, h3, h4, by unfold foldB; rw [fold_sqf _ [] (by simpa using h1)]; rfl⟩
end Go.Proofs.YtncbbbappadcfaaDoor.Sx
