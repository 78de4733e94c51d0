/- Part 24 of the texts of this claim: a symbolic executor and contracts of functions. -/
import Derived.Test.YtgkfmlgfmcpebaaSLgRCBase
import Derived.Test.YtgkfmlgfmcpebaaSLgRCUse
import Derived.Test.YtgkfmlgfmcpebaaSLgRCStr
import Derived.Test.YtgkfmlgfmcpebaaSLgRCPar
import Derived.Test.YtgkfmlgfmcpebaaSLgRCLimA
namespace Go.Proofs.Ytgkfmlgfmcpebaa.Sx
set_option linter.unusedVariables false
def maxL : List Nat → Nat
  | [] => 0
  | x :: r => max x (maxL r)
theorem maxL_le : ∀ {l : List Nat} {x : Nat}, x ∈ l → x ≤ maxL l
  | y :: r, x, h => by
    simp only [maxL]
    rcases List.mem_cons.1 h with rfl | h
    · omega
    · have := maxL_le h; omega
theorem maxL_mem : ∀ {l : List Nat}, l ≠ [] → maxL l ∈ l
  | [x], _ => by simp [maxL]
  | x :: y :: r, _ => by
    have h := maxL_mem (l := y :: r) (by simp)
    simp only [maxL] at h ⊢
    rcases Nat.le_total x (max y (maxL r)) with h1 | h1
    · rw [Nat.max_eq_right h1]; exact List.mem_cons_of_mem _ h
    · rw [Nat.max_eq_left h1]; exact List.mem_cons_self
theorem maxL_bd {l : List Nat} {b : Nat} (h : ∀ x ∈ l, x ≤ b) : maxL l ≤ b := by
  cases l with
  | nil => exact Nat.zero_le _
  | cons x r => exact h _ (maxL_mem (by simp))
def bst (may : Nat → Bool) (E : List Nat) : Nat → Option Nat
  | 0 => none
  | r + 1 => match bst may E r with
    | none => if may r then some r else none
    | some b => if may r && decide (E.getD r 0 < E.getD b 0) then some r else some b
theorem bst_some {may : Nat → Bool} {E : List Nat} : ∀ {r b : Nat}, bst may E r = some b → b < r ∧ may b = true ∧ ∀ k, k < r → may k = true → E.getD b 0 ≤ E.getD k 0
  | 0, b, h => by simp [bst] at h
  | r + 1, b, h => by
    simp only [bst] at h
    cases hb : bst may E r with
    | none =>
      rw [hb] at h
      simp only at h
      split at h
      · rename_i hm
        cases h
        refine ⟨by omega, hm, fun k hk hmk => ?_⟩
        have hn : ∀ {q : Nat}, bst may E q = none → ∀ k, k < q → may k = false := fun {q} hq => by
          induction q with
          | zero => exact fun k hk => by omega
          | succ q ih =>
            intro k hk
            simp only [bst] at hq
            cases hc : bst may E q with
            | none =>
              rw [hc] at hq
              simp only at hq
              by_cases e : k = q
              · subst e
                cases hm : may k with
                | false => rfl
                | true => rw [hm] at hq; simp at hq
              · exact ih hc k (by omega)
            | some c =>
              rw [hc] at hq
              simp only at hq
              split at hq <;> cases hq
        by_cases e : k = r
        · subst e; exact Nat.le_refl _
        · have := hn hb k (by omega)
          rw [this] at hmk; cases hmk
      · cases h
    | some c =>
      rw [hb] at h
      simp only at h
      obtain ⟨h1, h2, h3⟩ := bst_some hb
      split at h
      · rename_i hm
        rw [Bool.and_eq_true, decide_eq_true_eq] at hm
        cases h
        refine ⟨by omega, hm.1, fun k hk hmk => ?_⟩
        by_cases e : k = r
        · subst e; exact Nat.le_refl _
        · have := h3 k (by omega) hmk; omega
      · rename_i hm
        cases h
        refine ⟨by omega, h2, fun k hk hmk => ?_⟩
        by_cases e : k = r
        · subst e
          rw [Bool.and_eq_true, decide_eq_true_eq] at hm
          have : ¬ E.getD k 0 < E.getD b 0 := fun hlt => hm ⟨hmk, hlt⟩
          omega
        · exact h3 k (by omega) hmk
theorem bst_none {may : Nat → Bool} {E : List Nat} : ∀ {r : Nat}, bst may E r = none → ∀ k, k < r → may k = false
  | 0, _, k, hk => by omega
  | r + 1, h, k, hk => by
    simp only [bst] at h
    cases hb : bst may E r with
    | none =>
      rw [hb] at h
      simp only at h
      by_cases e : k = r
      · subst e
        cases hm : may k with
        | false => rfl
        | true => rw [hm] at h; simp at h
      · exact bst_none hb k (by omega)
    | some c =>
      rw [hb] at h
      simp only at h
      split at h <;> cases h
def giveS (may : Nat → Nat → Bool) (c : Nat → Nat) (m : Nat) : List Nat → List Nat → List (List Nat) → Option (List Nat × List (List Nat))
  | [], E, P => some (E, P)
  | i :: r, E, P => match bst (fun k => may k i) E m with
    | none => none
    | some b => giveS may c m r (E.set b (E.getD b 0 + c i)) (P.set b (P.getD b [] ++ [i]))
structure GivOK (c : Nat → Nat) (m : Nat) (done : List Nat) (E : List Nat) (P : List (List Nat)) : Prop where
  le : E.length = m
  lp : P.length = m
  sum : ∀ r, r < m → E.getD r 0 = ((P.getD r []).map c).sum
  all : P.flatten.Perm done
theorem sum_snoc (c : Nat → Nat) (l : List Nat) (i : Nat) : ((l ++ [i]).map c).sum = (l.map c).sum + c i := by simp
theorem flatten_set {P : List (List Nat)} {b : Nat} (h : b < P.length) (i : Nat) : (P.set b (P.getD b [] ++ [i])).flatten.Perm (i :: P.flatten) := by
  induction P generalizing b with
  | nil => simp at h
  | cons x P ih =>
    cases b with
    | zero =>
      simp only [List.set_cons_zero, List.getD_cons_zero, List.flatten_cons, List.append_assoc]
      exact List.perm_middle
    | succ b =>
      simp only [List.set_cons_succ, List.getD_cons_succ, List.flatten_cons]
      refine ((ih (by simpa using h)).append_left x).trans ?_
      exact List.perm_middle
theorem getD_set {α : Type} {l : List α} {b r : Nat} {x d : α} (hb : b < l.length) : (l.set b x).getD r d = if b = r then x else l.getD r d := by
  rw [List.getD_eq_getElem?_getD, List.getElem?_set, List.getD_eq_getElem?_getD]
  by_cases e : b = r
  · subst e; rw [if_pos rfl, if_pos rfl, if_pos hb]; rfl
  · rw [if_neg e, if_neg e]
theorem GivOK.step {c : Nat → Nat} {m i b : Nat} {done E : List Nat} {P : List (List Nat)} (h : GivOK c m done E P) (hb : b < m) : GivOK c m (i :: done) (E.set b (E.getD b 0 + c i)) (P.set b (P.getD b [] ++ [i])) := by
  have h1 := h.le
  have h2 := h.lp
  refine ⟨by rw [List.length_set]; exact h1, by rw [List.length_set]; exact h2, fun r hr => ?_, (flatten_set (by omega) i).trans (h.all.cons i)⟩
  rw [getD_set (by omega), getD_set (by omega)]
  by_cases e : b = r
  · subst e
    rw [if_pos rfl, if_pos rfl, sum_snoc, h.sum b hb]
  · rw [if_neg e, if_neg e]
    exact h.sum r hr
theorem bst_all {E : List Nat} {m : Nat} (h : 0 < m) : ∃ b, bst (fun _ => true) E m = some b := by
  cases hb : bst (fun _ => true) E m with
  | some b => exact ⟨b, rfl⟩
  | none => have := bst_none hb 0 h; cases this
theorem give_all {c : Nat → Nat} {m : Nat} (h : 0 < m) : ∀ (Z E : List Nat) (P : List (List Nat)), ∃ E' P', giveS (fun _ _ => true) c m Z E P = some (E', P')
  | [], E, P => ⟨E, P, rfl⟩
  | i :: r, E, P => by
    obtain ⟨b, hb⟩ := bst_all (E := E) h
    simp only [giveS, hb]
    exact give_all h r _ _
end Go.Proofs.Ytgkfmlgfmcpebaa.Sx
namespace Go.Proofs.Ytgkfmlgfmcpebaa.Sx
set_option linter.unusedVariables false
def loadF (c f : Nat → Nat) (l : List Nat) (r : Nat) : Nat := ((l.filter fun i => f i == r).map c).sum
theorem loadF_cons (c f : Nat → Nat) (i : Nat) (l : List Nat) (r : Nat) : loadF c f (i :: l) r = (if f i = r then c i else 0) + loadF c f l r := by
  unfold loadF
  by_cases h : f i = r
  · rw [List.filter_cons_of_pos (by simpa using h), if_pos h]; simp
  · rw [List.filter_cons_of_neg (by simpa using h), if_neg h]; omega
theorem loadF_perm {c f : Nat → Nat} {l m : List Nat} (h : l.Perm m) (r : Nat) : loadF c f l r = loadF c f m r := ((h.filter _).map c).sum_nat
structure Ends (c : Nat → Nat) (m : Nat) (l : List Nat) (f : Nat → Nat) (v : Nat) : Prop where
  rng : ∀ i ∈ l, f i < m
  le : ∀ r, r < m → loadF c f l r ≤ v
theorem Ends.perm {c f : Nat → Nat} {m v : Nat} {l l' : List Nat} (h : Ends c m l f v) (hp : l.Perm l') : Ends c m l' f v := ⟨fun i hi => h.rng i (hp.symm.subset hi), fun r hr => by rw [← loadF_perm hp]; exact h.le r hr⟩
theorem Ends.tail {c f : Nat → Nat} {m v i : Nat} {l : List Nat} (h : Ends c m (i :: l) f v) : Ends c m l f v := ⟨fun j hj => h.rng j (List.mem_cons_of_mem _ hj), fun r hr => by have := h.le r hr; rw [loadF_cons] at this; omega⟩
theorem Ends.sub {c f : Nat → Nat} {m v : Nat} : ∀ {a l : List Nat}, Ends c m (a ++ l) f v → Ends c m l f v
  | [], l, h => h
  | i :: a, l, h => Ends.sub (a := a) h.tail
def sumR (g : Nat → Nat) : Nat → Nat
  | 0 => 0
  | m + 1 => sumR g m + g m
theorem sumR_add (g h : Nat → Nat) : ∀ m, sumR (fun r => g r + h r) m = sumR g m + sumR h m
  | 0 => rfl
  | m + 1 => by simp only [sumR, sumR_add g h m]; omega
theorem sumR_one (x : Nat) : ∀ (m k : Nat), k < m → sumR (fun r => if k = r then x else 0) m = x
  | m + 1, k, h => by
    simp only [sumR]
    by_cases e : k = m
    · subst e
      rw [if_pos rfl]
      have : ∀ q, q ≤ k → sumR (fun r => if k = r then x else 0) q = 0 := fun q hq => by
        induction q with
        | zero => rfl
        | succ q ih => simp only [sumR]; rw [ih (by omega), if_neg (by omega)]
      rw [this k (Nat.le_refl _)]; omega
    · rw [if_neg e, sumR_one x m k (by omega)]; omega
theorem sumR_le {g h : Nat → Nat} : ∀ {m : Nat}, (∀ r, r < m → g r ≤ h r) → sumR g m ≤ sumR h m
  | 0, _ => Nat.le_refl _
  | m + 1, hh => by
    have := sumR_le (m := m) fun r hr => hh r (by omega)
    have := hh m (by omega)
    simp only [sumR]; omega
theorem sumR_const (v : Nat) : ∀ m, sumR (fun _ => v) m = m * v
  | 0 => by simp [sumR]
  | m + 1 => by simp only [sumR, sumR_const v m, Nat.succ_mul]
theorem sumR_zero : ∀ m, sumR (fun _ => 0) m = 0
  | 0 => rfl
  | m + 1 => by simp only [sumR, sumR_zero m]
theorem sumR_load {c f : Nat → Nat} {m : Nat} : ∀ {l : List Nat}, (∀ i ∈ l, f i < m) → sumR (loadF c f l) m = (l.map c).sum
  | [], _ => by
    have : loadF c f [] = fun _ => 0 := by funext r; rfl
    rw [this, sumR_zero]; rfl
  | i :: l, h => by
    have e : loadF c f (i :: l) = fun r => (if f i = r then c i else 0) + loadF c f l r := by funext r; exact loadF_cons c f i l r
    rw [e, sumR_add, sumR_one _ _ _ (h i List.mem_cons_self), sumR_load fun j hj => h j (List.mem_cons_of_mem _ hj)]
    simp
theorem Ends.sum {c f : Nat → Nat} {m v : Nat} {l : List Nat} (h : Ends c m l f v) : (l.map c).sum ≤ m * v := by
  rw [← sumR_load h.rng, ← sumR_const]
  exact sumR_le fun r hr => h.le r hr
theorem loadF_mem {c f : Nat → Nat} : ∀ {l : List Nat} {i : Nat}, i ∈ l → c i ≤ loadF c f l (f i)
  | j :: l, i, h => by
    rw [loadF_cons]
    rcases List.mem_cons.1 h with rfl | h
    · rw [if_pos rfl]; omega
    · have := loadF_mem (c := c) (f := f) h; omega
theorem Ends.one {c f : Nat → Nat} {m v : Nat} {l : List Nat} (h : Ends c m l f v) {i : Nat} (hi : i ∈ l) : c i ≤ v := Nat.le_trans (loadF_mem hi) (h.le _ (h.rng i hi))
theorem mem_getD {E : List Nat} {y : Nat} (h : y ∈ E) : ∃ k, k < E.length ∧ E.getD k 0 = y := by
  obtain ⟨k, hk, e⟩ := List.getElem_of_mem h
  exact ⟨k, hk, by rw [List.getD_eq_getElem?_getD, List.getElem?_eq_getElem hk]; exact e⟩
end Go.Proofs.Ytgkfmlgfmcpebaa.Sx
namespace Go.Proofs.Ytgkfmlgfmcpebaa.Sx
set_option linter.unusedVariables false
def fP : List (List Nat) → Nat → Nat
  | [], _ => 0
  | p :: P, i => if i ∈ p then 0 else fP P i + 1
theorem loadF_none {c f : Nat → Nat} {r : Nat} : ∀ {l : List Nat}, (∀ i ∈ l, f i ≠ r) → loadF c f l r = 0
  | [], _ => rfl
  | i :: l, h => by rw [loadF_cons, if_neg (h i List.mem_cons_self), loadF_none fun j hj => h j (List.mem_cons_of_mem _ hj)]
theorem loadF_all {c f : Nat → Nat} {r : Nat} : ∀ {l : List Nat}, (∀ i ∈ l, f i = r) → loadF c f l r = (l.map c).sum
  | [], _ => rfl
  | i :: l, h => by
    rw [loadF_cons, if_pos (h i List.mem_cons_self), loadF_all fun j hj => h j (List.mem_cons_of_mem _ hj)]
    simp
theorem loadF_app (c f : Nat → Nat) (r : Nat) : ∀ (l m : List Nat), loadF c f (l ++ m) r = loadF c f l r + loadF c f m r
  | [], m => by show loadF c f m r = 0 + _; omega
  | i :: l, m => by rw [List.cons_append, loadF_cons, loadF_cons, loadF_app c f r l m]; omega
theorem loadF_congr {c f g : Nat → Nat} {r s : Nat} : ∀ {l : List Nat}, (∀ i ∈ l, f i = r ↔ g i = s) → loadF c f l r = loadF c g l s
  | [], _ => rfl
  | i :: l, h => by
    rw [loadF_cons, loadF_cons, loadF_congr (l := l) fun j hj => h j (List.mem_cons_of_mem _ hj)]
    have := h i List.mem_cons_self
    by_cases e : f i = r
    · rw [if_pos e, if_pos (this.1 e)]
    · rw [if_neg e, if_neg fun x => e (this.2 x)]
theorem fP_lt : ∀ {P : List (List Nat)} {i : Nat}, i ∈ P.flatten → fP P i < P.length
  | p :: P, i, h => by
    simp only [fP, List.length_cons]
    split
    · omega
    · rename_i hn
      rw [List.flatten_cons] at h
      rcases List.mem_append.1 h with h | h
      · exact absurd h hn
      · have := fP_lt h; omega
theorem fP_load {c : Nat → Nat} : ∀ {P : List (List Nat)}, P.flatten.Nodup → ∀ r, r < P.length → loadF c (fP P) P.flatten r = ((P.getD r []).map c).sum
  | [], _, r, h => by simp at h
  | p :: P, hn, r, h => by
    rw [List.flatten_cons] at hn ⊢
    obtain ⟨n1, n2, n3⟩ := List.nodup_append.1 hn
    rw [loadF_app]
    have hp : ∀ i ∈ p, fP (p :: P) i = 0 := fun i hi => by simp only [fP, if_pos hi]
    have hq : ∀ i ∈ P.flatten, fP (p :: P) i = fP P i + 1 := fun i hi => by
      simp only [fP]
      rw [if_neg fun h2 => n3 i h2 i hi rfl]
    cases r with
    | zero =>
      rw [loadF_all hp, loadF_none fun i hi => by rw [hq i hi]; omega]
      simp
    | succ r =>
      rw [loadF_none fun i hi => by rw [hp i hi]; omega, loadF_congr (g := fP P) (s := r) fun i hi => by rw [hq i hi]; omega, fP_load n2 r (by simpa using h)]
      simp
theorem GivOK.ends {c : Nat → Nat} {m v : Nat} {a E : List Nat} {P : List (List Nat)} (h : GivOK c m a E P) (hn : a.Nodup) (hv : ∀ r, r < m → E.getD r 0 ≤ v) : Ends c m a (fP P) v := by
  have hnf : P.flatten.Nodup := h.all.symm.nodup hn
  refine Ends.perm (l := P.flatten) ⟨fun i hi => by rw [← h.lp]; exact fP_lt hi, fun r hr => ?_⟩ h.all
  rw [fP_load hnf r (by rw [h.lp]; exact hr), ← h.sum r hr]
  exact hv r hr
structure Fits (c : Nat → Nat) (m : Nat) (E rem : List Nat) (f : Nat → Nat) (v : Nat) : Prop where
  rng : ∀ i ∈ rem, f i < m
  le : ∀ r, r < m → E.getD r 0 + loadF c f rem r ≤ v
def swp (a b : Nat) (x : Nat) : Nat := if x = a then b else if x = b then a else x
theorem swp_lt {a b x m : Nat} (ha : a < m) (hb : b < m) (hx : x < m) : swp a b x < m := by
  unfold swp
  split
  · exact hb
  · split <;> omega
theorem swp_iff {a b x r : Nat} : swp a b x = r ↔ x = swp a b r := by
  unfold swp
  by_cases h1 : x = a <;> by_cases h2 : x = b <;> by_cases h3 : r = a <;> by_cases h4 : r = b <;> simp_all <;> omega
theorem Fits.swap {c f : Nat → Nat} {m v a b : Nat} {E rem : List Nat} (h : Fits c m E rem f v) (ha : a < m) (hb : b < m) (he : E.getD a 0 = E.getD b 0) : Fits c m E rem (fun i => swp a b (f i)) v := by
  refine ⟨fun i hi => swp_lt ha hb (h.rng i hi), fun r hr => ?_⟩
  rw [loadF_congr (g := f) (s := swp a b r) fun i hi => swp_iff]
  have h1 := h.le (swp a b r) (swp_lt ha hb hr)
  have h2 : E.getD (swp a b r) 0 = E.getD r 0 := by
    unfold swp
    split
    · rename_i e; rw [e]; exact he.symm
    · split
      · rename_i e; rw [e]; exact he
      · rfl
  omega
theorem Fits.step {c f : Nat → Nat} {m v i : Nat} {E rem : List Nat} (h : Fits c m E (i :: rem) f v) (hE : E.length = m) : Fits c m (E.set (f i) (E.getD (f i) 0 + c i)) rem f v := by
  refine ⟨fun j hj => h.rng j (List.mem_cons_of_mem _ hj), fun r hr => ?_⟩
  have hfi := h.rng i List.mem_cons_self
  have h1 := h.le r hr
  rw [loadF_cons] at h1
  rw [getD_set (by omega)]
  by_cases e : f i = r
  · subst e; rw [if_pos rfl]; rw [if_pos rfl] at h1; omega
  · rw [if_neg e]; rw [if_neg e] at h1; omega
theorem Fits.back {c f : Nat → Nat} {m v i k : Nat} {E rem : List Nat} (h : Fits c m (E.set k (E.getD k 0 + c i)) rem f v) (hk : k < m) (hE : E.length = m) (hi : i ∉ rem) : Fits c m E (i :: rem) (fun j => if j = i then k else f j) v := by
  have hne : ∀ j ∈ rem, j ≠ i := fun j hj e => hi (e ▸ hj)
  refine ⟨fun j hj => ?_, fun r hr => ?_⟩
  · by_cases e : j = i
    · simp only [if_pos e]; exact hk
    · simp only [if_neg e]
      exact h.rng j ((List.mem_cons.1 hj).resolve_left e)
  · have h1 := h.le r hr
    rw [getD_set (by omega)] at h1
    rw [loadF_cons, if_pos rfl, loadF_congr (g := f) (s := r) fun j hj => by simp only [if_neg (hne j hj)]]
    by_cases e : k = r
    · subst e; rw [if_pos rfl] at h1; rw [if_pos rfl]; omega
    · rw [if_neg e] at h1; rw [if_neg e]; omega
theorem Fits.max {c f : Nat → Nat} {m v : Nat} {E rem : List Nat} (h : Fits c m E rem f v) (hE : E.length = m) : maxL E ≤ v := maxL_bd fun x hx => by
  obtain ⟨k, hk, rfl⟩ := mem_getD hx
  have := h.le k (by omega)
  omega
theorem fits_nil {c f : Nat → Nat} {m : Nat} {E : List Nat} (hE : E.length = m) : Fits c m E [] f (maxL E) := ⟨fun i hi => (by cases hi), fun r hr => by
  have : E.getD r 0 ∈ E := by
    rw [List.getD_eq_getElem?_getD, List.getElem?_eq_getElem (by omega)]
    exact List.getElem_mem (by omega)
  have := maxL_le this
  show E.getD r 0 + 0 ≤ _
  omega⟩
def plc (c : Nat → Nat) (m least : Nat) : List Nat → List Nat → Nat → Nat
  | [], E, best => if best ≤ maxL E ∨ best = least then best else maxL E
  | i :: rest, E, best => if best ≤ maxL E ∨ best = least then best else (List.range m).foldl (fun b r => if (E.take r).contains (E.getD r 0) then b else plc c m least rest (E.set r (E.getD r 0 + c i)) b) best
def plcS (c : Nat → Nat) (m least : Nat) (i : Nat) (rest E : List Nat) (b r : Nat) : Nat := if (E.take r).contains (E.getD r 0) then b else plc c m least rest (E.set r (E.getD r 0 + c i)) b
theorem plc_cons (c : Nat → Nat) (m least i : Nat) (rest E : List Nat) (best : Nat) : plc c m least (i :: rest) E best = if best ≤ maxL E ∨ best = least then best else (List.range m).foldl (plcS c m least i rest E) best := rfl
theorem fold_le {g : Nat → Nat → Nat} (h : ∀ b r, g b r ≤ b) : ∀ (l : List Nat) (b : Nat), l.foldl g b ≤ b
  | [], b => Nat.le_refl _
  | r :: l, b => Nat.le_trans (fold_le h l (g b r)) (h b r)
theorem fold_fix {g : Nat → Nat → Nat} {x : Nat} (h : ∀ r, g x r = x) : ∀ l : List Nat, l.foldl g x = x
  | [] => rfl
  | r :: l => by rw [List.foldl_cons, h r]; exact fold_fix h l
theorem plc_le (c : Nat → Nat) (m least : Nat) : ∀ (rem E : List Nat) (best : Nat), plc c m least rem E best ≤ best
  | [], E, best => by
    simp only [plc]
    split
    · exact Nat.le_refl _
    · rename_i h; omega
  | i :: rest, E, best => by
    rw [plc_cons]
    split
    · exact Nat.le_refl _
    · refine fold_le (fun b r => ?_) _ _
      unfold plcS
      split
      · exact Nat.le_refl _
      · exact plc_le c m least rest _ b
theorem plc_least (c : Nat → Nat) (m least : Nat) (rem E : List Nat) : plc c m least rem E least = least := by
  cases rem with
  | nil => simp [plc]
  | cons i rest => rw [plc_cons, if_pos (.inr rfl)]
theorem plcS_le (c : Nat → Nat) (m least i : Nat) (rest E : List Nat) (b r : Nat) : plcS c m least i rest E b r ≤ b := by
  unfold plcS
  split
  · exact Nat.le_refl _
  · exact plc_le _ _ _ _ _ _
theorem plcS_least (c : Nat → Nat) (m least i : Nat) (rest E : List Nat) (r : Nat) : plcS c m least i rest E least r = least := by
  unfold plcS
  split
  · rfl
  · exact plc_least _ _ _ _ _
theorem first_at {E : List Nat} {r : Nat} (h : r < E.length) : ∃ k, k ≤ r ∧ E.getD k 0 = E.getD r 0 ∧ (E.take k).contains (E.getD k 0) = false := by
  induction r using Nat.strongRecOn with
  | ind r ih =>
    cases hc : (E.take r).contains (E.getD r 0) with
    | false => exact ⟨r, Nat.le_refl _, rfl, hc⟩
    | true =>
      rw [List.contains_iff_mem] at hc
      obtain ⟨q, hq, e⟩ := List.getElem_of_mem hc
      rw [List.length_take] at hq
      rw [List.getElem_take] at e
      have e2 : E.getD q 0 = E.getD r 0 := by
        rw [← e, List.getD_eq_getElem?_getD, List.getElem?_eq_getElem (by omega)]; rfl
      obtain ⟨k, h1, h2, h3⟩ := ih q (by omega) (by omega)
      exact ⟨k, by omega, h2.trans e2, h3⟩
theorem plc_best {c : Nat → Nat} {m least v : Nat} : ∀ {rem E : List Nat} {f : Nat → Nat} {best : Nat}, E.length = m → Fits c m E rem f v → plc c m least rem E best ≤ v ∨ plc c m least rem E best = least
  | [], E, f, best, hE, h => by
    have := h.max hE
    simp only [plc]
    split
    · rename_i h1; omega
    · exact .inl this
  | i :: rest, E, f, best, hE, h => by
    have hmx := h.max hE
    rw [plc_cons]
    split
    · rename_i h1; omega
    · have hfi := h.rng i List.mem_cons_self
      obtain ⟨k, k1, k2, k3⟩ := first_at (E := E) (r := f i) (by omega)
      have hsw := h.swap (a := f i) (b := k) hfi (by omega) k2.symm
      have hst := hsw.step hE
      have e : swp (f i) k (f i) = k := by unfold swp; rw [if_pos rfl]
      simp only [e] at hst
      obtain ⟨A, B, hAB⟩ := List.append_of_mem (List.mem_range.2 (show k < m by omega))
      rw [hAB, List.foldl_append, List.foldl_cons]
      generalize A.foldl (plcS c m least i rest E) best = b0
      have hstep : plcS c m least i rest E b0 k ≤ v ∨ plcS c m least i rest E b0 k = least := by
        unfold plcS
        rw [k3]
        exact plc_best (by rw [List.length_set]; exact hE) hst
      rcases hstep with h5 | h5
      · exact .inl (Nat.le_trans (fold_le (plcS_le c m least i rest E) _ _) h5)
      · rw [h5]; exact .inr (fold_fix (plcS_least c m least i rest E) _)
theorem plc_done {c : Nat → Nat} {m least : Nat} : ∀ {rem E : List Nat} {best : Nat}, E.length = m → rem.Nodup → plc c m least rem E best < best → ∃ f, Fits c m E rem f (plc c m least rem E best)
  | [], E, best, hE, hn, h => by
    simp only [plc] at h ⊢
    split at h
    · omega
    · rename_i h1
      rw [if_neg h1]
      exact ⟨fun _ => 0, fits_nil hE⟩
  | i :: rest, E, best, hE, hn, h => by
    obtain ⟨n1, n2⟩ := List.nodup_cons.1 hn
    rw [plc_cons] at h ⊢
    split at h
    · omega
    · rename_i h1
      rw [if_neg h1]
      have key : ∀ (l : List Nat) (b : Nat), (∀ r ∈ l, r < m) → l.foldl (plcS c m least i rest E) b < b → ∃ f, Fits c m E (i :: rest) f (l.foldl (plcS c m least i rest E) b) := fun l => by
        induction l with
        | nil => exact fun b _ h => by simp at h
        | cons r l ih =>
          intro b hl hb
          rw [List.foldl_cons] at hb ⊢
          by_cases hlt : l.foldl (plcS c m least i rest E) (plcS c m least i rest E b r) < plcS c m least i rest E b r
          · exact ih _ (fun q hq => hl q (List.mem_cons_of_mem _ hq)) hlt
          · have heq : l.foldl (plcS c m least i rest E) (plcS c m least i rest E b r) = plcS c m least i rest E b r := Nat.le_antisymm (fold_le (plcS_le c m least i rest E) _ _) (by omega)
            rw [heq] at hb ⊢
            unfold plcS at hb ⊢
            split at hb
            · omega
            · rename_i h2
              rw [if_neg h2]
              obtain ⟨f, hf⟩ := plc_done (by rw [List.length_set]; exact hE) n2 hb
              exact ⟨_, hf.back (hl r List.mem_cons_self) hE n1⟩
      exact key _ _ (fun r hr => List.mem_range.1 hr) h
end Go.Proofs.Ytgkfmlgfmcpebaa.Sx
namespace Go.Proofs.Ytgkfmlgfmcpebaa.Sx
set_option linter.unusedVariables false
def minO : Option Nat → Nat → Option Nat
  | none, n => some n
  | some a, n => some (if n < a then n else a)
def rbl (g : Nat → Nat) (E : List Nat) : Nat → Nat → Option Nat → Option Nat
  | 0, _, a => a
  | q + 1, k, a => if E.getD k 0 = 0 then minO a (g k) else rbl g E q (k + 1) (minO a (g k))
def rbs (c : Nat → Nat) : List Nat → List Nat → Nat
  | [], E => maxL E
  | i :: rest, E => (rbl (fun k => rbs c rest (E.set k (E.getD k 0 + c i))) E E.length 0 none).getD 0
theorem minO_le (a : Option Nat) (n : Nat) : ∃ x, minO a n = some x ∧ x ≤ n ∧ (∀ y, a = some y → x ≤ y) ∧ (x = n ∨ a = some x) := by
  cases a with
  | none => exact ⟨n, rfl, Nat.le_refl _, fun y h => (by cases h), .inl rfl⟩
  | some y =>
    by_cases h : n < y
    · exact ⟨n, by simp [minO, h], Nat.le_refl _, fun z e => by cases e; omega, .inl rfl⟩
    · exact ⟨y, by simp [minO, h], by omega, fun z e => by cases e; omega, .inr rfl⟩
theorem rbl_le {g : Nat → Nat} {E : List Nat} : ∀ {q k x : Nat} {a : Option Nat}, rbl g E q k a = some x → (∀ y, a = some y → x ≤ y) ∧ ∀ j, k ≤ j → j < k + q → (∀ i, k ≤ i → i < j → E.getD i 0 ≠ 0) → x ≤ g j
  | 0, k, x, a, h => by
    simp only [rbl] at h
    subst h
    exact ⟨fun y e => by cases e; omega, fun j h1 h2 => by omega⟩
  | q + 1, k, x, a, h => by
    obtain ⟨z, h1, h2, h3, _⟩ := minO_le a (g k)
    simp only [rbl] at h
    split at h
    · rename_i h0
      rw [h1] at h
      cases h
      refine ⟨h3, fun j j1 j2 j3 => ?_⟩
      by_cases e : j = k
      · rw [e]; exact h2
      · exact absurd h0 (j3 k (Nat.le_refl _) (by omega))
    · obtain ⟨h4, h5⟩ := rbl_le h
      have hz := h4 z h1
      refine ⟨fun y e => Nat.le_trans hz (h3 y e), fun j j1 j2 j3 => ?_⟩
      by_cases e : j = k
      · rw [e]; omega
      · exact h5 j (by omega) (by omega) fun i i1 i2 => j3 i (by omega) i2
theorem rbl_mem {g : Nat → Nat} {E : List Nat} : ∀ {q k x : Nat} {a : Option Nat}, rbl g E q k a = some x → a = some x ∨ ∃ j, k ≤ j ∧ j < k + q ∧ (∀ i, k ≤ i → i < j → E.getD i 0 ≠ 0) ∧ x = g j
  | 0, k, x, a, h => .inl h
  | q + 1, k, x, a, h => by
    obtain ⟨z, h1, _, _, h4⟩ := minO_le a (g k)
    have hz : z = x → a = some x ∨ ∃ j, k ≤ j ∧ j < k + (q + 1) ∧ (∀ i, k ≤ i → i < j → E.getD i 0 ≠ 0) ∧ x = g j := fun e => by
      subst e
      rcases h4 with h4 | h4
      · exact .inr ⟨k, Nat.le_refl _, by omega, fun i i1 i2 => by omega, h4⟩
      · exact .inl h4
    simp only [rbl] at h
    split at h
    · rw [h1] at h; cases h; exact hz rfl
    · rename_i hnz
      rcases rbl_mem h with h5 | ⟨j, j1, j2, j3, j4⟩
      · rw [h1] at h5; cases h5; exact hz rfl
      · exact .inr ⟨j, by omega, by omega, fun i i1 i2 => by
          by_cases e : i = k
          · rw [e]; exact hnz
          · exact j3 i (by omega) i2, j4⟩
theorem rbl_some {g : Nat → Nat} {E : List Nat} : ∀ {q k : Nat} {a : Option Nat}, 0 < q ∨ a.isSome = true → ∃ x, rbl g E q k a = some x
  | 0, k, a, h => by
    simp only [rbl]
    rcases h with h | h
    · omega
    · exact Option.isSome_iff_exists.1 h
  | q + 1, k, a, h => by
    obtain ⟨z, h1, _⟩ := minO_le a (g k)
    simp only [rbl]
    split
    · exact ⟨z, h1⟩
    · exact rbl_some (.inr (by rw [h1]; rfl))
def zeroE (E : List Nat) : Prop := ∀ i j, i ≤ j → E.getD i 0 = 0 → E.getD j 0 = 0
theorem rbs_ok {c : Nat → Nat} {m : Nat} (hm : 0 < m) : ∀ {rem E : List Nat}, E.length = m → zeroE E → rem.Nodup → (∀ i ∈ rem, 0 < c i) → (∃ f, Fits c m E rem f (rbs c rem E)) ∧ ∀ f v, Fits c m E rem f v → rbs c rem E ≤ v
  | [], E, hE, _, _, _ => ⟨⟨fun _ => 0, fits_nil hE⟩, fun f v h => h.max hE⟩
  | i :: rest, E, hE, hz, hn, hc => by
    obtain ⟨n1, n2⟩ := List.nodup_cons.1 hn
    have hci := hc i List.mem_cons_self
    have hrest : ∀ j ∈ rest, 0 < c j := fun j hj => hc j (List.mem_cons_of_mem _ hj)
    obtain ⟨x, hx⟩ := rbl_some (g := fun k => rbs c rest (E.set k (E.getD k 0 + c i))) (E := E) (q := E.length) (k := 0) (a := none) (.inl (by omega))
    have hr : rbs c (i :: rest) E = x := by simp only [rbs, hx, Option.getD_some]
    have hle := (rbl_le hx).2
    have hzs : ∀ k, k < m → (∀ j, j < k → E.getD j 0 ≠ 0) → zeroE (E.set k (E.getD k 0 + c i)) := fun k hk hpre a b hab ha => by
      rw [getD_set (by omega)] at ha ⊢
      by_cases e : k = a
      · rw [if_pos e] at ha; omega
      · rw [if_neg e] at ha
        by_cases h1 : a < k
        · exact absurd ha (hpre a h1)
        · rw [if_neg (by omega)]
          exact hz a b hab ha
    rw [hr]
    constructor
    · rcases rbl_mem hx with h | ⟨k, _, k2, k3, k4⟩
      · cases h
      · have hpre : ∀ j, j < k → E.getD j 0 ≠ 0 := fun j hj => k3 j (Nat.zero_le _) hj
        obtain ⟨⟨f, hf⟩, _⟩ := rbs_ok hm (rem := rest) (E := E.set k (E.getD k 0 + c i)) (by rw [List.length_set]; exact hE) (hzs k (by omega) hpre) n2 hrest
        rw [k4]
        exact ⟨_, hf.back (by omega) hE n1⟩
    · intro f v hf
      have hfi := hf.rng i List.mem_cons_self
      have hsub : ∀ k f', k < m → (∀ j, j < k → E.getD j 0 ≠ 0) → Fits c m (E.set k (E.getD k 0 + c i)) rest f' v → x ≤ v := fun k f' hk hpre hf' => by
        obtain ⟨_, hmin⟩ := rbs_ok hm (rem := rest) (E := E.set k (E.getD k 0 + c i)) (by rw [List.length_set]; exact hE) (hzs k hk hpre) n2 hrest
        exact Nat.le_trans (hle k (Nat.zero_le _) (by omega) fun j _ hj => hpre j hj) (hmin f' v hf')
      have hfst : ∀ r, (∀ j, j < r → E.getD j 0 ≠ 0) ∨ ∃ z, z < r ∧ E.getD z 0 = 0 ∧ ∀ j, j < z → E.getD j 0 ≠ 0 := fun r => by
        induction r with
        | zero => exact .inl fun j hj => by omega
        | succ r ih =>
          rcases ih with ih | ⟨z, z1, z2, z3⟩
          · by_cases h0 : E.getD r 0 = 0
            · exact .inr ⟨r, by omega, h0, ih⟩
            · exact .inl fun j hj => by
                by_cases e : j = r
                · rw [e]; exact h0
                · exact ih j (by omega)
          · exact .inr ⟨z, by omega, z2, z3⟩
      rcases hfst (f i) with h1 | ⟨z, z1, z2, z3⟩
      · exact hsub (f i) f hfi h1 (hf.step hE)
      · have h0 := hz z (f i) (by omega) z2
        have hst := (hf.swap (a := f i) (b := z) hfi (by omega) (by rw [h0, z2])).step hE
        have e : swp (f i) z (f i) = z := by unfold swp; rw [if_pos rfl]
        simp only [e] at hst
        exact hsub z _ (by omega) z3 hst
theorem zeroE_rep (m : Nat) : zeroE (List.replicate m 0) := fun i j _ _ => by
  rw [List.getD_eq_getElem?_getD, List.getElem?_replicate]
  split <;> rfl
theorem getD_rep (m r : Nat) : (List.replicate m 0).getD r 0 = 0 := by
  rw [List.getD_eq_getElem?_getD, List.getElem?_replicate]
  split <;> rfl
theorem fits_ends {c f : Nat → Nat} {m v : Nat} {l : List Nat} : Fits c m (List.replicate m 0) l f v ↔ Ends c m l f v := by
  constructor
  · intro h
    exact ⟨h.rng, fun r hr => by have := h.le r hr; rw [getD_rep] at this; omega⟩
  · intro h
    exact ⟨h.rng, fun r hr => by rw [getD_rep]; have := h.le r hr; omega⟩
def bndU (c : Nat → Nat) (m : Nat) (l : List Nat) : Nat := max (maxL (l.map c)) (((l.map c).sum + m - 1) / m)
theorem bnd_le {c f : Nat → Nat} {m v : Nat} {l : List Nat} (hm : 0 < m) (h : Ends c m l f v) : bndU c m l ≤ v := by
  have h1 : maxL (l.map c) ≤ v := maxL_bd fun x hx => by
    obtain ⟨i, hi, rfl⟩ := List.mem_map.1 hx
    exact h.one hi
  have h2 := h.sum
  have h3 : ((l.map c).sum + m - 1) / m ≤ v := by
    refine Nat.lt_succ_iff.1 ((Nat.div_lt_iff_lt_mul hm).2 ?_)
    rw [Nat.succ_mul, Nat.mul_comm v m]; omega
  unfold bndU
  omega
theorem ends_zero {c : Nat → Nat} {m : Nat} (hm : 0 < m) (l : List Nat) : Ends c m l (fun _ => 0) (l.map c).sum := by
  refine ⟨fun i _ => hm, fun r hr => ?_⟩
  by_cases e : r = 0
  · subst e; rw [loadF_all fun i _ => rfl]; exact Nat.le_refl _
  · rw [loadF_none fun i _ => by omega]; exact Nat.zero_le _
theorem plc_ok {c : Nat → Nat} {m B : Nat} {Z l : List Nat} (hm : 0 < m) (hp : Z.Perm l) (hn : Z.Nodup) (hB : (l.map c).sum < B) : (∃ f, Ends c m l f (plc c m (bndU c m l) Z (List.replicate m 0) B)) ∧ ∀ f v, Ends c m l f v → plc c m (bndU c m l) Z (List.replicate m 0) B ≤ v := by
  have hE : (List.replicate m 0).length = m := List.length_replicate
  have hmin : ∀ f v, Ends c m l f v → plc c m (bndU c m l) Z (List.replicate m 0) B ≤ v := fun f v h => by
    rcases plc_best (least := bndU c m l) (best := B) hE (fits_ends.2 (h.perm hp.symm)) with h1 | h1
    · exact h1
    · rw [h1]; exact bnd_le hm h
  have h0 := hmin _ _ (ends_zero hm l)
  obtain ⟨f, hf⟩ := plc_done (rem := Z) (least := bndU c m l) (best := B) hE hn (Nat.lt_of_le_of_lt h0 hB)
  exact ⟨⟨f, (fits_ends.1 hf).perm hp⟩, hmin⟩
theorem best_same {c : Nat → Nat} {m B : Nat} {Z l : List Nat} (hm : 0 < m) (hp : Z.Perm l) (hn : l.Nodup) (hc : ∀ i ∈ l, 0 < c i) (hB : (l.map c).sum < B) : plc c m (bndU c m l) Z (List.replicate m 0) B = rbs c l (List.replicate m 0) := by
  obtain ⟨⟨f, hf⟩, hmin⟩ := plc_ok hm hp (hp.symm.nodup hn) hB
  obtain ⟨⟨g, hg⟩, hmin2⟩ := rbs_ok hm (List.length_replicate (n := m) (a := 0)) (zeroE_rep m) hn hc
  exact Nat.le_antisymm (hmin g _ (fits_ends.1 hg)) (hmin2 f _ (fits_ends.2 hf))
end Go.Proofs.Ytgkfmlgfmcpebaa.Sx
namespace Go.Proofs.Ytgkfmlgfmcpebaa.Sx
structure CmpO (c : Nat → Nat → Int) : Prop where
  anti : ∀ x y, c x y < 0 ↔ 0 < c y x
  tr : ∀ x y z, c x y ≤ 0 → c y z ≤ 0 → c x z ≤ 0
def ltS (c : Nat → Nat → Int) (x y : Nat) : Prop := c x y < 0 ∨ (c x y = 0 ∧ x < y)
variable {c : Nat → Nat → Int}
theorem CmpO.zero (h : CmpO c) {x y : Nat} (e : c x y = 0) : c y x = 0 := by
  have h1 := h.anti x y
  have h2 := h.anti y x
  omega
theorem CmpO.lt_le (h : CmpO c) {x y z : Nat} (h1 : c x y < 0) (h2 : c y z ≤ 0) : c x z < 0 := by
  have h3 := h.tr x y z (by omega) h2
  rcases Int.lt_or_eq_of_le h3 with h4 | h4
  · exact h4
  · have h5 := h.zero h4
    have h6 := h.tr y z x h2 (by omega)
    have h7 := h.anti x y
    omega
theorem CmpO.le_lt (h : CmpO c) {x y z : Nat} (h1 : c x y ≤ 0) (h2 : c y z < 0) : c x z < 0 := by
  have h3 := h.tr x y z h1 (by omega)
  rcases Int.lt_or_eq_of_le h3 with h4 | h4
  · exact h4
  · have h5 := h.zero h4
    have h6 := h.tr z x y (by omega) h1
    have h7 := h.anti y z
    omega
theorem ltS_trans (h : CmpO c) {x y z : Nat} (h1 : ltS c x y) (h2 : ltS c y z) : ltS c x z := by
  rcases h1 with h1 | ⟨h1, h1'⟩
  · rcases h2 with h2 | ⟨h2, _⟩
    · exact .inl (h.lt_le h1 (by omega))
    · exact .inl (h.lt_le h1 (by omega))
  · rcases h2 with h2 | ⟨h2, h2'⟩
    · exact .inl (h.le_lt (by omega) h2)
    · refine .inr ⟨?_, by omega⟩
      have h3 := h.tr x y z (by omega) (by omega)
      have h4 := h.tr z y x (by have := h.zero h2; omega) (by have := h.zero h1; omega)
      have h5 := h.anti x z
      omega
theorem ltS_total (h : CmpO c) {x y : Nat} (hn : x ≠ y) : ltS c x y ∨ ltS c y x := by
  have h1 := h.anti x y
  have h2 := h.anti y x
  unfold ltS
  by_cases h3 : c x y < 0
  · exact .inl (.inl h3)
  · by_cases h4 : c y x < 0
    · exact .inr (.inl h4)
    · have : c x y = 0 := by omega
      have : c y x = 0 := by omega
      rcases Nat.lt_or_gt_of_ne hn with h5 | h5
      · exact .inl (.inr ⟨by assumption, h5⟩)
      · exact .inr (.inr ⟨by assumption, h5⟩)
theorem ltS_irrefl (h : CmpO c) {x : Nat} : ¬ ltS c x x := fun h1 => by
  have h2 := h.anti x x
  rcases h1 with h1 | ⟨_, h1⟩ <;> omega
theorem ltS_asymm (h : CmpO c) {x y : Nat} (h1 : ltS c x y) : ¬ ltS c y x := fun h2 => ltS_irrefl h (ltS_trans h h1 h2)
theorem ltS_ask {x y : Nat} (h : x < y) : (c y x < 0) ↔ ltS c y x := ⟨fun h1 => .inl h1, fun h1 => by
  rcases h1 with h1 | ⟨_, h1⟩
  · exact h1
  · omega⟩
theorem ltS_not (h : CmpO c) {x y : Nat} (hxy : x < y) (h1 : ¬ c y x < 0) : ltS c x y := by
  rcases ltS_total h (Nat.ne_of_lt hxy) with h2 | h2
  · exact h2
  · exact absurd ((ltS_ask hxy).2 h2) h1
def ahead (c : Nat → Nat → Int) (A B : List Nat) : Prop := ∀ x ∈ A, ∀ y ∈ B, ltS c x y
theorem pw_app {A B : List Nat} : (A ++ B).Pairwise (ltS c) ↔ A.Pairwise (ltS c) ∧ B.Pairwise (ltS c) ∧ ahead c A B := by
  rw [List.pairwise_append]; rfl
theorem ahead_ends (h : CmpO c) {A B : List Nat} (hA : A.Pairwise (ltS c)) (hB : B.Pairwise (ltS c)) (he : ∀ A' x y B', A = A' ++ [x] → B = y :: B' → ltS c x y) : ahead c A B := fun x hx y hy => by
  rcases List.eq_nil_or_concat A with rfl | ⟨A', a, rfl⟩
  · cases hx
  rcases B with _ | ⟨b, B'⟩
  · cases hy
  rw [List.concat_eq_append] at hA hx he
  have h1 := he A' a b B' rfl rfl
  have h2 : x = a ∨ ltS c x a := by
    rcases List.mem_append.1 hx with h3 | h3
    · exact .inr ((List.pairwise_append.1 hA).2.2 x h3 a (by simp))
    · exact .inl (List.mem_singleton.1 h3)
  have h3 : y = b ∨ ltS c b y := by
    rcases List.mem_cons.1 hy with h4 | h4
    · exact .inl h4
    · exact .inr ((List.pairwise_cons.1 hB).1 y h4)
  have h4 : ltS c a y := by
    rcases h3 with rfl | h3
    · exact h1
    · exact ltS_trans h h1 h3
  rcases h2 with rfl | h2
  · exact h4
  · exact ltS_trans h h2 h4
theorem sorted_one (h : CmpO c) : ∀ {A B : List Nat}, A.Perm B → A.Pairwise (ltS c) → B.Pairwise (ltS c) → A = B
  | [], B, hp, _, _ => by rw [List.nil_perm] at hp; exact hp.symm
  | a :: A, [], hp, _, _ => by rw [List.perm_nil] at hp; exact hp
  | a :: A, b :: B, hp, hA, hB => by
    have hab : a = b := by
      have h1 : a ∈ b :: B := hp.subset List.mem_cons_self
      have h2 : b ∈ a :: A := hp.symm.subset List.mem_cons_self
      rcases List.mem_cons.1 h1 with h1 | h1
      · exact h1
      · rcases List.mem_cons.1 h2 with h2 | h2
        · exact h2.symm
        · exact absurd ((List.pairwise_cons.1 hA).1 b h2) (ltS_asymm h ((List.pairwise_cons.1 hB).1 a h1))
    subst hab
    rw [sorted_one h ((List.perm_cons a).1 hp) (List.pairwise_cons.1 hA).2 (List.pairwise_cons.1 hB).2]
end Go.Proofs.Ytgkfmlgfmcpebaa.Sx
namespace Go.Proofs.Ytgkfmlgfmcpebaa.Sx
open Go
set_option linter.unusedVariables false
abbrev Bst := List UInt8
structure TK where
  pk : Bst
  ts : Bst
  env : Int
  cost : Int
def TK.c (x : TK) : List Value := [.string (bs x.pk), .string (bs x.ts), .int .i64 x.env, .int .i64 x.cost]
def usaT (x : TK) : Bool := decide (1 ≤ x.pk.length) && decide (x.pk.length ≤ 24) && decide (1 ≤ x.ts.length) && decide (x.ts.length ≤ 24)
def chkT (x : TK) : Bool := usaT x && decide (0 ≤ x.env) && decide (x.env ≤ 63) && decide (1 ≤ x.cost) && decide (x.cost ≤ 1048576)
def chkTL (T : List TK) : Bool := decide (T.length ≤ 64) && T.all chkT
def errT (T : List TK) (n : Int) : Int := if chkTL T then (if 1 ≤ n ∧ n ≤ 8 then 0 else 3) else 1
def cosI (T : List TK) (i : Nat) : Int := ((T[i]?).map TK.cost).getD 0
def cosN (T : List TK) (i : Nat) : Nat := (cosI T i).toNat
def cmpZ (a b : Int) : Int := if a < b then -1 else if b < a then 1 else 0
def cosC (T : List TK) (x y : Nat) : Int := cmpZ (cosI T y) (cosI T x)
theorem cosC_ord (T : List TK) : CmpO (cosC T) := ⟨fun x y => by unfold cosC cmpZ; (repeat' split) <;> omega, fun x y z h1 h2 => by
  unfold cosC cmpZ at *
  (repeat' split at h1) <;> (repeat' split at h2) <;> (repeat' split) <;> omega⟩
theorem cosI_in {T : List TK} {i : Nat} (h : i < T.length) : cosI T i = T[i].cost := by unfold cosI; rw [List.getElem?_eq_getElem h]; rfl
theorem chkT_parts {x : TK} (h : chkT x = true) : 0 ≤ x.env ∧ x.env ≤ 63 ∧ 1 ≤ x.cost ∧ x.cost ≤ 1048576 := by
  unfold chkT at h
  simp only [Bool.and_eq_true, decide_eq_true_eq] at h
  exact ⟨h.1.1.1.2, h.1.1.2, h.1.2, h.2⟩
theorem chkTL_parts {T : List TK} (h : chkTL T = true) : T.length ≤ 64 ∧ ∀ i, i < T.length → 1 ≤ cosI T i ∧ cosI T i ≤ 1048576 := by
  unfold chkTL at h
  simp only [Bool.and_eq_true, decide_eq_true_eq, List.all_eq_true] at h
  refine ⟨h.1, fun i hi => ?_⟩
  have := chkT_parts (h.2 _ (List.getElem_mem hi))
  rw [cosI_in hi]; exact this.2.2
def lonZ (T : List TK) (Z : List Nat) : Prop := Z.Perm (List.range T.length) ∧ Z.Pairwise (ltS (cosC T))
theorem lonZ_one {T : List TK} {Z W : List Nat} (h : lonZ T Z) (k : lonZ T W) : Z = W := sorted_one (cosC_ord T) (h.1.trans k.1.symm) h.2 k.2
theorem lonZ_in {T : List TK} {Z : List Nat} (h : lonZ T Z) : ∀ x ∈ Z, x < T.length := fun x hx => List.mem_range.1 (h.1.subset hx)
def divP (T : List TK) (m : Nat) (may : Nat → Nat → Bool) (P : Option (List (List Nat))) : Prop := ∃ Z, lonZ T Z ∧ P = (giveS may (cosN T) m Z (List.replicate m 0) (List.replicate m [])).map Prod.snd
theorem divP_one {T : List TK} {m : Nat} {may : Nat → Nat → Bool} {P Q : Option (List (List Nat))} (h : divP T m may P) (k : divP T m may Q) : P = Q := by
  obtain ⟨Z, h1, h2⟩ := h
  obtain ⟨W, k1, k2⟩ := k
  rw [h2, k2, lonZ_one h1 k1]
def divO (P : Option (List (List Nat))) : List (List Nat) := P.getD []
def divE (P : Option (List (List Nat))) : Int := if P.isSome then 0 else 18
end Go.Proofs.Ytgkfmlgfmcpebaa.Sx
namespace Go.Proofs.Ytgkfmlgfmcpebaa.Sx
open Go Go.RowKit
set_option linter.unusedVariables false
set_option linter.unusedSimpArgs false
def famC (b : Nat) (Ls : List (List Value)) : List AV := Ls.mapIdx fun j l => .slo (j + b) 0 l.length 1
def famB (b : Nat) (T : TypeId) (Ls : List (List Value)) : Hp := Ls.mapIdx fun j l => (j + b, T, l.map .ext)
def famH (b : Nat) (T : TypeId) (Ls : List (List Value)) (r : Hp) : Hp := famB b T Ls ++ r
def famX (b : Nat) (T : TypeId) (Ls : List (List Value)) (i : Nat) (r : Hp) : Hp := killH (i + b) (famB b T Ls) ++ r
section
variable {b : Nat} {T : TypeId} {Ls : List (List Value)} {r h : Hp} {k i n : Nat}
theorem famB_cons (b : Nat) (T : TypeId) (l : List Value) (Ls : List (List Value)) : famB b T (l :: Ls) = (b, T, l.map .ext) :: famB (b + 1) T Ls := by
  unfold famB
  rw [List.mapIdx_cons, Nat.zero_add]
  congr 2
  funext j l
  rw [Nat.add_assoc, Nat.add_comm 1 b]
theorem lkH_famB : ∀ (Ls : List (List Value)) (b k : Nat), lkH (famB b T Ls) k = if b ≤ k then (Ls[k - b]?).map fun l => (T, l.map .ext) else none
  | [], b, k => by simp [famB, lkH]
  | l :: Ls, b, k => by
    rw [famB_cons]
    simp only [lkH]
    rw [lkH_famB Ls (b + 1) k]
    by_cases e : b = k
    · subst e; simp
    · rw [if_neg e]
      by_cases h1 : b + 1 ≤ k
      · rw [if_pos h1, if_pos (by omega)]
        have : k - b = (k - (b + 1)) + 1 := by omega
        rw [this, List.getElem?_cons_succ]
      · rw [if_neg h1, if_neg (by omega)]
theorem lkH_fam (hk : k < b) : lkH (famH b T Ls r) k = lkH r k := by
  unfold famH
  rw [lkH_append, lkH_famB, if_neg (by omega)]
theorem lkH_famI (hi : i < Ls.length) : lkH (famH b T Ls r) (i + b) = some (T, Ls[i].map .ext) := by
  unfold famH
  rw [lkH_append, lkH_famB, if_pos (by omega), Nat.add_sub_cancel, List.getElem?_eq_getElem hi]; rfl
theorem killH_app (k : Nat) : ∀ A B : Hp, killH k (A ++ B) = killH k A ++ killH k B
  | [], B => rfl
  | (j, T, cs) :: A, B => by
    simp only [List.cons_append, killH]
    split
    · exact killH_app k A B
    · rw [killH_app k A B]; rfl
theorem killL_exts (k : Nat) : ∀ vs : List Value, killL k (vs.map .ext) = vs.map .ext
  | [] => rfl
  | v :: r => by simp only [List.map_cons, killL, AV.kill, killL_exts k r]
theorem killH_famI : killH (i + b) (famH b T Ls r) = famX b T Ls i (killH (i + b) r) := by
  unfold famH famX
  rw [killH_app]
theorem lkH_famXJ {j : Nat} (hj : j < Ls.length) (hne : j ≠ i) : lkH (famX b T Ls i r) (j + b) = some (T, Ls[j].map .ext) := by
  unfold famX
  rw [lkH_append, lkH_killH, if_neg (by omega), lkH_famB, if_pos (by omega), Nat.add_sub_cancel, List.getElem?_eq_getElem hj]
  simp [killL_exts]
theorem hasK_app (k : Nat) (l m : List Nat) : hasK k (l ++ m) = (hasK k l || hasK k m) := by
  induction l with
  | nil => rfl
  | cons j l ih => simp [hasK, ih, Bool.or_assoc]
theorem mentH_app : ∀ A B : Hp, mentH (A ++ B) = mentH A ++ mentH B
  | [], B => rfl
  | (j, T, cs) :: A, B => by simp only [List.cons_append, mentH, mentH_app A B, List.append_assoc]
theorem hasK_famB : ∀ (Ls : List (List Value)) (b : Nat), k < b → hasK k (mentH (famB b T Ls)) = false
  | [], b, h => rfl
  | l :: Ls, b, h => by
    rw [famB_cons]
    simp only [mentH, mentL_ext, List.nil_append, hasK]
    rw [hasK_famB Ls (b + 1) (by omega), Bool.or_false]
    exact beq_eq_false_iff_ne.2 (by omega)
theorem hasK_fam (hk : k < b) : hasK k (mentH (famH b T Ls r)) = hasK k (mentH r) := by
  unfold famH
  rw [mentH_app, hasK_app, hasK_famB Ls b hk, Bool.false_or]
theorem subH_app (ks : List Nat) : ∀ A B : Hp, subH (A ++ B) ks = subH A ks ++ subH B ks
  | [], B => rfl
  | (j, x) :: A, B => by
    simp only [List.cons_append, subH]
    split
    · rw [subH_app ks A B]; rfl
    · exact subH_app ks A B
theorem subH_famB (ks : List Nat) : ∀ (Ls : List (List Value)) (b : Nat), (∀ j, b ≤ j → hasK j ks = false) → subH (famB b T Ls) ks = []
  | [], b, h => rfl
  | l :: Ls, b, h => by
    rw [famB_cons]
    simp only [subH, h b (Nat.le_refl _)]
    exact subH_famB ks Ls (b + 1) fun j hj => h j (by omega)
theorem ltB_has {ks : List Nat} (h : ltB b ks = true) {j : Nat} (hj : b ≤ j) : hasK j ks = false := hasK_no.2 fun hm => by
  have := ltB_mem h j hm
  omega
theorem subH_fam {ks : List Nat} (h : ltB b ks = true) : subH (famH b T Ls r) ks = subH r ks := by
  unfold famH
  rw [subH_app, subH_famB ks Ls b fun j hj => ltB_has h hj, List.nil_append]
theorem dropH_app (G : Hp) : ∀ A B : Hp, dropH G (A ++ B) = dropH G A ++ dropH G B
  | [], B => rfl
  | (j, x) :: A, B => by
    simp only [List.cons_append, dropH]
    split
    · exact dropH_app G A B
    · rw [dropH_app G A B]; rfl
theorem keysH_lk {H : Hp} : ∀ {j : Nat}, (lkH H j).isSome = true → j ∈ keysH H := fun {j} h => by
  induction H with
  | nil => simp [lkH] at h
  | cons x H ih =>
    obtain ⟨q, y⟩ := x
    simp only [lkH] at h
    simp only [keysH, List.mem_cons]
    split at h
    · rename_i e; exact .inl e.symm
    · exact .inr (ih h)
theorem dropH_famB (G : Hp) : ∀ (Ls : List (List Value)) (b : Nat), (∀ j, b ≤ j → lkH G j = none) → dropH G (famB b T Ls) = famB b T Ls
  | [], b, h => rfl
  | l :: Ls, b, h => by
    rw [famB_cons]
    simp only [dropH, h b (Nat.le_refl _)]
    rw [dropH_famB G Ls (b + 1) fun j hj => h j (by omega)]; rfl
theorem dropH_fam {G : Hp} (h : ltB b (keysH G) = true) : dropH G (famH b T Ls r) = famH b T Ls (dropH G r) := by
  unfold famH
  rw [dropH_app, dropH_famB G Ls b fun j hj => by
    cases e : lkH G j with
    | none => rfl
    | some x => have := ltB_mem h j (keysH_lk (by rw [e]; rfl)); omega]
theorem famC_len : (famC b Ls).length = Ls.length := by unfold famC; simp
theorem famC_at (hi : i < Ls.length) : (famC b Ls)[i]? = some (.slo (i + b) 0 Ls[i].length 1) := by
  unfold famC
  rw [List.getElem?_mapIdx, List.getElem?_eq_getElem hi]; rfl
theorem famC_get? (b : Nat) (Ls : List (List Value)) (i : Nat) : (famC b Ls)[i]? = (Ls[i]?).map fun l => .slo (i + b) 0 l.length 1 := by unfold famC; rw [List.getElem?_mapIdx]
theorem famC_set {l : List Value} (hl : l.length = n) : (famC b Ls).set i (.slo (i + b) 0 n 1) = famC b (Ls.set i l) := by
  refine List.ext_getElem? fun q => ?_
  rw [famC_get?, List.getElem?_set, List.getElem?_set, famC_len, famC_get?]
  by_cases e : i = q
  · subst e
    rw [if_pos rfl, if_pos rfl]
    split
    · rw [Option.map_some, hl]
    · rfl
  · rw [if_neg e, if_neg e]
theorem famC_ment : ∀ (Ls : List (List Value)) (b : Nat), k < b → hasK k (mentL (famC b Ls)) = false := fun Ls b h => hasK_no.2 fun hm => by
  obtain ⟨v, hv, hk⟩ := mentL_mem hm
  obtain ⟨q, hq, e⟩ := List.getElem_of_mem hv
  have : (famC b Ls)[q]? = some v := by rw [List.getElem?_eq_getElem hq, e]
  rw [famC_get?] at this
  cases hl : Ls[q]? with
  | none => rw [hl] at this; cases this
  | some l =>
    rw [hl] at this
    simp only [Option.map_some, Option.some.injEq] at this
    rw [← this] at hk
    simp [AV.ment] at hk
    omega
theorem famC_killI : killL (i + b) (famC b Ls) = (famC b Ls).set i .unk := by
  refine List.ext_getElem? fun q => ?_
  rw [killL_get, List.getElem?_set, famC_len, famC_get?]
  by_cases e : i = q
  · subst e
    rw [if_pos rfl]
    split
    · rename_i hlt; rw [List.getElem?_eq_getElem hlt]; simp [AV.kill]
    · rename_i hlt; rw [List.getElem?_eq_none (by omega)]; rfl
  · rw [if_neg e]
    cases Ls[q]? with
    | none => rfl
    | some l => simp only [Option.map_some, AV.kill]; rw [if_neg (by omega)]
theorem subHp_app : ∀ {A B h : Hp}, subHp A h → subHp B h → subHp (A ++ B) h
  | [], B, h, _, hb => hb
  | (j, x) :: A, B, h, ha, hb => ⟨ha.1, subHp_app ha.2 hb⟩
theorem subHp_famB : ∀ (Ls : List (List Value)) (b : Nat), (∀ i (hi : i < Ls.length), lkH h (i + b) = some (T, Ls[i].map .ext)) → subHp (famB b T Ls) h
  | [], b, _ => trivial
  | l :: Ls, b, hl => by
    rw [famB_cons]
    refine ⟨by have := hl 0 (by simp); rwa [Nat.zero_add] at this, subHp_famB Ls (b + 1) fun i hi => ?_⟩
    have := hl (i + 1) (by simpa using hi)
    rw [show i + (b + 1) = i + 1 + b by omega]
    simpa using this
theorem subHp_fam (h1 : ∀ i (hi : i < Ls.length), lkH h (i + b) = some (T, Ls[i].map .ext)) (h2 : subHp r h) : subHp (famH b T Ls r) h := subHp_app (subHp_famB Ls b h1) h2
theorem keepLt_app {kb : Nat} {z : Hp} : ∀ {A B : Hp}, keepLt kb z A → keepLt kb z B → keepLt kb z (A ++ B)
  | [], B, _, hb => hb
  | (j, x) :: A, B, ha, hb => ⟨ha.1, keepLt_app ha.2 hb⟩
theorem keepLt_famB {kb : Nat} {z : Hp} : ∀ (Ls : List (List Value)) (b : Nat), kb ≤ b → keepLt kb z (famB b T Ls)
  | [], b, _ => trivial
  | l :: Ls, b, h => by
    rw [famB_cons]
    exact ⟨.inl h, keepLt_famB Ls (b + 1) (by omega)⟩
theorem keepLt_kill {kb : Nat} {z : Hp} (j : Nat) : ∀ {A : Hp}, keepLt kb z A → keepLt kb z (killH j A)
  | [], h => h
  | (q, x) :: A, h => by
    obtain ⟨T, cs⟩ := x
    simp only [killH]
    split
    · exact keepLt_kill j h.2
    · exact ⟨h.1, keepLt_kill j h.2⟩
theorem keepLt_fam {kb : Nat} {z : Hp} (hb : kb ≤ b) (h2 : keepLt kb z r) : keepLt kb z (famH b T Ls r) := keepLt_app (keepLt_famB Ls b hb) h2
theorem keepLt_famX {kb : Nat} {z : Hp} (hb : kb ≤ b) (h2 : keepLt kb z r) : keepLt kb z (famX b T Ls i r) := keepLt_app (keepLt_kill _ (keepLt_famB Ls b hb)) h2
end
end Go.Proofs.Ytgkfmlgfmcpebaa.Sx
namespace Go.Proofs.Ytgkfmlgfmcpebaa.Sx
open Go Go.RowKit
set_option linter.unusedVariables false
set_option linter.unusedSimpArgs false
mutual
def BorI (M0 M : Mem) (H : Hp) : AV → Value → Prop
  | .ext v, u => u = v
  | .slo k off n z, u => FreshS M0 u ∧ ∀ T (cs : List Value), lkH H k = some (T, cs.map .ext) → off + n * z ≤ cs.length → SlM M z u n ((cs.drop off).take (n * z))
  | .own _ _, _ => True
  | .gd _ _, _ => True
  | .gown _ _ _, _ => True
  | .ag _ _, _ => True
  | .fn _ _, _ => True
  | .unk, _ => True
def BorIL (M0 M : Mem) (H : Hp) : List AV → List Value → Prop
  | [], us => us = []
  | v :: l, us => ∃ u r, us = u :: r ∧ BorI M0 M H v u ∧ BorIL M0 M H l r
end
def BorO (M0 M : Mem) (H : Hp) : AV → Value → Prop
  | .ext v, u => u = v
  | .slo k off n z, u => FreshS M0 u ∧ ∀ T cs, lkH H k = some (T, cs) → off + n * z ≤ cs.length → ∃ vs, SlM M z u n vs ∧ BorIL M0 M H ((cs.drop off).take (n * z)) vs
  | .own _ _, _ => True
  | .gd _ _, _ => True
  | .gown _ _ _, _ => True
  | .ag _ _, _ => True
  | .fn _ _, _ => True
  | .unk, _ => True
theorem slo_SlMg {ρ : Rho} {M : Mem} {w : World} {k off n z : Nat} {u : Value} {T : TypeId} {cs : List AV} (hu : (AV.slo k off n z).is ρ u) (hl : off + n * z ≤ cs.length) (hr : ∀ b, ρ k = some b → ∃ arr, M b.b = some (.cells arr T (0, 0)) ∧ Row ρ w T cs b arr) : ∃ vs, SlM M z u n vs ∧ isL ρ ((cs.drop off).take (n * z)) vs := by
  have hlen0 : ((cs.drop off).take (n * z)).length = n * z := by rw [List.length_take, List.length_drop]; omega
  rcases hu with ⟨b, cap, hb, rfl, h1, h2⟩ | ⟨rfl, a, ha, rfl⟩
  · obtain ⟨arr, h3, h4⟩ := hr b hb
    have hp := h4.part hl
    have hlen := (isL_length hp).trans hlen0
    refine ⟨_, ⟨rfl, rfl, h1, hlen, ?_⟩, hp⟩
    simp only [rowS]
    refine rowM_of hlen fun i v hi => ?_
    have hin : i < n * z := by have := (List.getElem?_eq_some_iff.1 hi).1; omega
    rw [List.getElem?_take_of_lt hin, List.getElem?_drop] at hi
    simp only [cellM, h3]
    simpa using hi
  · have h0 : ((cs.drop off).take (0 * z)) = [] := by simp
    rw [h0]
    refine ⟨[], ⟨rfl, rfl, Nat.zero_le _, by simp, ?_⟩, by simp [isL]⟩
    cases a with
    | none => rfl
    | some a =>
      obtain ⟨b, off, sp⟩ := a
      cases sp with
      | none => simp [rowS, rowM]
      | some x => cases ha _ rfl
section
variable {ρ : Rho} {M0 M : Mem} {H : Hp} {w : World}
theorem slo_fresh {k off n z : Nat} {u : Value} (hu : (AV.slo k off n z).is ρ u) (h : ∀ b, ρ k = some b → M0 b.b = none) : FreshS M0 u := by
  rcases hu with ⟨b, cap, hb, e, h5, h6⟩ | ⟨e, a, ha, e2⟩
  · refine .inr fun b' off n' c e' => ?_
    rw [e] at e'
    cases e'
    exact h b hb
  · refine .inl ?_
    rw [e2]; rfl
def HoldH (ρ : Rho) (M0 M : Mem) (H : Hp) (w : World) : Prop := ∀ k T cs b, lkH H k = some (T, cs) → ρ k = some b → (∃ arr, M b.b = some (.cells arr T (0, 0)) ∧ Row ρ w T cs b arr) ∧ M0 b.b = none
def closedH (H : Hp) : Prop := ∀ k T cs j, lkH H k = some (T, cs) → j ∈ mentL cs → (lkH H j).isSome = true
theorem borI_is (hM : HoldH ρ M0 M H w) : ∀ (v : AV) (u : Value), (∀ j ∈ v.ment, (lkH H j).isSome = true) → v.is ρ u → BorI M0 M H v u := fun v u hj h => by
  cases v with
  | ext _ => exact h
  | slo k off n z =>
    obtain ⟨x, hx⟩ := Option.isSome_iff_exists.1 (hj k (by simp [AV.ment]))
    exact ⟨slo_fresh h fun b hb => (hM k x.1 x.2 b hx hb).2, fun T cs hk hl => slo_SlMo h (by simpa using hl) fun b hb => (hM k T _ b hk hb).1⟩
  | _ => simp only [BorI]
theorem borIL_is (hM : HoldH ρ M0 M H w) : ∀ (l : List AV) (us : List Value), (∀ j ∈ mentL l, (lkH H j).isSome = true) → isL ρ l us → BorIL M0 M H l us
  | [], us, _, h => by simpa [BorIL, isL] using h
  | v :: l, us, hj, h => by
    obtain ⟨u, r, h0, h1, h2⟩ := h
    simp only [BorIL]
    exact ⟨u, r, h0, borI_is hM v u (fun j hm => hj j (by simp only [mentL, List.mem_append]; exact .inl hm)) h1, borIL_is hM l r (fun j hm => hj j (by simp only [mentL, List.mem_append]; exact .inr hm)) h2⟩
theorem mentL_part {l : List AV} {j i n : Nat} (h : j ∈ mentL ((l.drop i).take n)) : j ∈ mentL l := mentL_drop (mentL_take h)
theorem borO_is (hM : HoldH ρ M0 M H w) (hc : closedH H) : ∀ (v : AV) (u : Value), (∀ j ∈ v.ment, (lkH H j).isSome = true) → v.is ρ u → BorO M0 M H v u := fun v u hj h => by
  cases v with
  | ext _ => exact h
  | slo k off n z =>
    obtain ⟨x, hx⟩ := Option.isSome_iff_exists.1 (hj k (by simp [AV.ment]))
    refine ⟨slo_fresh h fun b hb => (hM k x.1 x.2 b hx hb).2, fun T cs hk hl => ?_⟩
    obtain ⟨vs, h1, h2⟩ := slo_SlMg h hl fun b hb => (hM k T _ b hk hb).1
    exact ⟨vs, h1, borIL_is hM _ _ (fun j hm => hc k T cs j hk (mentL_part hm)) h2⟩
  | _ => simp only [BorO]
end
structure LLu (M : Mem) (U : Value) (us : List Value) (Ls : List (List Value)) : Prop where
  out : SlM M 1 U Ls.length us
  len : us.length = Ls.length
  at_ : ∀ i (h : i < Ls.length), SlM M 1 (us[i]'(by omega)) Ls[i].length Ls[i]
def LL (M : Mem) (U : Value) (Ls : List (List Value)) : Prop := ∃ us, LLu M U us Ls
theorem LLu.le {M M' : Mem} {U : Value} {us : List Value} {Ls : List (List Value)} (h : LLu M U us Ls) (hM : Mem.le M M') : LLu M' U us Ls := ⟨h.out.le hM, h.len, fun i hi => (h.at_ i hi).le hM⟩
theorem LL.le {M M' : Mem} {U : Value} {Ls : List (List Value)} (h : LL M U Ls) (hM : Mem.le M M') : LL M' U Ls := h.elim fun us hu => ⟨us, hu.le hM⟩
structure LLF (M0 M : Mem) (U : Value) (Ls : List (List Value)) : Prop where
  all : ∃ us, LLu M U us Ls ∧ FreshS M0 U ∧ ∀ u ∈ us, FreshS M0 u
theorem LLF.ll {M0 M : Mem} {U : Value} {Ls : List (List Value)} (h : LLF M0 M U Ls) : LL M U Ls := h.all.elim fun us hu => ⟨us, hu.1⟩
theorem LLF.older {M0 M1 M : Mem} {U : Value} {Ls : List (List Value)} (h : LLF M1 M U Ls) (hM : Mem.le M0 M1) : LLF M0 M U Ls := by
  obtain ⟨us, h1, h2, h3⟩ := h.all
  exact ⟨us, h1, h2.le hM, fun u hu => (h3 u hu).le hM⟩
theorem LLF.move {M' M'' M3 : Mem} {U : Value} {Ls : List (List Value)} (h : LLF M' M'' U Ls) (h3 : ∀ b, M' b = none → M3 b = M'' b) : LL M3 U Ls := by
  obtain ⟨us, h1, h2, h4⟩ := h.all
  exact ⟨us, h1.out.move h2 h3, h1.len, fun i hi => (h1.at_ i hi).move (h4 _ (List.getElem_mem _)) h3⟩
theorem BorIL.get {M0 M : Mem} {H : Hp} : ∀ {l : List AV} {us : List Value}, BorIL M0 M H l us → us.length = l.length ∧ ∀ i (h : i < us.length) v, l[i]? = some v → BorI M0 M H v us[i]
  | [], us, h => by
    simp only [BorIL] at h
    subst h
    exact ⟨rfl, fun i h => by simp at h⟩
  | v :: l, us, h => by
    simp only [BorIL] at h
    obtain ⟨u, r, rfl, h1, h2⟩ := h
    obtain ⟨h3, h4⟩ := BorIL.get h2
    refine ⟨by simp [h3], fun i hi w hw => ?_⟩
    cases i with
    | zero => simp at hw; subst hw; exact h1
    | succ i => exact h4 i (by simpa using hi) w (by simpa using hw)
theorem BorO.fam {M0 M : Mem} {H : Hp} {k n b : Nat} {T0 T : TypeId} {u : Value} {Ls : List (List Value)} (h : BorO M0 M H (.slo k 0 n 1) u) (hk : lkH H k = some (T0, famC b Ls)) (hn : n = Ls.length) (hb : ∀ i (hi : i < Ls.length), lkH H (i + b) = some (T, Ls[i].map .ext)) : LLF M0 M u Ls := by
  subst hn
  obtain ⟨h0, h1⟩ := h
  obtain ⟨vs, h2, h3⟩ := h1 T0 _ hk (by rw [famC_len]; omega)
  rw [List.drop_zero, List.take_of_length_le (by rw [famC_len]; omega)] at h3
  obtain ⟨h4, h5⟩ := h3.get
  rw [famC_len] at h4
  have hat : ∀ i (hi : i < Ls.length), FreshS M0 (vs[i]'(by omega)) ∧ SlM M 1 (vs[i]'(by omega)) Ls[i].length Ls[i] := fun i hi => by
    obtain ⟨g1, g2⟩ := h5 i (by omega) _ (famC_at hi)
    have := g2 T Ls[i] (hb i hi) (by omega)
    rw [List.drop_zero, List.take_of_length_le (by omega)] at this
    exact ⟨g1, this⟩
  refine ⟨vs, ⟨h2, h4, fun i hi => (hat i hi).2⟩, h0, fun v hv => ?_⟩
  obtain ⟨i, hi, rfl⟩ := List.getElem_of_mem hv
  exact (hat i (by omega)).1
theorem BorO.isL {α : Type} {M0 M : Mem} {H : Hp} {k n : Nat} {g : α → Value} {L : List α} {u : Value} {T : TypeId} (h : BorO M0 M H (.slo k 0 n 1) u) (hk : lkH H k = some (T, cE g L)) (hn : n = L.length) : IsL M g u L := by
  subst hn
  obtain ⟨vs, h2, h3⟩ := h.2 T _ hk (by rw [cE_len]; omega)
  rw [List.drop_zero, List.take_of_length_le (by rw [cE_len]; omega)] at h3
  obtain ⟨h4, h5⟩ := h3.get
  rw [cE_len] at h4
  have : vs = L.map g := List.ext_getElem (by simp [h4]) fun i h6 h7 => by
    have := h5 i h6 (.ext (g (L[i]'(by omega)))) (by rw [cE_at g (by omega)])
    simp only [BorI] at this
    rw [this, List.getElem_map]
  rw [this] at h2
  exact h2
def FrzO (K : AV → Hp → Mem → Prop) (H : Hp) (v : AV) (H' : Hp) (M' : Mem) : Prop := K v H' M' ∨ ∃ t l1 l2 k n z F H2, v = putMid t l1 (.slo k 0 n z) l2 ∧ H' = F ++ H2 ∧ closedH F ∧ (lkH F k).isSome = true ∧
      (∀ j, (lkH F j).isSome = true → lkH H j = none ∧ lkH H2 j = none ∧ j ∉ mentL l1 ∧ j ∉ mentL l2 ∧ j ∉ mentH H2) ∧ ∀ u M'', Mem.le M' M'' → BorO M' M'' F (.slo k 0 n z) u → K (putMidV t l1 (.ext u) l2) H2 M''
open Classical in
theorem CallS.frzO {P : Program} {f : FuncId} {args : List AV} {H : Hp} {M : Mem} {K : AV → Hp → Mem → Prop} (h : CallS P f args H M [] (FrzO K H)) : CallS P f args H M [] K := by
  intro ρ w us hh he
  refine (h ρ w us hh he).mono fun e w' hall => ?_
  obtain ⟨x, v, H', M', ρ', e1, hor, hl⟩ := hall
  rcases hor with hor | ⟨t, l1, l2, k, n, z, F, H2, rfl, rfl, hc, hkF, hoff, hK⟩
  · exact ⟨x, v, H', M', ρ', e1, hor, hl⟩
  obtain ⟨u, hu, hx⟩ := putMid_ok hl.is
  let B : Nat → Prop := fun b => ∃ j y, (lkH F j).isSome = true ∧ ρ' j = some y ∧ y.b = b
  let M'' : Mem := fun b => if B b then w'.heap[b]? else M' b
  have hFl : ∀ j y, lkH F j = some y → lkH (F ++ H2) j = some y := fun j y hj => by rw [lkH_append, hj]
  have h2l : ∀ j y, lkH H2 j = some y → lkH F j = none ∧ lkH (F ++ H2) j = some y := fun j y hj => by
    cases e : lkH F j with
    | none => exact ⟨rfl, by rw [lkH_append, e]; exact hj⟩
    | some z => have := (hoff j (by rw [e]; rfl)).2.1; rw [hj] at this; cases this
  have hMB : ∀ b, B b → M' b = none := fun b ⟨j, y, hj, hy, e⟩ => by
    obtain ⟨q, hq⟩ := Option.isSome_iff_exists.1 hj
    rw [← e]; exact (hl.heap.hp j q.1 q.2 y (hFl j q hq) hy).2
  have hle : Mem.le M' M'' := fun b o hb => by
    by_cases hB : B b
    · rw [hMB b hB] at hb; cases hb
    · simp only [M'', if_neg hB]; exact hb
  have hbor : BorO M' M'' F (.slo k 0 n z) u := borO_is (w := w') (ρ := ρ') (fun j T cs b hj hb => by
    obtain ⟨⟨arr, h1⟩, h2⟩ := hl.heap.hp j T cs b (hFl j _ hj) hb
    have hB : B b.b := ⟨j, b, by rw [hj]; rfl, hb, rfl⟩
    exact ⟨⟨arr, by simp only [M'', if_pos hB]; exact h1.there, h1⟩, h2⟩) hc _ u (fun j hj => by
      simp [AV.ment] at hj; rw [hj]; exact hkF) hu
  let ρ2 : Rho := fun j => if (lkH F j).isSome = true then ρ j else ρ' j
  have hρ : ∀ j, lkH F j = none → ρ' j = ρ2 j := fun j hj => by simp only [ρ2, hj]; simp
  have hkv : ∀ j, (lkH F j).isSome = true → j ∉ (putMidV t l1 (.ext u) l2).ment := fun j hj hm => by
    obtain ⟨_, _, o1, o2, _⟩ := hoff j hj
    have := putMidV_ment hm .unk
    cases t with
    | none => simp [putMid, AV.ment] at this
    | some t =>
      simp only [putMid, AV.ment, mentL_append, mentL, List.mem_append, List.not_mem_nil, false_or] at this
      rcases this with h | h
      · exact o1 h
      · exact o2 h
  have hkH : ∀ j T' ds, lkH H2 j = some (T', ds) → ∀ q ∈ mentL ds, lkH F q = none := fun j T' ds hj q hq => by
    cases e : lkH F q with
    | none => rfl
    | some y => exact absurd (mentH_lk hj (.inr hq)) (hoff q (by rw [e]; rfl)).2.2.2.2
  have hnB : ∀ j y, (lkH H2 j).isSome = true → ρ' j = some y → ¬ B y.b := fun j y hj hy ⟨q, y', hq, hy', e⟩ => by
    obtain ⟨a, ha⟩ := Option.isSome_iff_exists.1 hj
    obtain ⟨c, hcc⟩ := Option.isSome_iff_exists.1 hq
    obtain ⟨h3, h4⟩ := h2l j a ha
    have := hl.heap.inj q j y' y (by rw [hFl q c hcc]; rfl) (by rw [h4]; rfl) hy' hy e
    subst this
    rw [hcc] at h3; cases h3
  refine ⟨x, _, H2, M'', ρ2, e1, hK u M'' hle hbor, ?_⟩
  refine { is := is_agree (fun j hj => hρ j (by
    cases e : lkH F j with
    | none => rfl
    | some y => exact absurd hj (hkv j (by rw [e]; rfl)))) hx, heap := ⟨fun j T' ds b hj hb => ?_, fun j T' ds hj hb => ?_, fun j j' b b' hj hj' hb hb' e => ?_, fun b o hb => ?_⟩, keep := fun j hj => ?_, same := fun j hj hm => ?_, ment := fun j hj => ?_, fresh := fun j b hj hb => ?_, os := hl.os, tape := hl.tape, output := hl.output, size := hl.size, block := hl.block, le := hl.le.trans hle, mem := fun b hb => ?_ }
  · obtain ⟨h3, h4⟩ := h2l j _ hj
    rw [← hρ j h3] at hb
    obtain ⟨⟨arr, f1⟩, f2⟩ := hl.heap.hp j T' ds b h4 hb
    refine ⟨⟨arr, f1.there, f1.size, f1.le, fun i v hv => is_agree (fun q hq => hρ q (hkH j T' ds hj q (mentL_get hv hq))) (f1.is i v hv)⟩, ?_⟩
    simp only [M'', if_neg (hnB j b (by rw [hj]; rfl) hb)]; exact f2
  · obtain ⟨h3, h4⟩ := h2l j _ hj
    rw [← hρ j h3] at hb
    exact hl.heap.no j T' ds h4 hb
  · obtain ⟨y, hy⟩ := Option.isSome_iff_exists.1 hj
    obtain ⟨y', hy'⟩ := Option.isSome_iff_exists.1 hj'
    obtain ⟨h3, h4⟩ := h2l j _ hy
    obtain ⟨h5, h6⟩ := h2l j' _ hy'
    rw [← hρ j h3] at hb
    rw [← hρ j' h5] at hb'
    exact hl.heap.inj j j' b b' (by rw [h4]; rfl) (by rw [h6]; rfl) hb hb' e
  · by_cases hB : B b
    · simp only [M'', if_pos hB] at hb; exact hb
    · simp only [M'', if_neg hB] at hb; exact hl.heap.sub b o hb
  · have h3 := hl.keep j hj
    rw [lkH_append] at h3
    cases e : lkH F j with
    | none => rw [e] at h3; exact h3
    | some y => have := (hoff j (by rw [e]; rfl)).1; rw [this] at hj; cases hj
  · by_cases e : (lkH F j).isSome = true
    · simp only [ρ2, if_pos e]
    · have e2 : lkH F j = none := by cases h : lkH F j with
        | none => rfl
        | some y => rw [h] at e; exact absurd rfl e
      rw [← hρ j e2]
      refine hl.same j ?_ hm
      rcases hj with hj | hj
      · exact .inl hj
      · exact .inr (by rw [lkH_append, e2]; exact hj)
  · by_cases e : (lkH F j).isSome = true
    · exact ⟨hkv j e, fun i T' ds hi hm => by have := hkH i T' ds hi j hm; rw [this] at e; cases e⟩
    · have e2 : lkH F j = none := by cases h : lkH F j with
        | none => rfl
        | some y => rw [h] at e; exact absurd rfl e
      obtain ⟨m1, m2⟩ := hl.ment j (by rw [lkH_append, e2]; exact hj)
      exact ⟨fun hm => m1 (putMidV_ment hm _), fun i T' ds hi => m2 i T' ds (h2l i _ hi).2⟩
  · obtain ⟨y, hy⟩ := Option.isSome_iff_exists.1 hj
    obtain ⟨h3, h4⟩ := h2l j _ hy
    rw [← hρ j h3] at hb
    exact hl.fresh j b (by rw [h4]; rfl) hb
  · by_cases hB : B b
    · obtain ⟨j, y, hj, hy, rfl⟩ := hB
      obtain ⟨q, hq⟩ := Option.isSome_iff_exists.1 hj
      rcases hl.fresh j y (by rw [hFl j q hq]; rfl) hy with h6 | ⟨j', q', h6, h7, h8⟩
      · exact .inr h6
      · exfalso
        have hj' := hl.keep j' h6
        have hj2 : ρ' j' = some q' := by rw [hl.same j' (.inl h6) (by simp)]; exact h7
        have := hl.heap.inj j' j q' y hj' (by rw [hFl j q hq]; rfl) hj2 hy h8
        subst this
        rw [(hoff j' hj).1] at h6; cases h6
    · simp only [M'', if_neg hB] at hb
      exact hl.mem b hb
end Go.Proofs.Ytgkfmlgfmcpebaa.Sx
namespace Go.Proofs.Ytgkfmlgfmcpebaa.Sx
open Go Go.RowKit
set_option linter.unusedVariables false
set_option linter.unusedSimpArgs false
section
variable {b : Nat} {T T0 : TypeId} {Ls : List (List Value)} {r : Hp} {k i n O m : Nat}
theorem ltB_no {l : List Nat} (h : ltB b l = true) {j : Nat} (hj : b ≤ j) : j ∉ l := fun hm => by
  have := ltB_mem h j hm; omega
theorem le_fam {s : St} (T : TypeId) (h0 : lkH s.hp O = some (T0, List.replicate n (.ext (.slice none 0 0)))) (hb : ltB b (mentE s.env) = true) (hb2 : ltB b (mentH s.hp) = true) (hb3 : ltB b s.fx = true) (hkb : s.kb ≤ b) :
    Le s { env := s.env, hp := famH b T (List.replicate n []) (upH s.hp O (famC b (List.replicate n []))), M := s.M, kb := s.kb, fx := s.fx, fr := s.fr } := fun c q ρ a w g => by
  let ρ' : Rho := fun k => if b ≤ k then none else ρ k
  have hlt : ∀ k, k < b → ρ k = ρ' k := fun k hk => by simp only [ρ', if_neg (show ¬ b ≤ k by omega)]
  have hOb : O < b := by
    refine Classical.byContradiction fun h => ?_
    exact ltB_no hb2 (show b ≤ O by omega) (mentH_lk h0 (.inl rfl))
  have hkey : ∀ j x, lkH s.hp j = some x → j < b := fun j x hj => by
    refine Classical.byContradiction fun h => ?_
    exact ltB_no hb2 (show b ≤ j by omega) (mentH_lk (T := x.1) (cs := x.2) hj (.inl rfl))
  have hcell : ∀ j T cs q, lkH s.hp j = some (T, cs) → q ∈ mentL cs → q < b := fun j T cs q hj hq => by
    refine Classical.byContradiction fun h => ?_
    exact ltB_no hb2 (show b ≤ q by omega) (mentH_lk hj (.inr hq))
  have hget : ∀ (j : Nat) l, (List.replicate n ([] : List Value))[j]? = some l → l = [] := fun j l h => by
    rw [List.getElem?_replicate] at h
    split at h
    · cases h; rfl
    · cases h
  have hsplit : ∀ j T' cs, lkH (famH b T (List.replicate n []) (upH s.hp O (famC b (List.replicate n [])))) j = some (T', cs) → (b ≤ j ∧ cs = []) ∨ (j < b ∧ ((j = O ∧ T' = T0 ∧ cs = famC b (List.replicate n [])) ∨ (j ≠ O ∧ lkH s.hp j = some (T', cs)))) := fun j T' cs hj => by
    by_cases h : b ≤ j
    · left
      unfold famH at hj
      rw [lkH_append, lkH_famB, if_pos h] at hj
      refine ⟨h, ?_⟩
      cases e : (List.replicate n ([] : List Value))[j - b]? with
      | some l =>
        rw [e] at hj
        simp only [Option.map_some, Option.some.injEq, Prod.mk.injEq] at hj
        rw [← hj.2, hget _ _ e]; rfl
      | none =>
        rw [e] at hj
        simp only [Option.map_none, lkH_upH] at hj
        split at hj
        · omega
        · have := hkey j _ hj; omega
    · right
      rw [lkH_fam (by omega), lkH_upH] at hj
      refine ⟨by omega, ?_⟩
      by_cases e : O = j
      · subst e
        rw [if_pos rfl, h0] at hj
        simp only [Option.map_some, Option.some.injEq, Prod.mk.injEq] at hj
        exact .inl ⟨rfl, hj.1.symm, hj.2.symm⟩
      · rw [if_neg e] at hj
        exact .inr ⟨fun h => e h.symm, hj⟩
  have hsome : ∀ j bb, (lkH (famH b T (List.replicate n []) (upH s.hp O (famC b (List.replicate n [])))) j).isSome = true → ρ' j = some bb → j < b ∧ (lkH s.hp j).isSome = true ∧ ρ j = some bb := fun j bb hj hb' => by
    obtain ⟨⟨T', cs⟩, hx⟩ := Option.isSome_iff_exists.1 hj
    rcases hsplit j T' cs hx with ⟨h1, _⟩ | ⟨h1, h2⟩
    · simp only [ρ', if_pos h1] at hb'; cases hb'
    · rw [← hlt j h1] at hb'
      rcases h2 with ⟨rfl, _, _⟩ | ⟨_, h3⟩
      · exact ⟨h1, by rw [h0]; rfl, hb'⟩
      · exact ⟨h1, by rw [h3]; rfl, hb'⟩
  refine ⟨ρ', { df := g.df, sz := g.sz, env := fun t => ?_, hp := fun j T' cs bb hj hb' => ?_, no := fun j T' cs hj hb' => ?_, inj := fun j j' bb bb' hj hj' hb1 hb2' e => ?_, os := g.os, tape := g.tape, output := g.output, size := g.size, block := g.block, sub := g.sub, le := g.le, mf := g.mf, fix := fun j hj => ?_, fx := fun j hj => ?_, kl := g.kl, fr := g.fr }⟩
  · refine is_agree (fun j hj => hlt j ?_) (g.env t)
    exact Classical.byContradiction fun h => ltB_no hb (show b ≤ j by omega) (mentE_lk hj)
  · rcases hsplit j T' cs hj with ⟨h1, _⟩ | ⟨h1, h2⟩
    · simp only [ρ', if_pos h1] at hb'; cases hb'
    · rw [← hlt j h1] at hb'
      rcases h2 with ⟨rfl, rfl, rfl⟩ | ⟨_, h3⟩
      · obtain ⟨⟨arr, f1⟩, f2⟩ := g.hp j T' _ bb h0 hb'
        refine ⟨⟨arr, f1.there, f1.size, by rw [famC_len]; have := f1.le; simpa using this, fun q v hv => ?_⟩, f2⟩
        rw [famC_get?] at hv
        cases e : (List.replicate n ([] : List Value))[q]? with
        | none => rw [e] at hv; cases hv
        | some l =>
          rw [e] at hv
          simp only [Option.map_some, Option.some.injEq] at hv
          rw [hget _ _ e] at hv
          have hq : q < n := by
            rw [List.getElem?_replicate] at e
            split at e
            · assumption
            · cases e
          have := f1.is q (.ext (.slice none 0 0)) (by rw [List.getElem?_replicate, if_pos hq])
          have this : arr.getD q undef = .slice none 0 0 := this
          rw [this, ← hv]
          exact .inr ⟨rfl, none, (fun x e => by cases e), rfl⟩
      · obtain ⟨⟨arr, f1⟩, f2⟩ := g.hp j T' cs bb h3 hb'
        exact ⟨⟨arr, f1.there, f1.size, f1.le, fun q v hv => is_agree (fun y hy => hlt y (hcell j T' cs y h3 (mentL_get hv hy))) (f1.is q v hv)⟩, f2⟩
  · rcases hsplit j T' cs hj with ⟨_, h2⟩ | ⟨h1, h2⟩
    · exact h2
    · rw [← hlt j h1] at hb'
      rcases h2 with ⟨rfl, _, rfl⟩ | ⟨_, h3⟩
      · have := g.no j _ _ h0 hb'
        have hn : n = 0 := by
          have := congrArg List.length this
          simpa using this
        subst hn; rfl
      · exact g.no j T' cs h3 hb'
  · obtain ⟨_, h1, h2⟩ := hsome j bb hj hb1
    obtain ⟨_, h3, h4⟩ := hsome j' bb' hj' hb2'
    exact g.inj j j' bb bb' h1 h3 h2 h4 e
  · have h1 := g.fix j hj
    obtain ⟨x, hx⟩ := Option.isSome_iff_exists.1 h1
    rw [lkH_fam (hkey j x hx), lkH_upH]
    split
    · rename_i e; subst e; rw [h0]; rfl
    · exact h1
  · rw [← hlt j (Classical.byContradiction fun h => ltB_no hb3 (show b ≤ j by omega) hj)]
    exact g.fx j hj
theorem cellsK_fam {hp : Hp} (h : ∀ i (hi : i < Ls.length), lkH hp (i + b) = some (T, Ls[i].map .ext)) : cellsK hp (mentL (famC b Ls)) = [] := by
  have key : ∀ ks : List Nat, (∀ k ∈ ks, ∃ i, i < Ls.length ∧ k = i + b) → cellsK hp ks = [] := fun ks => by
    induction ks with
    | nil => exact fun _ => rfl
    | cons k ks ih =>
      intro hk
      obtain ⟨i, hi, rfl⟩ := hk k List.mem_cons_self
      simp only [cellsK, h i hi, mentO, mentL_ext, List.nil_append]
      exact ih fun q hq => hk q (List.mem_cons_of_mem _ hq)
  refine key _ fun k hk => ?_
  obtain ⟨v, hv, hm⟩ := mentL_mem hk
  obtain ⟨q, hq, e⟩ := List.getElem_of_mem hv
  have : (famC b Ls)[q]? = some v := by rw [List.getElem?_eq_getElem hq, e]
  rw [famC_get?] at this
  rw [famC_len] at hq
  rw [List.getElem?_eq_getElem hq] at this
  simp only [Option.map_some, Option.some.injEq] at this
  rw [← this] at hm
  simp [AV.ment] at hm
  exact ⟨q, hq, hm⟩
theorem cellsK_app (hp : Hp) : ∀ A B : List Nat, cellsK hp (A ++ B) = cellsK hp A ++ cellsK hp B
  | [], B => rfl
  | k :: A, B => by simp only [List.cons_append, cellsK, cellsK_app hp A B, List.append_assoc]
theorem closed_fam (hO : O < b) : closedH ((O, T0, famC b Ls) :: famH b T Ls []) := fun k T' cs j hk hj => by
  simp only [lkH] at hk
  by_cases e : O = k
  · rw [if_pos e] at hk
    cases hk
    obtain ⟨v, hv, hm⟩ := mentL_mem hj
    obtain ⟨q, hq, e2⟩ := List.getElem_of_mem hv
    have : (famC b Ls)[q]? = some v := by rw [List.getElem?_eq_getElem hq, e2]
    rw [famC_get?] at this
    rw [famC_len] at hq
    rw [List.getElem?_eq_getElem hq] at this
    simp only [Option.map_some, Option.some.injEq] at this
    rw [← this] at hm
    simp [AV.ment] at hm
    subst hm
    simp only [lkH]
    rw [if_neg (by omega), lkH_famI hq]; rfl
  · rw [if_neg e] at hk
    unfold famH at hk
    rw [lkH_append, lkH_famB] at hk
    split at hk
    · cases e2 : Ls[k - b]? with
      | none =>
        rename_i h1
        rw [e2] at h1
        split at h1 <;> cases h1
      | some l =>
        rename_i x h1
        rw [e2] at h1
        split at h1
        · cases h1; cases hk
          rw [mentL_ext] at hj; cases hj
        · cases h1
    · simp [lkH] at hk
theorem subH_mem {ks : List Nat} : ∀ {H : Hp} {q : Nat} {T' : TypeId} {cs : List AV}, (q, T', cs) ∈ subH H ks → (q, T', cs) ∈ H
  | [], q, T', cs, h => by simp [subH] at h
  | (j, x) :: H, q, T', cs, h => by
    simp only [subH] at h
    split at h
    · rcases List.mem_cons.1 h with h | h
      · rw [h]; exact List.mem_cons_self
      · exact List.mem_cons_of_mem _ (subH_mem h)
    · exact List.mem_cons_of_mem _ (subH_mem h)
theorem keysH_of {q : Nat} {T' : TypeId} {cs : List AV} : ∀ {H : Hp}, (q, T', cs) ∈ H → q ∈ keysH H
  | (j, y) :: H, h => by
    simp only [keysH, List.mem_cons]
    rcases List.mem_cons.1 h with h | h
    · cases h; exact .inl rfl
    · exact .inr (keysH_of h)
def onceH (H : Hp) : Prop := ∀ q T' cs, (q, T', cs) ∈ H → lkH H q = some (T', cs)
theorem onceH_fam {A : Hp} (hA : onceH A) (hlt : ltB b (keysH A) = true) : onceH (A ++ famH b T Ls []) := fun q T' cs h => by
  have hb : ∀ (Ls : List (List Value)) (b : Nat) q T' cs, (q, T', cs) ∈ famB b T Ls → b ≤ q ∧ lkH (famB b T Ls) q = some (T', cs) := fun Ls => by
    induction Ls with
    | nil => exact fun b q T' cs h => by simp [famB] at h
    | cons l Ls ih =>
      intro b q T' cs h
      rw [famB_cons] at h ⊢
      rcases List.mem_cons.1 h with h | h
      · cases h; exact ⟨Nat.le_refl _, by simp [lkH]⟩
      · obtain ⟨h1, h2⟩ := ih (b + 1) q T' cs h
        exact ⟨by omega, by simp only [lkH]; rw [if_neg (by omega)]; exact h2⟩
  rcases List.mem_append.1 h with h | h
  · rw [lkH_append, hA q T' cs h]
  · unfold famH at h ⊢
    rw [List.append_nil] at h ⊢
    obtain ⟨h1, h2⟩ := hb Ls b q T' cs h
    have hn : lkH A q = none := by
      cases e : lkH A q with
      | none => rfl
      | some y => exact absurd (keysH_lk (by rw [e]; rfl)) (ltB_no hlt h1)
    rw [lkH_append, hn]; exact h2
theorem outV_fam {s : St} {fx : List Nat} {K : AV → Hp → Mem → Prop} {e : Value} (hfx : inB s.fx fx = true) (hone : onceH s.hp) (hO : lkH s.hp O = some (T0, famC b Ls)) (hF : ∀ i (hi : i < Ls.length), lkH s.hp (i + b) = some (T, Ls[i].map .ext)) (hm : m = Ls.length)
    (hK : ∀ u M'', Mem.le s.M M'' → LLF s.M M'' u Ls → K (.ext (.tuple #[u, e])) [] M'') : outV s fx [] (FrzO K []) (.ag true [.slo O 0 m 1, .ext e]) := by
  have hkk : ∀ k, k ∈ reachK s.hp (reachK s.hp ((AV.ag true [.slo O 0 m 1, .ext e]).ment ++ keysH [])) ↔ k = O ∨ ∃ i, i < Ls.length ∧ k = i + b := fun k => by
    have e1 : (AV.ag true [.slo O 0 m 1, .ext e]).ment ++ keysH [] = [O] := by simp [AV.ment, mentL, keysH]
    have e2 : reachK s.hp [O] = mentL (famC b Ls) ++ [O] := by simp [reachK, cellsK, hO, mentO]
    rw [e1, e2]
    unfold reachK
    rw [cellsK_app, cellsK_fam hF]
    simp only [cellsK, hO, mentO, List.nil_append, List.append_nil, List.mem_append, List.mem_singleton]
    have hmem : ∀ k, k ∈ mentL (famC b Ls) ↔ ∃ i, i < Ls.length ∧ k = i + b := fun k => by
      constructor
      · intro hk
        obtain ⟨v, hv, hm⟩ := mentL_mem hk
        obtain ⟨q, hq, e⟩ := List.getElem_of_mem hv
        have : (famC b Ls)[q]? = some v := by rw [List.getElem?_eq_getElem hq, e]
        rw [famC_get?] at this
        rw [famC_len] at hq
        rw [List.getElem?_eq_getElem hq] at this
        simp only [Option.map_some, Option.some.injEq] at this
        rw [← this] at hm
        simp [AV.ment] at hm
        exact ⟨q, hq, hm⟩
      · rintro ⟨i, hi, rfl⟩
        exact mentL_get (famC_at hi) (by simp [AV.ment])
    rw [hmem]
    constructor
    · rintro (h | h | h)
      · exact .inr h
      · exact .inr h
      · exact .inl h
    · rintro (h | h)
      · exact .inr (.inr h)
      · exact .inl h
  have hlk : ∀ k x, lkH (keepH s [] (.ag true [.slo O 0 m 1, .ext e])) k = some x → lkH s.hp k = some x ∧ (k = O ∨ ∃ i, i < Ls.length ∧ k = i + b) := fun k x hx => by
    unfold keepH at hx
    rw [lkH_sub] at hx
    split at hx
    · rename_i h; exact ⟨hx, (hkk k).1 h⟩
    · cases hx
  have hin : ∀ k, (k = O ∨ ∃ i, i < Ls.length ∧ k = i + b) → lkH (keepH s [] (.ag true [.slo O 0 m 1, .ext e])) k = lkH s.hp k := fun k hk => by
    unfold keepH
    rw [lkH_sub, if_pos ((hkk k).2 hk)]
  have hcl : closedH (keepH s [] (.ag true [.slo O 0 m 1, .ext e])) := fun k T' cs j hk hj => by
    obtain ⟨h1, h2⟩ := hlk k _ hk
    rcases h2 with rfl | ⟨i, hi, rfl⟩
    · rw [hO] at h1
      cases h1
      have hj2 : j = k ∨ ∃ i, i < Ls.length ∧ j = i + b := by
        obtain ⟨v, hv, hm⟩ := mentL_mem hj
        obtain ⟨q, hq, e⟩ := List.getElem_of_mem hv
        have : (famC b Ls)[q]? = some v := by rw [List.getElem?_eq_getElem hq, e]
        rw [famC_get?] at this
        rw [famC_len] at hq
        rw [List.getElem?_eq_getElem hq] at this
        simp only [Option.map_some, Option.some.injEq] at this
        rw [← this] at hm
        simp [AV.ment] at hm
        exact .inr ⟨q, hq, hm⟩
      rw [hin j hj2]
      rcases hj2 with rfl | ⟨i, hi, rfl⟩
      · rw [hO]; rfl
      · rw [hF i hi]; rfl
    · rw [hF i hi] at h1
      cases h1
      rw [mentL_ext] at hj; cases hj
  refine ⟨hfx, ?_, .inr ⟨some true, [], [.ext e], O, m, 1, keepH s [] (.ag true [.slo O 0 m 1, .ext e]), [], rfl, by rw [List.append_nil], hcl, by rw [hin O (.inl rfl), hO]; rfl, fun j _ => ⟨rfl, rfl, by simp [mentL], by simp [mentL, AV.ment], by simp [mentH]⟩, fun u M'' hM hb => hK u M'' hM ?_⟩⟩
  · have hkeys : ∀ j, (lkH (keepH s [] (.ag true [.slo O 0 m 1, .ext e])) j).isSome = true → hasK j (keysH (keepH s [] (.ag true [.slo O 0 m 1, .ext e]))) = true := fun j hj => by
      have := keysH_lk hj
      cases h : hasK j (keysH (keepH s [] (.ag true [.slo O 0 m 1, .ext e]))) with
      | true => rfl
      | false => exact absurd this (hasK_no.1 h)
    have hall : ∀ l : List Nat, (∀ j ∈ l, (lkH (keepH s [] (.ag true [.slo O 0 m 1, .ext e])) j).isSome = true) → inB (keysH (keepH s [] (.ag true [.slo O 0 m 1, .ext e]))) l = true := fun l => by
      induction l with
      | nil => exact fun _ => rfl
      | cons j l ih =>
        intro hl
        simp only [inB, hkeys j (hl j List.mem_cons_self), ih fun q hq => hl q (List.mem_cons_of_mem _ hq), Bool.and_self]
    refine hall _ fun j hj => ?_
    rcases List.mem_append.1 hj with hj | hj
    · have : j = O := by simpa [AV.ment, mentL] using hj
      subst this
      rw [hin j (.inl rfl), hO]; rfl
    · have key : ∀ (H : Hp), j ∈ mentH H → ∃ q T' cs, (q, T', cs) ∈ H ∧ (j = q ∨ j ∈ mentL cs) := fun H => by
        induction H with
        | nil => intro h; simp [mentH] at h
        | cons x H ih =>
          obtain ⟨q, T', cs⟩ := x
          intro h
          simp only [mentH, List.mem_cons, List.mem_append] at h
          rcases h with h | h | h
          · exact ⟨q, T', cs, List.mem_cons_self, .inl h⟩
          · exact ⟨q, T', cs, List.mem_cons_self, .inr h⟩
          · obtain ⟨q2, T2, cs2, h1, h2⟩ := ih h
            exact ⟨q2, T2, cs2, List.mem_cons_of_mem _ h1, h2⟩
      obtain ⟨q, T', cs, h1, h2⟩ := key _ hj
      have h3 := hone q T' cs (subH_mem h1)
      have h4 : (lkH (keepH s [] (.ag true [.slo O 0 m 1, .ext e])) q).isSome = true := by
        have hq := keysH_of h1
        have : ∀ {H : Hp} {q : Nat}, q ∈ keysH H → (lkH H q).isSome = true := fun {H q} h => keysH_is (by
          cases e : hasK q (keysH H) with
          | true => rfl
          | false => exact absurd h (hasK_no.1 e))
        exact this hq
      obtain ⟨x, hx⟩ := Option.isSome_iff_exists.1 h4
      have h5 := (hlk q x hx).1
      rw [h3] at h5
      cases h5
      rcases h2 with rfl | h2
      · exact h4
      · exact hcl q _ _ j hx h2
  · exact hb.fam (T0 := T0) (T := T) (by rw [hin O (.inl rfl), hO]) hm fun i hi => by rw [hin (i + b) (.inr ⟨i, hi, rfl⟩), hF i hi]
end
end Go.Proofs.Ytgkfmlgfmcpebaa.Sx
namespace Go.Proofs.Ytgkfmlgfmcpebaa.Sx
open Go Go.RowKit
set_option linter.unusedVariables false
set_option linter.unusedSimpArgs false
set_option maxRecDepth 100000
set_option maxHeartbeats 8000000
attribute [local congr] fin_congr finG_congr stepG_congr step1_congr runOps_congr brv_congr obl_congr condK_congr LoopK_congr seqK_congr CutK_congr vc_congr DrawK_congr regK_congr CallK_congr AskK_congr newK_congr retC_congr ret1_congr retK_congr outV_congr closeK_congr genR_congr appR_congr finD_congr finGD_congr stepGD_congr stepD_congr CallK0_congr runD_congr okR_congr CallS_congr vcX_congr
attribute [local congr] Stop_congr
section
variable {M : Mem} {K : AV → Hp → Mem → Prop} {u : Value} {T : List TK}
def usaN (pk ts : Bst) : Bool := decide (1 ≤ pk.length) && decide (pk.length ≤ 24) && decide (1 ≤ ts.length) && decide (ts.length ≤ 24)
theorem usaN_eq (pk ts : Bst) : (!pk == [] && decide ((pk.length : Int) ≤ 24) && !ts == [] && decide ((ts.length : Int) ≤ 24)) = usaN pk ts := by
  rw [Bool.eq_iff_iff]
  unfold usaN
  cases pk <;> cases ts <;> simp <;> omega
theorem husa_ok (pk ts : Bst) (hK : K (.ext (.bool (usaN pk ts))) [] M) : CallS Try.prog 57 [.ext (.agg #[.string (bs pk), .string (bs ts)])] [] M [] K := by
  refine inlS (cs := []) Try.mixed Try.func57 rfl (by kernel_rfl) 0 rfl rfl ?_
  simp only [Try.f57]
  (replace hb0 := true_and True); refine Go1.mk ?_; repeat' ((first | (with_reducible refine Go1.go ?_) | ((with_reducible first | refine brv_mk ?_ ?_ | refine gsplitD ?_ ?_ | refine gsplitG ?_ ?_) <;> intro h <;> (try simp only [Bool.not_eq_true', Bool.not_eq_false'] at h) <;> replace hb0 := h) | (refine And.intro ?_ ?_; (try simp only [sxO] at *); omega) | fail) <;> (try simp (maxSteps := 1000000) only [hb0, bs_mk, bs_app, bs_ext, bs_size, bs_toList, bs_at, bs_cells, List.take_length, imp_ga, guard_pk, guard_pk2, ↓hold_pre, awayP, runOps, regK, step1, newK, genR, appR, obl, buildR, Value.cells, closeK, keepH, outV, retK, ret1, retC, RetV, Option.getD, runD, stepD, afterK, undef, simprocAttr, sxB, ↓sxD, sxE, sxTab]))
  rw [show (!pk == [] && decide ((pk.length : Int) ≤ 24) && !ts == [] && decide ((ts.length : Int) ≤ 24)) = usaN pk ts from usaN_eq pk ts]
  exact hK
theorem chkT_1 {x : TK} (h : usaN x.pk x.ts = false) : chkT x = false := by
  unfold chkT
  rw [show usaT x = usaN x.pk x.ts from rfl, h]; rfl
theorem chkT_2 {x : TK} (h : (decide (x.env < 0) || decide (63 < x.env)) = true) : chkT x = false := by
  cases hc : chkT x with
  | false => rfl
  | true =>
    have := chkT_parts hc
    simp only [Bool.or_eq_true, decide_eq_true_eq] at h
    omega
theorem chkT_3 {x : TK} (h1 : usaN x.pk x.ts = true) (h2 : (decide (x.env < 0) || decide (63 < x.env)) = false) : (decide (x.cost < 1) || decide (1048576 < x.cost)) = !chkT x := by
  unfold chkT
  rw [show usaT x = usaN x.pk x.ts from rfl, h1]
  simp only [Bool.or_eq_false_iff, decide_eq_false_iff_not] at h2
  rw [decide_eq_true (show 0 ≤ x.env by omega), decide_eq_true (show x.env ≤ 63 by omega), Bool.eq_iff_iff]
  simp
theorem chkT_4 {x : TK} (h1 : usaN x.pk x.ts = true) (h2 : (decide (0 ≤ x.env) && decide (x.env ≤ 63)) = true) : (decide (x.cost < 1) || decide (1048576 < x.cost)) = !chkT x := by
  refine chkT_3 h1 ?_
  simp only [Bool.and_eq_true, decide_eq_true_eq] at h2
  rw [decide_eq_false (by omega), decide_eq_false (by omega)]; rfl
theorem tchk1_ok (x : TK) (hK : K (.ext (.bool (!chkT x))) [] M) : CallS Try.prog 47 [.ext (.agg #[.string (bs x.pk), .string (bs x.ts), .int .i64 x.env, .int .i64 x.cost])] [] M [] K := by
  refine inlS (cs := []) Try.mixed Try.func47 rfl (by kernel_rfl) 0 rfl rfl ?_
  simp only [Try.f47]
  (replace hb0 := true_and True); refine Go1.mk ?_; repeat' ((first | (with_reducible refine Go1.go ?_) | ((with_reducible first | refine brv_mk ?_ ?_ | refine gsplitD ?_ ?_ | refine gsplitG ?_ ?_) <;> intro h <;> (try simp only [Bool.not_eq_true', Bool.not_eq_false'] at h) <;> replace hb0 := h) | (((with_reducible refine isCall (f := 57) ?_); refine callA_nil (by kernel_rfl) ?_; refine (husa_ok x.pk x.ts ?_))) | ((first | ((with_reducible refine isCall (f := 48) ?_); refine inlK (cs := []) (f := 48) Try.mixed Try.func48 rfl (by kernel_rfl) 100 rfl (by kernel_rfl) ?_)); simp only [Try.f48]) | (refine And.intro ?_ ?_; (try simp only [sxO] at *); omega) | fail) <;> (try simp (maxSteps := 1000000) only [hb0, bs_mk, bs_app, bs_ext, bs_size, bs_toList, bs_at, bs_cells, List.take_length, imp_ga, guard_pk, guard_pk2, ↓hold_pre, awayP, runOps, regK, step1, newK, genR, appR, obl, buildR, Value.cells, closeK, keepH, outV, retK, ret1, retC, RetV, Option.getD, runD, stepD, afterK, undef, simprocAttr, sxB, ↓sxD, sxE, sxTab]))
  · rw [chkT_1 h] at hK; exact hK
  · rw [chkT_2 h] at hK; exact hK
  · rename_i h2
    rw [chkT_3 h2 h]; exact hK
def tiSt (M : Mem) (u : Value) (n i : Nat) : St := { env := [(8, .ext (.int .i64 (i : Int))), (7, .ext (.int .i64 (n : Int))), (4, .ext (.int .i64 0)), (1, .fn 47 []), (0, .ext u)], hp := [], M := M, kb := 0, fx := [] }
theorem all_take {α : Type} {p : α → Bool} {L : List α} {i : Nat} (h : i < L.length) (h1 : ∀ x ∈ L.take i, p x = true) (h2 : p L[i] = true) : ∀ x ∈ L.take (i + 1), p x = true := fun x hm => by
  rw [List.take_add_one, List.getElem?_eq_getElem h] at hm
  rcases List.mem_append.1 hm with h3 | h3
  · exact h1 x h3
  · have : x = L[i] := by simpa using h3
    rw [this]; exact h2
theorem all_not {α : Type} {p : α → Bool} {L : List α} {i : Nat} (h : i < L.length) (h2 : p L[i] = false) : L.all p = false := by
  cases hc : L.all p with
  | false => rfl
  | true => rw [List.all_eq_true.1 hc _ (List.getElem_mem h)] at h2; cases h2
theorem tidx_ok (hu : IsR M 4 TK.c u T) (hb : T.length < 1000000) (hK : ∀ r : Int, ((r = -1 ∧ T.all chkT = true) ∨ (0 ≤ r ∧ T.all chkT = false)) → K (.ext (.int .i64 r)) [] M) : CallS Try.prog 56 [.ext u, .fn 47 []] [] M [] K := by
  refine inlS (cs := []) Try.mixed Try.func56 rfl (by kernel_rfl) 0 rfl rfl ?_
  simp only [Try.f56]
  (replace hb0 := true_and True); refine Go1.mk ?_; repeat' ((first | (with_reducible refine Go1.go ?_) | ((with_reducible first | refine brv_mk ?_ ?_ | refine gsplitD ?_ ?_ | refine gsplitG ?_ ?_) <;> intro h <;> (try simp only [Bool.not_eq_true', Bool.not_eq_false'] at h) <;> replace hb0 := h) | (refine And.intro ?_ ?_; (try simp only [sxO] at *); omega) | fail) <;> (try simp (maxSteps := 1000000) only [hb0, hu.one, hu.len, hu.sl, bs_mk, bs_app, bs_ext, bs_size, bs_toList, bs_at, bs_cells, List.take_length, imp_ga, guard_pk, guard_pk2, ↓hold_pre, awayP, runOps, regK, step1, newK, genR, appR, obl, buildR, Value.cells, closeK, keepH, outV, retK, ret1, retC, RetV, Option.getD, runD, stepD, afterK, undef, simprocAttr, sxB, ↓sxD, sxE, sxTab]))
  refine ⟨fun m z => ∃ i, m = T.length - i ∧ i ≤ T.length ∧ (∀ x ∈ T.take i, chkT x = true) ∧ z = tiSt M u T.length i,
    ⟨T.length, tiSt M u T.length 0, le_sub ⟨rfl, rfl, rfl, rfl, rfl, trivial⟩ trivial rfl rfl rfl (keepLt0 _), ⟨0, by omega, by omega, by simp, rfl⟩⟩, ?_⟩
  rintro m z ⟨i, rfl, hi, hp, rfl⟩
  by_cases hlt : i < T.length
  case neg =>
    obtain rfl : i = T.length := by omega
    have e1 : decide ((T.length : Int) < (T.length : Int)) = false := by simp
    have hk := hK (-1) (.inl ⟨rfl, by rw [List.take_of_length_le (Nat.le_refl _)] at hp; exact List.all_eq_true.2 hp⟩)
    (replace hb0 := true_and True); refine Go1.mk ?_; repeat' ((first | (with_reducible refine Go1.go ?_) | ((with_reducible first | refine brv_mk ?_ ?_ | refine gsplitD ?_ ?_ | refine gsplitG ?_ ?_) <;> intro h <;> (try simp only [Bool.not_eq_true', Bool.not_eq_false'] at h) <;> replace hb0 := h) | (refine And.intro ?_ ?_; (try simp only [sxO] at *); omega) | fail) <;> (try simp (maxSteps := 1000000) only [hb0, tiSt, hu.one, e1, bs_mk, bs_app, bs_ext, bs_size, bs_toList, bs_at, bs_cells, List.take_length, imp_ga, guard_pk, guard_pk2, ↓hold_pre, awayP, runOps, regK, step1, newK, genR, appR, obl, buildR, Value.cells, closeK, keepH, outV, retK, ret1, retC, RetV, Option.getD, runD, stepD, afterK, undef, simprocAttr, sxB, ↓sxD, sxE, sxTab]))
    exact hk
  have e1 : decide ((i : Int) < (T.length : Int)) = true := by rw [decide_eq_true_eq]; omega
  have b1 : (0 : Int) ≤ (i : Int) := by omega
  have b2 : (i : Int) < (T.length : Int) := by omega
  have hnn := hu.nn hlt
  have hat := hu.at (P := Try.prog) (T := 49) (fun _ => rfl) tk49 tz49 hlt
  have hnx := all_take hlt hp
  have hno := all_not (p := chkT) hlt
  have wi : IntKind.i64.wrap ((i : Int) + 1) = ((i + 1 : Nat) : Int) := succ_i (by omega)
  generalize T[i] = x at *
  have hat : lookM Try.prog 49 M (elemP u 4 i) = some (.agg #[.string (bs x.pk), .string (bs x.ts), .int .i64 x.env, .int .i64 x.cost]) := hat
  (replace hb0 := true_and True); refine Go1.mk ?_; repeat' ((first | (with_reducible refine Go1.go ?_) | ((with_reducible first | refine brv_mk ?_ ?_ | refine gsplitD ?_ ?_ | refine gsplitG ?_ ?_) <;> intro h <;> (try simp only [Bool.not_eq_true', Bool.not_eq_false'] at h) <;> replace hb0 := h) | (((with_reducible refine isCall (f := 47) ?_); refine callA_nil (by kernel_rfl) ?_; refine (tchk1_ok x (Stop.mk ?_)))) | (refine And.intro ?_ ?_; (try simp only [sxO] at *); omega) | fail) <;> (try simp (maxSteps := 1000000) only [hb0, tiSt, hu.one, hu.len, hu.sl, hnn, e1, b1, b2, hat, bs_mk, bs_app, bs_ext, bs_size, bs_toList, bs_at, bs_cells, List.take_length, imp_ga, guard_pk, guard_pk2, ↓hold_pre, awayP, runOps, regK, step1, newK, genR, appR, obl, buildR, Value.cells, closeK, keepH, outV, retK, ret1, retC, RetV, Option.getD, runD, stepD, afterK, undef, simprocAttr, sxB, ↓sxD, sxE, sxTab]))
  refine Stop.go ?_
  cases hc : chkT x with
  | true =>
    (replace hb0 := true_and True); refine Go1.mk ?_; repeat' ((first | (with_reducible refine Go1.go ?_) | ((with_reducible first | refine brv_mk ?_ ?_ | refine gsplitD ?_ ?_ | refine gsplitG ?_ ?_) <;> intro h <;> (try simp only [Bool.not_eq_true', Bool.not_eq_false'] at h) <;> replace hb0 := h) | (refine And.intro ?_ ?_; (try simp only [sxO] at *); omega) | fail) <;> (try simp (maxSteps := 1000000) only [hb0, wi, bs_mk, bs_app, bs_ext, bs_size, bs_toList, bs_at, bs_cells, List.take_length, imp_ga, guard_pk, guard_pk2, ↓hold_pre, awayP, runOps, regK, step1, newK, genR, appR, obl, buildR, Value.cells, closeK, keepH, outV, retK, ret1, retC, RetV, Option.getD, runD, stepD, afterK, undef, simprocAttr, sxB, ↓sxD, sxE, sxTab]))
    exact ⟨T.length - (i + 1), tiSt M u T.length (i + 1), by omega, le_sub ⟨rfl, rfl, rfl, rfl, rfl, trivial⟩ trivial rfl rfl rfl (keepLt0 _), i + 1, rfl, by omega, hnx hc, rfl⟩
  | false =>
    have hk := hK i (.inr ⟨by omega, hno hc⟩)
    (replace hb0 := true_and True); refine Go1.mk ?_; repeat' ((first | (with_reducible refine Go1.go ?_) | ((with_reducible first | refine brv_mk ?_ ?_ | refine gsplitD ?_ ?_ | refine gsplitG ?_ ?_) <;> intro h <;> (try simp only [Bool.not_eq_true', Bool.not_eq_false'] at h) <;> replace hb0 := h) | (refine And.intro ?_ ?_; (try simp only [sxO] at *); omega) | fail) <;> (try simp (maxSteps := 1000000) only [hb0, wi, bs_mk, bs_app, bs_ext, bs_size, bs_toList, bs_at, bs_cells, List.take_length, imp_ga, guard_pk, guard_pk2, ↓hold_pre, awayP, runOps, regK, step1, newK, genR, appR, obl, buildR, Value.cells, closeK, keepH, outV, retK, ret1, retC, RetV, Option.getD, runD, stepD, afterK, undef, simprocAttr, sxB, ↓sxD, sxE, sxTab]))
    exact hk
theorem tCheck_ok (hu : IsR M 4 TK.c u T) (hb : T.length < 1000000) (hK : K (.ext (.bool (chkTL T))) [] M) : CallS Try.prog 29 [.ext u] [] M [] K := by
  refine inlS (cs := []) Try.mixed Try.func29 rfl (by kernel_rfl) 0 rfl rfl ?_
  simp only [Try.f29]
  unfold chkTL at hK
  by_cases h64 : T.length ≤ 64
  · have d1 : decide ((64 : Int) < (T.length : Int)) = false := by rw [decide_eq_false_iff_not]; omega
    rw [decide_eq_true h64] at hK
    (replace hb0 := true_and True); refine Go1.mk ?_; repeat' ((first | (with_reducible refine Go1.go ?_) | ((with_reducible first | refine brv_mk ?_ ?_ | refine gsplitD ?_ ?_ | refine gsplitG ?_ ?_) <;> intro h <;> (try simp only [Bool.not_eq_true', Bool.not_eq_false'] at h) <;> replace hb0 := h) | (((with_reducible refine isCall (f := 56) ?_); refine callA_nil (by kernel_rfl) ?_; refine (tidx_ok hu hb (fun r c2 => Stop.mk ?_)))) | ((first | ((with_reducible refine isCall (f := 46) ?_); refine inlK (cs := []) (f := 46) Try.mixed Try.func46 rfl (by kernel_rfl) 100 rfl (by kernel_rfl) ?_)); simp only [Try.f46]) | (refine And.intro ?_ ?_; (try simp only [sxO] at *); omega) | fail) <;> (try simp (maxSteps := 1000000) only [hb0, hu.one, hu.len, hu.sl, d1, ↓hold_pre, awayP, runOps, regK, step1, newK, genR, appR, obl, buildR, Value.cells, closeK, keepH, outV, retK, ret1, retC, RetV, Option.getD, runD, stepD, afterK, undef, simprocAttr, sxB, ↓sxD, sxE, sxTab]))
    have c2 : (r = -1 ∧ T.all chkT = true) ∨ (0 ≤ r ∧ T.all chkT = false) := by assumption
    refine Stop.go ?_
    rcases c2 with ⟨rfl, h⟩ | ⟨h1, h⟩
    · rw [h] at hK
      (replace hb0 := true_and True); refine Go1.mk ?_; repeat' ((first | (with_reducible refine Go1.go ?_) | ((with_reducible first | refine brv_mk ?_ ?_ | refine gsplitD ?_ ?_ | refine gsplitG ?_ ?_) <;> intro h <;> (try simp only [Bool.not_eq_true', Bool.not_eq_false'] at h) <;> replace hb0 := h) | (refine And.intro ?_ ?_; (try simp only [sxO] at *); omega) | fail) <;> (try simp (maxSteps := 1000000) only [hb0, ↓hold_pre, awayP, runOps, regK, step1, newK, genR, appR, obl, buildR, Value.cells, closeK, keepH, outV, retK, ret1, retC, RetV, Option.getD, runD, stepD, afterK, undef, simprocAttr, sxB, ↓sxD, sxE, sxTab]))
      exact hK
    · rw [h] at hK
      have d2 : decide (0 ≤ r) = true := decide_eq_true h1
      (replace hb0 := true_and True); refine Go1.mk ?_; repeat' ((first | (with_reducible refine Go1.go ?_) | ((with_reducible first | refine brv_mk ?_ ?_ | refine gsplitD ?_ ?_ | refine gsplitG ?_ ?_) <;> intro h <;> (try simp only [Bool.not_eq_true', Bool.not_eq_false'] at h) <;> replace hb0 := h) | (refine And.intro ?_ ?_; (try simp only [sxO] at *); omega) | fail) <;> (try simp (maxSteps := 1000000) only [hb0, d2, ↓hold_pre, awayP, runOps, regK, step1, newK, genR, appR, obl, buildR, Value.cells, closeK, keepH, outV, retK, ret1, retC, RetV, Option.getD, runD, stepD, afterK, undef, simprocAttr, sxB, ↓sxD, sxE, sxTab]))
      exact hK
  · have d1 : decide ((64 : Int) < (T.length : Int)) = true := by rw [decide_eq_true_eq]; omega
    rw [decide_eq_false h64] at hK
    (replace hb0 := true_and True); refine Go1.mk ?_; repeat' ((first | (with_reducible refine Go1.go ?_) | ((with_reducible first | refine brv_mk ?_ ?_ | refine gsplitD ?_ ?_ | refine gsplitG ?_ ?_) <;> intro h <;> (try simp only [Bool.not_eq_true', Bool.not_eq_false'] at h) <;> replace hb0 := h) | (refine And.intro ?_ ?_; (try simp only [sxO] at *); omega) | fail) <;> (try simp (maxSteps := 1000000) only [hb0, hu.one, hu.len, hu.sl, d1, ↓hold_pre, awayP, runOps, regK, step1, newK, genR, appR, obl, buildR, Value.cells, closeK, keepH, outV, retK, ret1, retC, RetV, Option.getD, runD, stepD, afterK, undef, simprocAttr, sxB, ↓sxD, sxE, sxTab]))
    exact hK
theorem errT_1 {n : Int} (h : chkTL T = false) : errT T n = 1 := by unfold errT; rw [h]; rfl
theorem errT_2 {n : Int} (h : chkTL T = true) (h2 : (decide (n < 1) || decide (8 < n)) = true) : errT T n = 3 := by
  unfold errT
  rw [h, if_pos rfl, if_neg]
  simp only [Bool.or_eq_true, decide_eq_true_eq] at h2
  omega
theorem errT_3 {n : Int} (h : chkTL T = true) (h2 : (decide (n < 1) || decide (8 < n)) = false) : errT T n = 0 := by
  unfold errT
  rw [h, if_pos rfl, if_pos]
  simp only [Bool.or_eq_false_iff, decide_eq_false_iff_not] at h2
  omega
theorem tcheck_ok (hu : IsR M 4 TK.c u T) (hb : T.length < 1000000) (n : Int) (hK : K (.ext (.int .i64 (errT T n))) [] M) : CallS Try.prog 34 [.ext u, .ext (.int .i64 n)] [] M [] K := by
  refine inlS (cs := []) Try.mixed Try.func34 rfl (by kernel_rfl) 0 rfl rfl ?_
  simp only [Try.f34]
  (replace hb0 := true_and True); refine Go1.mk ?_; repeat' ((first | (with_reducible refine Go1.go ?_) | ((with_reducible first | refine brv_mk ?_ ?_ | refine gsplitD ?_ ?_ | refine gsplitG ?_ ?_) <;> intro h <;> (try simp only [Bool.not_eq_true', Bool.not_eq_false'] at h) <;> replace hb0 := h) | (((with_reducible refine isCall (f := 29) ?_); refine callA_nil (by kernel_rfl) ?_; refine (tCheck_ok hu hb ?_))) | (refine And.intro ?_ ?_; (try simp only [sxO] at *); omega) | fail) <;> (try simp (maxSteps := 1000000) only [hb0, hu.one, ↓hold_pre, awayP, runOps, regK, step1, newK, genR, appR, obl, buildR, Value.cells, closeK, keepH, outV, retK, ret1, retC, RetV, Option.getD, runD, stepD, afterK, undef, simprocAttr, sxB, ↓sxD, sxE, sxTab]))
  · rw [errT_1 h] at hK; exact hK
  · rename_i h2
    rw [errT_2 h2 h] at hK; exact hK
  · rename_i h2
    rw [errT_3 h2 h] at hK; exact hK
end
end Go.Proofs.Ytgkfmlgfmcpebaa.Sx
namespace Go.Proofs.Ytgkfmlgfmcpebaa.Sx
open Go Go.RowKit
set_option linter.unusedVariables false
set_option linter.unusedSimpArgs false
set_option maxRecDepth 100000
set_option maxHeartbeats 8000000
attribute [local congr] fin_congr finG_congr stepG_congr step1_congr runOps_congr brv_congr obl_congr condK_congr LoopK_congr seqK_congr CutK_congr vc_congr DrawK_congr regK_congr CallK_congr AskK_congr newK_congr retC_congr ret1_congr retK_congr outV_congr closeK_congr genR_congr appR_congr finD_congr finGD_congr stepGD_congr stepD_congr CallK0_congr runD_congr okR_congr CallS_congr vcX_congr
attribute [local congr] Stop_congr
theorem set_mid (A : List Nat) (u v : Nat) (B : List Nat) : (A ++ u :: B).set A.length v = A ++ v :: B := by
  induction A with
  | nil => rfl
  | cons a r ih => simp only [List.cons_append, List.length_cons, List.set_cons_succ, ih]
theorem set_two (A C B : List Nat) (u v : Nat) {i j : Nat} (hi : i = A.length) (hj : j = A.length + 1 + C.length) : ((A ++ u :: (C ++ v :: B)).set i v).set j u = A ++ v :: (C ++ u :: B) := by
  subst hi hj
  rw [set_mid]
  have := set_mid (A ++ v :: C) v u B
  rw [List.length_append, List.length_cons, List.append_assoc, List.append_assoc, show A.length + (C.length + 1) = A.length + 1 + C.length by omega] at this
  exact this
theorem set_owt (A C B : List Nat) (u v : Nat) {i j : Nat} (hi : i = A.length) (hj : j = A.length + 1 + C.length) : ((A ++ u :: (C ++ v :: B)).set j u).set i v = A ++ v :: (C ++ u :: B) := by
  rw [List.set_comm _ _ (by omega)]; exact set_two A C B u v hi hj
theorem at_mid (A : List Nat) (u : Nat) (B : List Nat) {i : Nat} (hi : i = A.length) : (cE natV (A ++ u :: B))[i]? = some (.ext (natV u)) := by
  subst hi
  have := cE_at natV (l := A ++ u :: B) (i := A.length) (by simp)
  rw [this]; simp
theorem nat_set (L : List Nat) (i x : Nat) : (cE natV L).set i (.ext (.int .i64 (x : Int))) = cE natV (L.set i x) := cE_set natV L i x
section
variable {M : Mem} {K : AV → Hp → Mem → Prop} (ul : Value)
def so_swSt (M : Mem) (ul : Value) (N : Nat) (D : List Nat) (a b n i : Nat) : St := { env := [(10, .ext (.int .i64 (i : Int))), (1, .ext (.int .i64 (a : Int))), (2, .ext (.int .i64 (b : Int))), (3, .ext (.int .i64 (n : Int))), (0, .slo 113 0 N 1)], hp := [(113, 3, cE natV (D)), (101, 23, [.ext ul])], M := M, kb := 200, fx := [113, 101] }
theorem swap_ok (A U C V B : List Nat) (a b n N : Nat) (ha : a = A.length) (hb : b = A.length + U.length + C.length) (hU : U.length = n) (hV : V.length = n) (hN : (A ++ U ++ C ++ V ++ B).length = N) (hN2 : N < 1000000) (hK : K (.ext (.tuple #[])) [(113, 3, cE natV (A ++ V ++ C ++ U ++ B)), (101, 23, [.ext ul])] M) :
    CallS Try.prog 63 [.slo 113 0 N 1, .ext (.int .i64 (a : Int)), .ext (.int .i64 (b : Int)), .ext (.int .i64 (n : Int)), .fn 53 [.own 101 0]] [(113, 3, cE natV (A ++ U ++ C ++ V ++ B)), (101, 23, [.ext ul])] M [] K := by
  refine inlS (cs := []) Try.mixed Try.func63 rfl (by kernel_rfl) 200 rfl rfl ?_
  simp only [Try.f63]
  (replace hb0 := true_and True); refine Go1.mk ?_; repeat' ((first | (with_reducible refine Go1.go ?_) | ((with_reducible first | refine brv_mk ?_ ?_ | refine gsplitD ?_ ?_ | refine gsplitG ?_ ?_) <;> intro h <;> (try simp only [Bool.not_eq_true', Bool.not_eq_false'] at h) <;> replace hb0 := h) | ((with_reducible refine isDraw [some 16, some 17, some 18, some 19, some 20, some 21, some 22, some 23, some 24, some 25, some 26, some 27, some 28, some 29, some 30, some 31, some 32, some 33, some 34, some 35, some 36, none, some 37, none] (by decide) ?_); refine draw_rule [(0, []), (1, []), (2, []), (3, []), (4, []), (5, []), (6, []), (7, []), (8, []), (9, []), (10, []), (11, []), (12, []), (13, []), (14, [13]), (15, [13]), (16, [13]), (17, [13]), (18, [13]), (19, [13]), (20, []), (21, []), (22, []), (23, [])] [[], [], [], [1, 2], [], [], [], [5, 6], [], [], [], [9, 10], [8, 9, 10, 11], [8, 9, 10, 11, 12], [], [], [], [15, 16], [14, 15, 16, 17], [14, 15, 16, 17, 18], [0, 1, 2, 3, 8, 9, 10, 11, 12, 13, 14, 15, 16, 17, 18, 19], [0, 1, 2, 3, 8, 9, 10, 11, 12, 13, 14, 15, 16, 17, 18, 19, 20], [0, 1, 2, 3, 4, 5, 6, 7, 8, 9, 10, 11, 12, 13, 14, 15, 16, 17, 18, 19, 20, 21], [0, 1, 2, 3, 4, 5, 6, 7, 8, 9, 10, 11, 12, 13, 14, 15, 16, 17, 18, 19, 20, 21, 22]] [16, 17, 18, 19, 20, 21, 22, 23, 24, 25, 26, 27, 28, 29, 30, 31, 32, 33, 34, 35, 36] [] (by kernel_rfl) (by kernel_rfl) (by kernel_rfl) (by kernel_rfl) (by exact trivial) ?_) | (refine And.intro ?_ ?_; (try simp only [sxO] at *); omega) | fail) <;> (try simp (maxSteps := 1000000) only [hb0, natV, cE_ment, cE_kill, cE_len, hasK_nil, Nat.mul_one, List.length_set, ↓hold_pre, awayP, runOps, regK, step1, newK, genR, appR, obl, buildR, Value.cells, closeK, keepH, outV, retK, ret1, retC, RetV, Option.getD, runD, stepD, afterK, undef, simprocAttr, sxB, ↓sxD, sxE, sxTab]))
  refine ⟨fun m z => ∃ U1 U2 V1 V2 D, U = U1 ++ U2 ∧ V = V1 ++ V2 ∧ U1.length = V1.length ∧ m = U2.length ∧ D = A ++ V1 ++ U2 ++ C ++ U1 ++ V2 ++ B ∧ z = so_swSt M ul N D a b n U1.length,
    ⟨n, so_swSt M ul N (A ++ U ++ C ++ V ++ B) a b n 0, le_sub ⟨rfl, rfl, rfl, rfl, rfl, trivial⟩ ⟨by simp [lkH], by simp [lkH], trivial⟩ rfl rfl rfl (by simp [keepLt, so_swSt, lkH]), ⟨[], U, [], V, _, rfl, rfl, rfl, hU.symm, by simp, rfl⟩⟩, ?_⟩
  rintro m z ⟨U1, U2, V1, V2, D, rfl, rfl, hl, rfl, hD, rfl⟩
  rw [List.length_append] at hU hV
  simp only [List.length_append] at hN hb
  have hDl : D.length = N := by rw [hD]; simp only [List.length_append]; omega
  rcases U2 with _ | ⟨u, U2⟩
  · rcases V2 with _ | ⟨v, V2⟩
    · have d1 : decide ((U1.length : Int) < (n : Int)) = false := by rw [decide_eq_false_iff_not]; simp only [List.length_nil] at hU; omega
      (replace hb0 := true_and True); refine Go1.mk ?_; repeat' ((first | (with_reducible refine Go1.go ?_) | ((with_reducible first | refine brv_mk ?_ ?_ | refine gsplitD ?_ ?_ | refine gsplitG ?_ ?_) <;> intro h <;> (try simp only [Bool.not_eq_true', Bool.not_eq_false'] at h) <;> replace hb0 := h) | (refine And.intro ?_ ?_; (try simp only [sxO] at *); omega) | fail) <;> (try simp (maxSteps := 1000000) only [hb0, so_swSt, d1, natV, cE_ment, cE_kill, cE_len, hasK_nil, Nat.mul_one, List.length_set, ↓hold_pre, awayP, runOps, regK, step1, newK, genR, appR, obl, buildR, Value.cells, closeK, keepH, outV, retK, ret1, retC, RetV, Option.getD, runD, stepD, afterK, undef, simprocAttr, sxB, ↓sxD, sxE, sxTab]))
      simp only [List.append_nil] at hD hK
      rw [hD]
      exact hK
    · simp only [List.length_nil, List.length_cons] at hU hV; omega
  · rcases V2 with _ | ⟨v, V2⟩
    · simp only [List.length_nil, List.length_cons] at hU hV; omega
    simp only [List.length_cons] at hU hV hN hb
    have d1 : decide ((U1.length : Int) < (n : Int)) = true := by rw [decide_eq_true_eq]; omega
    have e1 : D = (A ++ V1) ++ u :: ((U2 ++ C ++ U1) ++ v :: (V2 ++ B)) := by rw [hD]; simp
    have e2 : D = ((A ++ V1) ++ u :: (U2 ++ C ++ U1)) ++ v :: (V2 ++ B) := by rw [e1]; simp
    have ai : a + U1.length = (A ++ V1).length := by rw [List.length_append]; omega
    have bi : b + U1.length = (A ++ V1).length + 1 + (U2 ++ C ++ U1).length := by simp only [List.length_append]; omega
    have bi2 : b + U1.length = ((A ++ V1) ++ u :: (U2 ++ C ++ U1)).length := by rw [bi]; simp only [List.length_append, List.length_cons]; omega
    have h1 := at_mid (A ++ V1) u ((U2 ++ C ++ U1) ++ v :: (V2 ++ B)) ai
    rw [← e1] at h1
    have h2 := at_mid ((A ++ V1) ++ u :: (U2 ++ C ++ U1)) v (V2 ++ B) bi2
    rw [← e2] at h2
    have h3 := set_two (A ++ V1) (U2 ++ C ++ U1) (V2 ++ B) u v ai bi
    rw [← e1] at h3
    have w1 : IntKind.i64.wrap ((a : Int) + (U1.length : Int)) = ((a + U1.length : Nat) : Int) := by rw [wrap_id (by omega) (by omega)]; omega
    have w2 : IntKind.i64.wrap ((b : Int) + (U1.length : Int)) = ((b + U1.length : Nat) : Int) := by rw [wrap_id (by omega) (by omega)]; omega
    have w3 : IntKind.i64.wrap ((U1.length : Int) + 1) = ((U1.length + 1 : Nat) : Int) := succ_i (by omega)
    have k1 := nat_set D (a + U1.length) v
    have k2 := nat_set (D.set (a + U1.length) v) (b + U1.length) u
    (replace hb0 := true_and True); refine Go1.mk ?_; repeat' ((first | (with_reducible refine Go1.go ?_) | ((with_reducible first | refine brv_mk ?_ ?_ | refine gsplitD ?_ ?_ | refine gsplitG ?_ ?_) <;> intro h <;> (try simp only [Bool.not_eq_true', Bool.not_eq_false'] at h) <;> replace hb0 := h) | ((with_reducible refine isDraw [some 16, some 17, some 18, some 19, some 20, some 21, some 22, some 23, some 24, some 25, some 26, some 27, some 28, some 29, some 30, some 31, some 32, some 33, some 34, some 35, some 36, none, some 37, none] (by decide) ?_); refine draw_rule [(0, []), (1, []), (2, []), (3, []), (4, []), (5, []), (6, []), (7, []), (8, []), (9, []), (10, []), (11, []), (12, []), (13, []), (14, [13]), (15, [13]), (16, [13]), (17, [13]), (18, [13]), (19, [13]), (20, []), (21, []), (22, []), (23, [])] [[], [], [], [1, 2], [], [], [], [5, 6], [], [], [], [9, 10], [8, 9, 10, 11], [8, 9, 10, 11, 12], [], [], [], [15, 16], [14, 15, 16, 17], [14, 15, 16, 17, 18], [0, 1, 2, 3, 8, 9, 10, 11, 12, 13, 14, 15, 16, 17, 18, 19], [0, 1, 2, 3, 8, 9, 10, 11, 12, 13, 14, 15, 16, 17, 18, 19, 20], [0, 1, 2, 3, 4, 5, 6, 7, 8, 9, 10, 11, 12, 13, 14, 15, 16, 17, 18, 19, 20, 21], [0, 1, 2, 3, 4, 5, 6, 7, 8, 9, 10, 11, 12, 13, 14, 15, 16, 17, 18, 19, 20, 21, 22]] [16, 17, 18, 19, 20, 21, 22, 23, 24, 25, 26, 27, 28, 29, 30, 31, 32, 33, 34, 35, 36] [] (by kernel_rfl) (by kernel_rfl) (by kernel_rfl) (by kernel_rfl) (by exact trivial) ?_) | (refine And.intro ?_ ?_; (try simp only [sxO] at *); omega) | fail) <;> (try simp (maxSteps := 1000000) only [hb0, so_swSt, d1, h1, h2, k1, k2, h3, hDl, w1, w2, w3, natV, cE_ment, cE_kill, cE_len, hasK_nil, Nat.mul_one, List.length_set, ↓hold_pre, awayP, runOps, regK, step1, newK, genR, appR, obl, buildR, Value.cells, closeK, keepH, outV, retK, ret1, retC, RetV, Option.getD, runD, stepD, afterK, undef, simprocAttr, sxB, ↓sxD, sxE, sxTab]))
    exact ⟨U2.length, so_swSt M ul N ((A ++ V1) ++ v :: ((U2 ++ C ++ U1) ++ u :: (V2 ++ B))) a b n (U1.length + 1), by simp, le_sub ⟨rfl, rfl, rfl, rfl, rfl, trivial⟩ ⟨by simp [lkH], by simp [lkH], trivial⟩ rfl rfl rfl (by simp [keepLt, so_swSt, lkH]), U1 ++ [u], U2, V1 ++ [v], V2, (A ++ V1) ++ v :: ((U2 ++ C ++ U1) ++ u :: (V2 ++ B)), by simp, by simp, by simp [hl], rfl, by simp, by rw [List.length_append]; rfl⟩
end
end Go.Proofs.Ytgkfmlgfmcpebaa.Sx
namespace Go.Proofs.Ytgkfmlgfmcpebaa.Sx
open Go Go.RowKit
set_option linter.unusedVariables false
set_option linter.unusedSimpArgs false
set_option maxRecDepth 100000
set_option maxHeartbeats 8000000
attribute [local congr] fin_congr finG_congr stepG_congr step1_congr runOps_congr brv_congr obl_congr condK_congr LoopK_congr seqK_congr CutK_congr vc_congr DrawK_congr regK_congr CallK_congr AskK_congr newK_congr retC_congr ret1_congr retK_congr outV_congr closeK_congr genR_congr appR_congr finD_congr finGD_congr stepGD_congr stepD_congr CallK0_congr runD_congr okR_congr CallS_congr vcX_congr
attribute [local congr] Stop_congr
section
variable {M : Mem} {K : AV → Hp → Mem → Prop} (ul : Value)
theorem swapD_ok (A U C V B D D' : List Nat) (a b n N : Nat) (hD : D = A ++ U ++ C ++ V ++ B) (hD' : D' = A ++ V ++ C ++ U ++ B) (ha : a = A.length) (hb : b = A.length + U.length + C.length) (hU : U.length = n) (hV : V.length = n) (hN : D.length = N) (hN2 : N < 1000000) (hK : K (.ext (.tuple #[])) [(113, 3, cE natV (D')), (101, 23, [.ext ul])] M) :
    CallS Try.prog 63 [.slo 113 0 N 1, .ext (.int .i64 (a : Int)), .ext (.int .i64 (b : Int)), .ext (.int .i64 (n : Int)), .fn 53 [.own 101 0]] [(113, 3, cE natV (D)), (101, 23, [.ext ul])] M [] K := by
  subst hD hD'
  exact swap_ok ul A U C V B a b n N ha hb hU hV hN hN2 hK
def so_roSt (M : Mem) (ul : Value) (N : Nat) (D : List Nat) (m i j : Nat) : St := { env := [(11, .ext (.int .i64 (j : Int))), (10, .ext (.int .i64 (i : Int))), (4, .fn 53 [.own 101 0]), (2, .ext (.int .i64 (m : Int))), (0, .slo 113 0 N 1)], hp := [(113, 3, cE natV (D)), (101, 23, [.ext ul])], M := M, kb := 200, fx := [113, 101] }
theorem rot_ok (A U V B D D' : List Nat) (a m b N : Nat) (hD : D = A ++ U ++ V ++ B) (hD' : D' = A ++ V ++ U ++ B) (ha : a = A.length) (hm : m = A.length + U.length) (hb : b = A.length + U.length + V.length) (hU : 0 < U.length) (hV : 0 < V.length) (hN : D.length = N) (hN2 : N < 1000000) (hK : K (.ext (.tuple #[])) [(113, 3, cE natV (D')), (101, 23, [.ext ul])] M) :
    CallS Try.prog 62 [.slo 113 0 N 1, .ext (.int .i64 (a : Int)), .ext (.int .i64 (m : Int)), .ext (.int .i64 (b : Int)), .fn 53 [.own 101 0]] [(113, 3, cE natV (D)), (101, 23, [.ext ul])] M [] K := by
  refine inlS (cs := []) Try.mixed Try.func62 rfl (by kernel_rfl) 200 rfl rfl ?_
  simp only [Try.f62]
  have hL := congrArg List.length hD
  simp only [List.length_append] at hL
  have w1 : IntKind.i64.wrap ((m : Int) - (a : Int)) = (U.length : Int) := by rw [wrap_id (by omega) (by omega)]; omega
  have w2 : IntKind.i64.wrap ((b : Int) - (m : Int)) = (V.length : Int) := by rw [wrap_id (by omega) (by omega)]; omega
  (replace hb0 := true_and True); refine Go1.mk ?_; repeat' ((first | (with_reducible refine Go1.go ?_) | ((with_reducible first | refine brv_mk ?_ ?_ | refine gsplitD ?_ ?_ | refine gsplitG ?_ ?_) <;> intro h <;> (try simp only [Bool.not_eq_true', Bool.not_eq_false'] at h) <;> replace hb0 := h) | (refine And.intro ?_ ?_; (try simp only [sxO] at *); omega) | fail) <;> (try simp (maxSteps := 1000000) only [hb0, w1, w2, natV, cE_ment, cE_kill, cE_len, hasK_nil, Nat.mul_one, List.length_set, ↓hold_pre, awayP, runOps, regK, step1, newK, genR, appR, obl, buildR, Value.cells, closeK, keepH, outV, retK, ret1, retC, RetV, Option.getD, runD, stepD, afterK, undef, simprocAttr, sxB, ↓sxD, sxE, sxTab]))
  refine ⟨fun d z => ∃ A' X Y B' E, d = X.length + Y.length ∧ 0 < X.length ∧ 0 < Y.length ∧ m = A'.length + X.length ∧ E = A' ++ X ++ Y ++ B' ∧ A' ++ Y ++ X ++ B' = D' ∧ E.length = N ∧ z = so_roSt M ul N E m X.length Y.length,
    ⟨U.length + V.length, so_roSt M ul N D m U.length V.length, le_sub ⟨rfl, rfl, rfl, rfl, rfl, trivial⟩ ⟨by first | rfl | simp [lkH], by first | rfl | simp [lkH], trivial⟩ rfl rfl rfl (by simp [keepLt, so_roSt, lkH]), ⟨A, U, V, B, D, rfl, hU, hV, hm, hD, hD'.symm, hN, rfl⟩⟩, ?_⟩
  clear hD hL w1 w2
  rintro d z ⟨A', X, Y, B', E, rfl, hX, hY, hm2, hE, hT, hEN, rfl⟩
  have hL := congrArg List.length hE
  simp only [List.length_append] at hL
  have w3 : IntKind.i64.wrap ((m : Int) - (X.length : Int)) = (A'.length : Int) := by rw [wrap_id (by omega) (by omega)]; omega
  by_cases heq : X.length = Y.length
  · have d1 : decide ((X.length : Int) = (Y.length : Int)) = true := by rw [decide_eq_true_eq]; omega
    (replace hb0 := true_and True); refine Go1.mk ?_; repeat' ((first | (with_reducible refine Go1.go ?_) | ((with_reducible first | refine brv_mk ?_ ?_ | refine gsplitD ?_ ?_ | refine gsplitG ?_ ?_) <;> intro h <;> (try simp only [Bool.not_eq_true', Bool.not_eq_false'] at h) <;> replace hb0 := h) | ((with_reducible refine isCall (f := 63) ?_); refine callA ?_) | ((with_reducible refine isCallS (f := 63) ?_); refine (swapD_ok ul A' X [] Y B' E D' _ _ _ N (by rw [hE]; simp) (by rw [← hT]; simp) rfl (by simp; omega) rfl (by omega) hEN hN2 ?_)) | (refine And.intro ?_ ?_; (try simp only [sxO] at *); omega) | fail) <;> (try simp (maxSteps := 1000000) only [hb0, so_roSt, d1, w3, natV, cE_ment, cE_kill, cE_len, hasK_nil, Nat.mul_one, List.length_set, ↓hold_pre, awayP, runOps, regK, step1, newK, genR, appR, obl, buildR, Value.cells, closeK, keepH, outV, retK, ret1, retC, RetV, Option.getD, runD, stepD, afterK, undef, simprocAttr, sxB, ↓sxD, sxE, sxTab]))
    exact hK
  have d1 : decide ((X.length : Int) = (Y.length : Int)) = false := by rw [decide_eq_false_iff_not]; omega
  by_cases hgt : Y.length < X.length
  · have d2 : decide ((Y.length : Int) < (X.length : Int)) = true := by rw [decide_eq_true_eq]; omega
    obtain ⟨X1, X2, hX12, hX1⟩ : ∃ X1 X2, X = X1 ++ X2 ∧ X1.length = Y.length := ⟨X.take Y.length, X.drop Y.length, (List.take_append_drop _ _).symm, by rw [List.length_take]; omega⟩
    have hX2 : X.length = X1.length + X2.length := by rw [hX12, List.length_append]
    have w4 : IntKind.i64.wrap ((X.length : Int) - (Y.length : Int)) = (X2.length : Int) := by rw [wrap_id (by omega) (by omega)]; omega
    (replace hb0 := true_and True); refine Go1.mk ?_; repeat' ((first | (with_reducible refine Go1.go ?_) | ((with_reducible first | refine brv_mk ?_ ?_ | refine gsplitD ?_ ?_ | refine gsplitG ?_ ?_) <;> intro h <;> (try simp only [Bool.not_eq_true', Bool.not_eq_false'] at h) <;> replace hb0 := h) | ((with_reducible refine isCall (f := 63) ?_); refine callA ?_) | ((with_reducible refine isCallS (f := 63) ?_); refine (swapD_ok ul A' X1 X2 Y B' E (A' ++ Y ++ X2 ++ X1 ++ B') _ _ _ N (by rw [hE, hX12]; simp) rfl rfl (by omega) hX1 rfl hEN hN2 ?_)) | (refine And.intro ?_ ?_; (try simp only [sxO] at *); omega) | fail) <;> (try simp (maxSteps := 1000000) only [hb0, so_roSt, d1, d2, w3, w4, natV, cE_ment, cE_kill, cE_len, hasK_nil, Nat.mul_one, List.length_set, ↓hold_pre, awayP, runOps, regK, step1, newK, genR, appR, obl, buildR, Value.cells, closeK, keepH, outV, retK, ret1, retC, RetV, Option.getD, runD, stepD, afterK, undef, simprocAttr, sxB, ↓sxD, sxE, sxTab]))
    exact ⟨X2.length + X1.length, so_roSt M ul N (A' ++ Y ++ X2 ++ X1 ++ B') m X2.length X1.length, by omega, le_sub ⟨by rw [hX1]; rfl, rfl, rfl, rfl, rfl, trivial⟩ ⟨by first | rfl | simp [lkH], by first | rfl | simp [lkH], trivial⟩ rfl rfl rfl (by simp [keepLt, so_roSt, lkH]), A' ++ Y, X2, X1, B', _, rfl, by omega, by omega, by rw [List.length_append]; omega, rfl, by rw [← hT, hX12]; simp, by simp only [List.length_append]; omega, rfl⟩
  · have d2 : decide ((Y.length : Int) < (X.length : Int)) = false := by rw [decide_eq_false_iff_not]; omega
    obtain ⟨Y1, Y2, hY12, hY2⟩ : ∃ Y1 Y2, Y = Y1 ++ Y2 ∧ Y2.length = X.length := ⟨Y.take (Y.length - X.length), Y.drop (Y.length - X.length), (List.take_append_drop _ _).symm, by rw [List.length_drop]; omega⟩
    have hY1 : Y.length = Y1.length + Y2.length := by rw [hY12, List.length_append]
    have w4 : IntKind.i64.wrap ((m : Int) + (Y.length : Int)) = ((m + Y.length : Nat) : Int) := by rw [wrap_id (by omega) (by omega)]; omega
    have w5 : IntKind.i64.wrap (((m + Y.length : Nat) : Int) - (X.length : Int)) = ((A'.length + X.length + Y1.length : Nat) : Int) := by rw [wrap_id (by omega) (by omega)]; omega
    have w6 : IntKind.i64.wrap ((Y.length : Int) - (X.length : Int)) = (Y1.length : Int) := by rw [wrap_id (by omega) (by omega)]; omega
    (replace hb0 := true_and True); refine Go1.mk ?_; repeat' ((first | (with_reducible refine Go1.go ?_) | ((with_reducible first | refine brv_mk ?_ ?_ | refine gsplitD ?_ ?_ | refine gsplitG ?_ ?_) <;> intro h <;> (try simp only [Bool.not_eq_true', Bool.not_eq_false'] at h) <;> replace hb0 := h) | ((with_reducible refine isCall (f := 63) ?_); refine callA ?_) | ((with_reducible refine isCallS (f := 63) ?_); refine (swapD_ok ul A' X Y1 Y2 B' E (A' ++ Y2 ++ Y1 ++ X ++ B') _ _ _ N (by rw [hE, hY12]; simp) rfl rfl rfl rfl hY2 hEN hN2 ?_)) | (refine And.intro ?_ ?_; (try simp only [sxO] at *); omega) | fail) <;> (try simp (maxSteps := 1000000) only [hb0, so_roSt, d1, d2, w3, w4, w5, w6, natV, cE_ment, cE_kill, cE_len, hasK_nil, Nat.mul_one, List.length_set, ↓hold_pre, awayP, runOps, regK, step1, newK, genR, appR, obl, buildR, Value.cells, closeK, keepH, outV, retK, ret1, retC, RetV, Option.getD, runD, stepD, afterK, undef, simprocAttr, sxB, ↓sxD, sxE, sxTab]))
    exact ⟨Y2.length + Y1.length, so_roSt M ul N (A' ++ Y2 ++ Y1 ++ X ++ B') m Y2.length Y1.length, by omega, le_sub ⟨rfl, by rw [hY2]; rfl, rfl, rfl, rfl, trivial⟩ ⟨by first | rfl | simp [lkH], by first | rfl | simp [lkH], trivial⟩ rfl rfl rfl (by simp [keepLt, so_roSt, lkH]), A', Y2, Y1, X ++ B', _, rfl, by omega, by omega, by omega, by simp, by rw [← hT, hY12]; simp, by simp only [List.length_append]; omega, rfl⟩
end
end Go.Proofs.Ytgkfmlgfmcpebaa.Sx
namespace Go.Proofs.Ytgkfmlgfmcpebaa.Sx
open Go Go.RowKit
set_option linter.unusedVariables false
set_option linter.unusedSimpArgs false
set_option maxRecDepth 100000
set_option maxHeartbeats 8000000
attribute [local congr] fin_congr finG_congr stepG_congr step1_congr runOps_congr brv_congr obl_congr condK_congr LoopK_congr seqK_congr CutK_congr vc_congr DrawK_congr regK_congr CallK_congr AskK_congr newK_congr retC_congr ret1_congr retK_congr outV_congr closeK_congr genR_congr appR_congr finD_congr finGD_congr stepGD_congr stepD_congr CallK0_congr runD_congr okR_congr CallS_congr vcX_congr
attribute [local congr] Stop_congr
def CmpK (M : Mem) (ul : Value) (c : Nat → Nat → Int) (NN : Nat) : Prop := ∀ (x y : Nat) (M1 : Mem) (K : AV → Hp → Mem → Prop), x < NN → y < NN → Mem.le M M1 → (∀ M2, Mem.le M1 M2 → K (.ext (.int .i64 (c x y))) [(101, 23, [.ext ul])] M2) → CallS Try.prog 53 [.ext (.int .i64 (x : Int)), .ext (.int .i64 (y : Int)), .own 101 0] [(101, 23, [.ext ul])] M1 [] K
section
variable {M : Mem} {K : AV → Hp → Mem → Prop} (ul : Value) {c : Nat → Nat → Int}
def so_ioSt (M : Mem) (ul : Value) (N : Nat) (D : List Nat) (a b i : Nat) : St := { env := [(8, .ext (.int .i64 (i : Int))), (3, .fn 53 [.own 101 0]), (2, .ext (.int .i64 (b : Int))), (1, .ext (.int .i64 (a : Int))), (0, .slo 113 0 N 1)], hp := [(113, 3, cE natV (D)), (101, 23, [.ext ul])], M := M, kb := 200, fx := [113, 101] }
def so_iiSt (M : Mem) (ul : Value) (N : Nat) (D : List Nat) (a b i j : Nat) : St := { env := [(9, .ext (.int .i64 (j : Int))), (8, .ext (.int .i64 (i : Int))), (3, .fn 53 [.own 101 0]), (2, .ext (.int .i64 (b : Int))), (1, .ext (.int .i64 (a : Int))), (0, .slo 113 0 N 1)], hp := [(113, 3, cE natV (D)), (101, 23, [.ext ul])], M := M, kb := 200, fx := [113, 101] }
theorem ins_ok (ho : CmpO c) (NN : Nat) (hc : CmpK M ul c NN) (A S B D : List Nat) (a b N : Nat) (hD : D = A ++ S ++ B) (ha : a = A.length) (hb : b = A.length + S.length) (hS : S.Pairwise (· < ·)) (hSN : ∀ x ∈ S, x < NN) (hN : D.length = N) (hN2 : N < 1000000)
    (hK : ∀ S' M', Mem.le M M' → S'.Perm S → S'.Pairwise (ltS c) → K (.ext (.tuple #[])) [(113, 3, cE natV (A ++ S' ++ B)), (101, 23, [.ext ul])] M') :
    CallS Try.prog 60 [.slo 113 0 N 1, .ext (.int .i64 (a : Int)), .ext (.int .i64 (b : Int)), .fn 53 [.own 101 0]] [(113, 3, cE natV (D)), (101, 23, [.ext ul])] M [] K := by
  refine inlS (cs := []) Try.mixed Try.func60 rfl (by kernel_rfl) 200 rfl rfl ?_
  simp only [Try.f60]
  have hL := congrArg List.length hD
  simp only [List.length_append] at hL
  have w1 : IntKind.i64.wrap ((a : Int) + 1) = ((a + 1 : Nat) : Int) := succ_i (by omega)
  (replace hb0 := true_and True); refine Go1.mk ?_; repeat' ((first | (with_reducible refine Go1.go ?_) | ((with_reducible first | refine brv_mk ?_ ?_ | refine gsplitD ?_ ?_ | refine gsplitG ?_ ?_) <;> intro h <;> (try simp only [Bool.not_eq_true', Bool.not_eq_false'] at h) <;> replace hb0 := h) | (refine And.intro ?_ ?_; (try simp only [sxO] at *); omega) | fail) <;> (try simp (maxSteps := 1000000) only [hb0, w1, natV, cE_ment, cE_kill, cE_len, hasK_nil, Nat.mul_one, List.length_set, ↓hold_pre, awayP, runOps, regK, step1, newK, genR, appR, obl, buildR, Value.cells, closeK, keepH, outV, retK, ret1, retC, RetV, Option.getD, runD, stepD, afterK, undef, simprocAttr, sxB, ↓sxD, sxE, sxTab]))
  rcases S with _ | ⟨s0, S0⟩
  · refine ⟨fun m z => z = so_ioSt M ul N D a b (a + 1), ⟨0, so_ioSt M ul N D a b (a + 1), le_sub ⟨rfl, rfl, rfl, rfl, rfl, trivial⟩ ⟨by first | rfl | simp [lkH], by first | rfl | simp [lkH], trivial⟩ rfl rfl rfl (by simp [keepLt, so_ioSt, lkH]), rfl⟩, ?_⟩
    rintro m z rfl
    have d1 : decide (((a + 1 : Nat) : Int) < (b : Int)) = false := by rw [decide_eq_false_iff_not]; simp only [List.length_nil] at hb; omega
    (replace hb0 := true_and True); refine Go1.mk ?_; repeat' ((first | (with_reducible refine Go1.go ?_) | ((with_reducible first | refine brv_mk ?_ ?_ | refine gsplitD ?_ ?_ | refine gsplitG ?_ ?_) <;> intro h <;> (try simp only [Bool.not_eq_true', Bool.not_eq_false'] at h) <;> replace hb0 := h) | (refine And.intro ?_ ?_; (try simp only [sxO] at *); omega) | fail) <;> (try simp (maxSteps := 1000000) only [hb0, so_ioSt, d1, natV, cE_ment, cE_kill, cE_len, hasK_nil, Nat.mul_one, List.length_set, ↓hold_pre, awayP, runOps, regK, step1, newK, genR, appR, obl, buildR, Value.cells, closeK, keepH, outV, retK, ret1, retC, RetV, Option.getD, runD, stepD, afterK, undef, simprocAttr, sxB, ↓sxD, sxE, sxTab]))
    rw [hD]
    exact hK [] M (Mem.le.refl _) (List.Perm.refl _) List.Pairwise.nil
  refine ⟨fun m z => ∃ M' P S1 S2 E, m = S2.length ∧ Mem.le M M' ∧ s0 :: S0 = S1 ++ S2 ∧ P.Perm S1 ∧ P.Pairwise (ltS c) ∧ 0 < P.length ∧ E = A ++ P ++ S2 ++ B ∧ z = so_ioSt M' ul N E a b (a + P.length),
    ⟨S0.length, so_ioSt M ul N D a b (a + 1), le_sub ⟨rfl, rfl, rfl, rfl, rfl, trivial⟩ ⟨by first | rfl | simp [lkH], by first | rfl | simp [lkH], trivial⟩ rfl rfl rfl (by simp [keepLt, so_ioSt, lkH]), ⟨M, [s0], [s0], S0, D, rfl, Mem.le.refl _, rfl, List.Perm.refl _, by simp, by simp, by rw [hD]; simp, rfl⟩⟩, ?_⟩
  clear w1 hD
  rintro m z ⟨M1, P, S1, S2, E, rfl, hM1, hSS, hP, hPs, hP0, hE, rfl⟩
  have hPl := hP.length_eq
  have hSl := congrArg List.length hSS
  rw [List.length_append] at hSl
  have hEL := congrArg List.length hE
  simp only [List.length_append] at hEL
  have hEN : E.length = N := by omega
  rcases S2 with _ | ⟨x, S2⟩
  · have d1 : decide (((a + P.length : Nat) : Int) < (b : Int)) = false := by rw [decide_eq_false_iff_not]; simp only [List.length_nil] at hSl; omega
    (replace hb0 := true_and True); refine Go1.mk ?_; repeat' ((first | (with_reducible refine Go1.go ?_) | ((with_reducible first | refine brv_mk ?_ ?_ | refine gsplitD ?_ ?_ | refine gsplitG ?_ ?_) <;> intro h <;> (try simp only [Bool.not_eq_true', Bool.not_eq_false'] at h) <;> replace hb0 := h) | (refine And.intro ?_ ?_; (try simp only [sxO] at *); omega) | fail) <;> (try simp (maxSteps := 1000000) only [hb0, so_ioSt, d1, natV, cE_ment, cE_kill, cE_len, hasK_nil, Nat.mul_one, List.length_set, ↓hold_pre, awayP, runOps, regK, step1, newK, genR, appR, obl, buildR, Value.cells, closeK, keepH, outV, retK, ret1, retC, RetV, Option.getD, runD, stepD, afterK, undef, simprocAttr, sxB, ↓sxD, sxE, sxTab]))
    rw [hE]
    rw [List.append_nil] at hSS ⊢
    exact hK P M1 hM1 (by rw [hSS]; exact hP) hPs
  simp only [List.length_cons] at hSl hEL hL hb
  have d1 : decide (((a + P.length : Nat) : Int) < (b : Int)) = true := by rw [decide_eq_true_eq]; omega
  have hxN : x < NN := hSN x (by rw [hSS]; simp)
  have hlt : ∀ y ∈ P, y < x ∧ y < NN := fun y hy => by
    have h1 : y ∈ S1 := hP.subset hy
    refine ⟨?_, hSN y (by rw [hSS]; simp [h1])⟩
    have h2 := hS
    rw [hSS] at h2
    exact (List.pairwise_append.1 h2).2.2 y h1 x (by simp)
  (replace hb0 := true_and True); refine Go1.mk ?_; repeat' ((first | (with_reducible refine Go1.go ?_) | ((with_reducible first | refine brv_mk ?_ ?_ | refine gsplitD ?_ ?_ | refine gsplitG ?_ ?_) <;> intro h <;> (try simp only [Bool.not_eq_true', Bool.not_eq_false'] at h) <;> replace hb0 := h) | (refine And.intro ?_ ?_; (try simp only [sxO] at *); omega) | fail) <;> (try simp (maxSteps := 1000000) only [hb0, so_ioSt, d1, natV, cE_ment, cE_kill, cE_len, hasK_nil, Nat.mul_one, List.length_set, ↓hold_pre, awayP, runOps, regK, step1, newK, genR, appR, obl, buildR, Value.cells, closeK, keepH, outV, retK, ret1, retC, RetV, Option.getD, runD, stepD, afterK, undef, simprocAttr, sxB, ↓sxD, sxE, sxTab]))
  have wi : IntKind.i64.wrap (((a + P.length : Nat) : Int) + 1) = ((a + P.length + 1 : Nat) : Int) := succ_i (by omega)
  have fin : ∀ (P1 P2 : List Nat) (M2 : Mem) (s : St), Mem.le M M2 → P = P1 ++ P2 → (P1 ++ x :: P2).Pairwise (ltS c) → Le s (so_ioSt M2 ul N (A ++ (P1 ++ x :: P2) ++ S2 ++ B) a b (a + P.length + 1)) → ∃ m' z, m' < (x :: S2).length ∧ Le s z ∧ (∃ M' P S1 S2 E, m' = S2.length ∧ Mem.le M M' ∧ s0 :: S0 = S1 ++ S2 ∧ P.Perm S1 ∧ P.Pairwise (ltS c) ∧ 0 < P.length ∧ E = A ++ P ++ S2 ++ B ∧ z = so_ioSt M' ul N E a b (a + P.length)) := fun P1 P2 M2 s h1 h2 h3 h4 =>
    ⟨S2.length, _, by simp, h4, M2, P1 ++ x :: P2, S1 ++ [x], S2, _, rfl, h1, by rw [hSS]; simp, by
      have h5 : (P1 ++ x :: P2).Perm (P ++ [x]) := by
        rw [h2]
        refine List.perm_middle.trans ?_
        exact (List.perm_append_comm (l₁ := [x]) (l₂ := P1 ++ P2))
      exact h5.trans (hP.append_right [x]), h3, by simp only [List.length_append, List.length_cons]; omega, rfl, by
      have : (P1 ++ x :: P2).length = P.length + 1 := by rw [h2]; simp; omega
      rw [this]; rfl⟩
  refine ⟨fun m z => ∃ M' P1 P2 E, m = P1.length ∧ Mem.le M M' ∧ P = P1 ++ P2 ∧ (∀ q ∈ P2, ltS c x q) ∧ E = A ++ P1 ++ x :: P2 ++ S2 ++ B ∧ z = so_iiSt M' ul N E a b (a + P.length) (a + P1.length),
    ⟨P.length, so_iiSt M1 ul N E a b (a + P.length) (a + P.length), le_sub ⟨rfl, rfl, rfl, rfl, rfl, rfl, trivial⟩ ⟨by first | rfl | simp [lkH], by first | rfl | simp [lkH], trivial⟩ rfl rfl rfl (by simp [keepLt, so_iiSt, lkH]), ⟨M1, P, [], E, rfl, hM1, by simp, by simp, by rw [hE]; simp, rfl⟩⟩, ?_⟩
  clear hE hEN hEL d1
  rintro m z ⟨M2, P1, P2, E, rfl, hM2, hPP, hq, hE, rfl⟩
  have hPPl := congrArg List.length hPP
  rw [List.length_append] at hPPl
  have hEN : E.length = N := by rw [hE]; simp only [List.length_append, List.length_cons]; omega
  have hP2s : (x :: P2).Pairwise (ltS c) := List.pairwise_cons.2 ⟨hq, by rw [hPP] at hPs; exact (pw_app.1 hPs).2.1⟩
  rcases List.eq_nil_or_concat P1 with rfl | ⟨P1', y, hy⟩
  · have d2 : decide ((a : Int) < (a : Int)) = false := by simp
    (replace hb0 := true_and True); refine Go1.mk ?_; repeat' ((first | (with_reducible refine Go1.go ?_) | ((with_reducible first | refine brv_mk ?_ ?_ | refine gsplitD ?_ ?_ | refine gsplitG ?_ ?_) <;> intro h <;> (try simp only [Bool.not_eq_true', Bool.not_eq_false'] at h) <;> replace hb0 := h) | ((with_reducible refine isDraw [some 18, some 19, some 20, some 21, some 22, some 23, some 24, some 25, some 26, some 27, some 28, some 29, some 30, some 31, some 32, some 33, some 34] (by decide) ?_); refine draw_rule [(0, []), (1, []), (2, []), (3, []), (4, []), (5, []), (6, []), (7, []), (8, []), (9, [8]), (10, [8]), (11, [8]), (12, [8]), (13, [8]), (14, []), (15, []), (16, [])] [[], [], [0, 1], [0, 1, 2], [0, 1, 2, 3], [0, 1, 2, 3], [0, 1, 2, 3], [0, 1, 2, 3, 5, 6], [0, 1, 2, 3, 5, 6, 7], [0, 1, 2, 3], [0, 1, 2, 3], [0, 1, 2, 3, 10], [0, 1, 2, 3, 9, 10, 11], [0, 1, 2, 3, 9, 10, 11, 12], [0, 1, 2, 3, 4, 5, 6, 7, 8, 9, 10, 11, 12, 13], [0, 1, 2, 3, 4, 5, 6, 7, 8, 9, 10, 11, 12, 13, 14], [0, 1, 2, 3, 4, 5, 6, 7, 8, 9, 10, 11, 12, 13, 14, 15]] [18, 19, 22, 23, 24, 25, 26, 27, 28, 29, 30, 31] [] (by kernel_rfl) (by kernel_rfl) (by kernel_rfl) (by kernel_rfl) (by exact trivial) ?_) | ((with_reducible refine isDraw [some 37, some 38, some 39, some 40, some 41, some 42, some 43, some 44, some 45, some 46, some 47, some 48, some 49, some 50, some 51, none, some 52, none] (by decide) ?_); refine draw_rule [(0, []), (1, []), (2, []), (3, []), (4, []), (5, []), (6, []), (7, []), (8, []), (9, []), (10, [9]), (11, [9]), (12, [9]), (13, [9]), (14, []), (15, []), (16, []), (17, [])] [[], [], [], [], [3], [], [], [6], [5, 6, 7], [5, 6, 7, 8], [], [], [10, 11], [10, 11, 12], [0, 1, 5, 6, 7, 8, 9, 10, 11, 12, 13], [0, 1, 5, 6, 7, 8, 9, 10, 11, 12, 13, 14], [0, 1, 2, 3, 4, 5, 6, 7, 8, 9, 10, 11, 12, 13, 14, 15], [0, 1, 2, 3, 4, 5, 6, 7, 8, 9, 10, 11, 12, 13, 14, 15, 16]] [37, 38, 39, 40, 41, 42, 43, 44, 45, 46, 47, 48, 49, 50, 51] [] (by kernel_rfl) (by kernel_rfl) (by kernel_rfl) (by kernel_rfl) (by exact trivial) ?_) | (refine And.intro ?_ ?_; (try simp only [sxO] at *); omega) | fail) <;> (try simp (maxSteps := 1000000) only [hb0, so_iiSt, d2, wi, natV, cE_ment, cE_kill, cE_len, hasK_nil, Nat.mul_one, List.length_set, ↓hold_pre, awayP, runOps, regK, step1, newK, genR, appR, obl, buildR, Value.cells, closeK, keepH, outV, retK, ret1, retC, RetV, Option.getD, runD, stepD, afterK, undef, simprocAttr, sxB, ↓sxD, sxE, sxTab]))
    rw [hE, show A ++ [] ++ x :: P2 ++ S2 ++ B = A ++ ([] ++ x :: P2) ++ S2 ++ B by simp]
    exact fin [] P2 M2 _ hM2 hPP (by simpa using hP2s) (le_sub ⟨rfl, rfl, rfl, rfl, rfl, trivial⟩ ⟨by first | rfl | simp [lkH], by first | rfl | simp [lkH], trivial⟩ rfl rfl rfl (by simp [keepLt, so_ioSt, lkH]))
  rw [List.concat_eq_append] at hy
  subst hy
  have hl1 : a + (P1' ++ [y]).length = a + P1'.length + 1 := by rw [List.length_append]; rfl
  rw [hl1]
  obtain ⟨hyx, hyN⟩ := hlt y (by rw [hPP]; simp)
  have d2 : decide ((a : Int) < ((a + P1'.length + 1 : Nat) : Int)) = true := by rw [decide_eq_true_eq]; omega
  have e1 : E = (A ++ P1') ++ y :: ([] ++ x :: (P2 ++ S2 ++ B)) := by rw [hE]; simp
  have e2 : E = (A ++ P1' ++ [y]) ++ x :: (P2 ++ S2 ++ B) := by rw [hE]; simp
  have h1 := at_mid (A ++ P1') y ([] ++ x :: (P2 ++ S2 ++ B)) (i := a + P1'.length) (by rw [List.length_append]; omega)
  rw [← e1] at h1
  have h2 := at_mid (A ++ P1' ++ [y]) x (P2 ++ S2 ++ B) (i := a + P1'.length + 1) (by simp only [List.length_append, List.length_cons, List.length_nil]; omega)
  rw [← e2] at h2
  have h3 := set_owt (A ++ P1') [] (P2 ++ S2 ++ B) y x (i := a + P1'.length) (j := a + P1'.length + 1) (by rw [List.length_append]; omega) (by rw [List.length_append, List.length_nil]; omega)
  rw [← e1] at h3
  have wj : IntKind.i64.wrap (((a + P1'.length + 1 : Nat) : Int) - 1) = ((a + P1'.length : Nat) : Int) := by rw [wrap_id (by omega) (by omega)]; omega
  have j1 : (0 : Int) ≤ ((a + P1'.length + 1 : Nat) : Int) := by omega
  have j2 : ((a + P1'.length + 1 : Nat) : Int) < (N : Int) := by omega
  have j3 : (0 : Int) ≤ ((a + P1'.length : Nat) : Int) := by omega
  have j4 : ((a + P1'.length : Nat) : Int) < (N : Int) := by omega
  have k1 := nat_set E (a + P1'.length + 1) y
  have k2 := nat_set (E.set (a + P1'.length + 1) y) (a + P1'.length) x
  (replace hb0 := true_and True); refine Go1.mk ?_; repeat' ((first | (with_reducible refine Go1.go ?_) | ((with_reducible first | refine brv_mk ?_ ?_ | refine gsplitD ?_ ?_ | refine gsplitG ?_ ?_) <;> intro h <;> (try simp only [Bool.not_eq_true', Bool.not_eq_false'] at h) <;> replace hb0 := h) | ((with_reducible refine isCall0 (f := 53) ?_); refine callA0 ?_) | ((with_reducible refine isCallS (f := 53) ?_); refine (hc x y _ _ hxN hyN hM2 (fun M3 m3 => Stop.mk ?_))) | ((with_reducible refine isDraw [some 18, some 19, some 20, some 21, some 22, some 23, some 24, some 25, some 26, some 27, some 28, some 29, some 30, some 31, some 32, some 33, some 34] (by decide) ?_); refine draw_rule [(0, []), (1, []), (2, []), (3, []), (4, []), (5, []), (6, []), (7, []), (8, []), (9, [8]), (10, [8]), (11, [8]), (12, [8]), (13, [8]), (14, []), (15, []), (16, [])] [[], [], [0, 1], [0, 1, 2], [0, 1, 2, 3], [0, 1, 2, 3], [0, 1, 2, 3], [0, 1, 2, 3, 5, 6], [0, 1, 2, 3, 5, 6, 7], [0, 1, 2, 3], [0, 1, 2, 3], [0, 1, 2, 3, 10], [0, 1, 2, 3, 9, 10, 11], [0, 1, 2, 3, 9, 10, 11, 12], [0, 1, 2, 3, 4, 5, 6, 7, 8, 9, 10, 11, 12, 13], [0, 1, 2, 3, 4, 5, 6, 7, 8, 9, 10, 11, 12, 13, 14], [0, 1, 2, 3, 4, 5, 6, 7, 8, 9, 10, 11, 12, 13, 14, 15]] [18, 19, 22, 23, 24, 25, 26, 27, 28, 29, 30, 31] [] (by kernel_rfl) (by kernel_rfl) (by kernel_rfl) (by kernel_rfl) (by exact trivial) ?_) | ((with_reducible refine isDraw [some 37, some 38, some 39, some 40, some 41, some 42, some 43, some 44, some 45, some 46, some 47, some 48, some 49, some 50, some 51, none, some 52, none] (by decide) ?_); refine draw_rule [(0, []), (1, []), (2, []), (3, []), (4, []), (5, []), (6, []), (7, []), (8, []), (9, []), (10, [9]), (11, [9]), (12, [9]), (13, [9]), (14, []), (15, []), (16, []), (17, [])] [[], [], [], [], [3], [], [], [6], [5, 6, 7], [5, 6, 7, 8], [], [], [10, 11], [10, 11, 12], [0, 1, 5, 6, 7, 8, 9, 10, 11, 12, 13], [0, 1, 5, 6, 7, 8, 9, 10, 11, 12, 13, 14], [0, 1, 2, 3, 4, 5, 6, 7, 8, 9, 10, 11, 12, 13, 14, 15], [0, 1, 2, 3, 4, 5, 6, 7, 8, 9, 10, 11, 12, 13, 14, 15, 16]] [37, 38, 39, 40, 41, 42, 43, 44, 45, 46, 47, 48, 49, 50, 51] [] (by kernel_rfl) (by kernel_rfl) (by kernel_rfl) (by kernel_rfl) (by exact trivial) ?_) | (refine And.intro ?_ ?_; (try simp only [sxO] at *); omega) | fail) <;> (try simp (maxSteps := 1000000) only [hb0, so_iiSt, d2, wi, wj, h1, h2, j1, j2, j3, j4, natV, cE_ment, cE_kill, cE_len, hasK_nil, Nat.mul_one, List.length_set, ↓hold_pre, awayP, runOps, regK, step1, newK, genR, appR, obl, buildR, Value.cells, closeK, keepH, outV, retK, ret1, retC, RetV, Option.getD, runD, stepD, afterK, undef, simprocAttr, sxB, ↓sxD, sxE, sxTab]))
  have m3 : Mem.le M2 M3 := m3
  have hM3 := hM2.trans m3
  by_cases hcc : c x y < 0
  · have d3 : decide (c x y < 0) = true := decide_eq_true hcc
    refine Stop.go ?_
    (replace hb0 := true_and True); refine Go1.mk ?_; repeat' ((first | (with_reducible refine Go1.go ?_) | ((with_reducible first | refine brv_mk ?_ ?_ | refine gsplitD ?_ ?_ | refine gsplitG ?_ ?_) <;> intro h <;> (try simp only [Bool.not_eq_true', Bool.not_eq_false'] at h) <;> replace hb0 := h) | ((with_reducible refine isDraw [some 18, some 19, some 20, some 21, some 22, some 23, some 24, some 25, some 26, some 27, some 28, some 29, some 30, some 31, some 32, some 33, some 34] (by decide) ?_); refine draw_rule [(0, []), (1, []), (2, []), (3, []), (4, []), (5, []), (6, []), (7, []), (8, []), (9, [8]), (10, [8]), (11, [8]), (12, [8]), (13, [8]), (14, []), (15, []), (16, [])] [[], [], [0, 1], [0, 1, 2], [0, 1, 2, 3], [0, 1, 2, 3], [0, 1, 2, 3], [0, 1, 2, 3, 5, 6], [0, 1, 2, 3, 5, 6, 7], [0, 1, 2, 3], [0, 1, 2, 3], [0, 1, 2, 3, 10], [0, 1, 2, 3, 9, 10, 11], [0, 1, 2, 3, 9, 10, 11, 12], [0, 1, 2, 3, 4, 5, 6, 7, 8, 9, 10, 11, 12, 13], [0, 1, 2, 3, 4, 5, 6, 7, 8, 9, 10, 11, 12, 13, 14], [0, 1, 2, 3, 4, 5, 6, 7, 8, 9, 10, 11, 12, 13, 14, 15]] [18, 19, 22, 23, 24, 25, 26, 27, 28, 29, 30, 31] [] (by kernel_rfl) (by kernel_rfl) (by kernel_rfl) (by kernel_rfl) (by exact trivial) ?_) | ((with_reducible refine isDraw [some 37, some 38, some 39, some 40, some 41, some 42, some 43, some 44, some 45, some 46, some 47, some 48, some 49, some 50, some 51, none, some 52, none] (by decide) ?_); refine draw_rule [(0, []), (1, []), (2, []), (3, []), (4, []), (5, []), (6, []), (7, []), (8, []), (9, []), (10, [9]), (11, [9]), (12, [9]), (13, [9]), (14, []), (15, []), (16, []), (17, [])] [[], [], [], [], [3], [], [], [6], [5, 6, 7], [5, 6, 7, 8], [], [], [10, 11], [10, 11, 12], [0, 1, 5, 6, 7, 8, 9, 10, 11, 12, 13], [0, 1, 5, 6, 7, 8, 9, 10, 11, 12, 13, 14], [0, 1, 2, 3, 4, 5, 6, 7, 8, 9, 10, 11, 12, 13, 14, 15], [0, 1, 2, 3, 4, 5, 6, 7, 8, 9, 10, 11, 12, 13, 14, 15, 16]] [37, 38, 39, 40, 41, 42, 43, 44, 45, 46, 47, 48, 49, 50, 51] [] (by kernel_rfl) (by kernel_rfl) (by kernel_rfl) (by kernel_rfl) (by exact trivial) ?_) | (refine And.intro ?_ ?_; (try simp only [sxO] at *); omega) | fail) <;> (try simp (maxSteps := 1000000) only [hb0, d3, wi, wj, h1, h2, j1, j2, j3, j4, k1, k2, h3, hEN, natV, cE_ment, cE_kill, cE_len, hasK_nil, Nat.mul_one, List.length_set, ↓hold_pre, awayP, runOps, regK, step1, newK, genR, appR, obl, buildR, Value.cells, closeK, keepH, outV, retK, ret1, retC, RetV, Option.getD, runD, stepD, afterK, undef, simprocAttr, sxB, ↓sxD, sxE, sxTab]))
    exact ⟨P1'.length, so_iiSt M3 ul N ((A ++ P1') ++ x :: ([] ++ y :: (P2 ++ S2 ++ B))) a b (a + P.length) (a + P1'.length), by simp, le_sub ⟨rfl, rfl, rfl, rfl, rfl, rfl, trivial⟩ ⟨by first | rfl | simp [lkH], by first | rfl | simp [lkH], trivial⟩ rfl rfl rfl (by simp [keepLt, so_iiSt, lkH]), M3, P1', y :: P2, _, rfl, hM3, by rw [hPP]; simp, fun q hq2 => by
      rcases List.mem_cons.1 hq2 with h | h
      · rw [h]; exact (ltS_ask hyx).1 hcc
      · exact hq q h, by simp, rfl⟩
  · have d3 : decide (c x y < 0) = false := decide_eq_false hcc
    have hyx2 := ltS_not ho hyx hcc
    refine Stop.go ?_
    (replace hb0 := true_and True); refine Go1.mk ?_; repeat' ((first | (with_reducible refine Go1.go ?_) | ((with_reducible first | refine brv_mk ?_ ?_ | refine gsplitD ?_ ?_ | refine gsplitG ?_ ?_) <;> intro h <;> (try simp only [Bool.not_eq_true', Bool.not_eq_false'] at h) <;> replace hb0 := h) | ((with_reducible refine isDraw [some 18, some 19, some 20, some 21, some 22, some 23, some 24, some 25, some 26, some 27, some 28, some 29, some 30, some 31, some 32, some 33, some 34] (by decide) ?_); refine draw_rule [(0, []), (1, []), (2, []), (3, []), (4, []), (5, []), (6, []), (7, []), (8, []), (9, [8]), (10, [8]), (11, [8]), (12, [8]), (13, [8]), (14, []), (15, []), (16, [])] [[], [], [0, 1], [0, 1, 2], [0, 1, 2, 3], [0, 1, 2, 3], [0, 1, 2, 3], [0, 1, 2, 3, 5, 6], [0, 1, 2, 3, 5, 6, 7], [0, 1, 2, 3], [0, 1, 2, 3], [0, 1, 2, 3, 10], [0, 1, 2, 3, 9, 10, 11], [0, 1, 2, 3, 9, 10, 11, 12], [0, 1, 2, 3, 4, 5, 6, 7, 8, 9, 10, 11, 12, 13], [0, 1, 2, 3, 4, 5, 6, 7, 8, 9, 10, 11, 12, 13, 14], [0, 1, 2, 3, 4, 5, 6, 7, 8, 9, 10, 11, 12, 13, 14, 15]] [18, 19, 22, 23, 24, 25, 26, 27, 28, 29, 30, 31] [] (by kernel_rfl) (by kernel_rfl) (by kernel_rfl) (by kernel_rfl) (by exact trivial) ?_) | ((with_reducible refine isDraw [some 37, some 38, some 39, some 40, some 41, some 42, some 43, some 44, some 45, some 46, some 47, some 48, some 49, some 50, some 51, none, some 52, none] (by decide) ?_); refine draw_rule [(0, []), (1, []), (2, []), (3, []), (4, []), (5, []), (6, []), (7, []), (8, []), (9, []), (10, [9]), (11, [9]), (12, [9]), (13, [9]), (14, []), (15, []), (16, []), (17, [])] [[], [], [], [], [3], [], [], [6], [5, 6, 7], [5, 6, 7, 8], [], [], [10, 11], [10, 11, 12], [0, 1, 5, 6, 7, 8, 9, 10, 11, 12, 13], [0, 1, 5, 6, 7, 8, 9, 10, 11, 12, 13, 14], [0, 1, 2, 3, 4, 5, 6, 7, 8, 9, 10, 11, 12, 13, 14, 15], [0, 1, 2, 3, 4, 5, 6, 7, 8, 9, 10, 11, 12, 13, 14, 15, 16]] [37, 38, 39, 40, 41, 42, 43, 44, 45, 46, 47, 48, 49, 50, 51] [] (by kernel_rfl) (by kernel_rfl) (by kernel_rfl) (by kernel_rfl) (by exact trivial) ?_) | (refine And.intro ?_ ?_; (try simp only [sxO] at *); omega) | fail) <;> (try simp (maxSteps := 1000000) only [hb0, d3, wi, wj, h1, h2, j1, j2, j3, j4, hEN, natV, cE_ment, cE_kill, cE_len, hasK_nil, Nat.mul_one, List.length_set, ↓hold_pre, awayP, runOps, regK, step1, newK, genR, appR, obl, buildR, Value.cells, closeK, keepH, outV, retK, ret1, retC, RetV, Option.getD, runD, stepD, afterK, undef, simprocAttr, sxB, ↓sxD, sxE, sxTab]))
    rw [hE, show A ++ (P1' ++ [y]) ++ x :: P2 ++ S2 ++ B = A ++ ((P1' ++ [y]) ++ x :: P2) ++ S2 ++ B by simp]
    exact fin (P1' ++ [y]) P2 M3 _ hM3 hPP (pw_app.2 ⟨by rw [hPP] at hPs; exact (pw_app.1 hPs).1, hP2s, ahead_ends ho (by rw [hPP] at hPs; exact (pw_app.1 hPs).1) hP2s fun A' x1 y1 B' ha hb => by
      have e3 := List.append_inj_right' ha (by simp)
      simp only [List.cons.injEq] at e3 hb
      rw [← e3.1, ← hb.1]; exact hyx2⟩) (le_sub ⟨rfl, rfl, rfl, rfl, rfl, trivial⟩ ⟨by first | rfl | simp [lkH], by first | rfl | simp [lkH], trivial⟩ rfl rfl rfl (by simp [keepLt, so_ioSt, lkH]))
end
end Go.Proofs.Ytgkfmlgfmcpebaa.Sx
namespace Go.Proofs.Ytgkfmlgfmcpebaa.Sx
open Go Go.RowKit
set_option linter.unusedVariables false
set_option linter.unusedSimpArgs false
set_option maxRecDepth 100000
set_option maxHeartbeats 8000000
attribute [local congr] fin_congr finG_congr stepG_congr step1_congr runOps_congr brv_congr obl_congr condK_congr LoopK_congr seqK_congr CutK_congr vc_congr DrawK_congr regK_congr CallK_congr AskK_congr newK_congr retC_congr ret1_congr retK_congr outV_congr closeK_congr genR_congr appR_congr finD_congr finGD_congr stepGD_congr stepD_congr CallK0_congr runD_congr okR_congr CallS_congr vcX_congr
attribute [local congr] Stop_congr
theorem sh_one (x : Nat) : (x : Int).fdiv (2 ^ (min 1 IntKind.u64.bits)) = ((x / 2 : Nat) : Int) := by
  have h1 : min 1 IntKind.u64.bits = 1 := rfl
  rw [h1, Int.fdiv_eq_ediv_of_nonneg _ (by decide)]
  simp
def nt (L : List Nat) (i : Nat) : Nat := L[i]?.getD 0
theorem nt_mid {D : List Nat} (P Q R : List Nat) {i j : Nat} (hD : D = P ++ Q ++ R) (hi : i < Q.length) (hj : j = P.length + i) : nt D j = nt Q i := by
  subst hD hj
  unfold nt
  rw [List.append_assoc, List.getElem?_append_right (by omega), Nat.add_sub_cancel_left, List.getElem?_append_left hi]
theorem nt_get {Q : List Nat} {i : Nat} (h : i < Q.length) : nt Q i = Q[i] := by
  unfold nt
  rw [List.getElem?_eq_getElem h]; rfl
theorem nt_in {Q : List Nat} {i : Nat} (h : i < Q.length) : nt Q i ∈ Q := by
  rw [nt_get h]; exact List.getElem_mem h
theorem nt_at {D : List Nat} {i : Nat} (h : i < D.length) : (cE natV D)[i]? = some (.ext (natV (nt D i))) := by
  rw [cE_at natV h, nt_get h]
theorem nt_last (A : List Nat) (x : Nat) : nt (A ++ [x]) A.length = x := by
  unfold nt; rw [List.getElem?_append_right (Nat.le_refl _)]; simp
theorem ahead_nt {c : Nat → Nat → Int} (h : CmpO c) {A B : List Nat} (hA : A.Pairwise (ltS c)) (hB : B.Pairwise (ltS c)) (he : 0 < A.length → 0 < B.length → ltS c (nt A (A.length - 1)) (nt B 0)) : ahead c A B := ahead_ends h hA hB fun A' x y B' ha hb => by
  subst ha hb
  have h1 := he (by simp) (by simp)
  rw [show (A' ++ [x]).length - 1 = A'.length by simp, nt_last] at h1
  exact h1
section
variable {M : Mem} {K : AV → Hp → Mem → Prop} (ul : Value) {c : Nat → Nat → Int}
def so_maSt (M : Mem) (ul : Value) (N : Nat) (D : List Nat) (a i j : Nat) : St := { env := [(10, .ext (.int .i64 (i : Int))), (11, .ext (.int .i64 (j : Int))), (4, .fn 53 [.own 101 0]), (1, .ext (.int .i64 (a : Int))), (0, .slo 113 0 N 1)], hp := [(113, 3, cE natV (D)), (101, 23, [.ext ul])], M := M, kb := 200, fx := [113, 101] }
def so_mbSt (M : Mem) (ul : Value) (N : Nat) (D : List Nat) (i k : Nat) : St := { env := [(13, .ext (.int .i64 (k : Int))), (10, .ext (.int .i64 (i : Int))), (0, .slo 113 0 N 1)], hp := [(113, 3, cE natV (D)), (101, 23, [.ext ul])], M := M, kb := 200, fx := [113, 101] }
theorem mrgA_ok (ho : CmpO c) (NN : Nat) (hc : CmpK M ul c NN) (A X Y B D : List Nat) (a m b N : Nat) (hD : D = A ++ X ++ Y ++ B) (ha : a = A.length) (hm : m = A.length + X.length) (hb : b = A.length + X.length + Y.length) (hX : X.length = 1) (hY : 0 < Y.length) (hx : X.Pairwise (ltS c)) (hy : Y.Pairwise (ltS c)) (hxy : ∀ x ∈ X, ∀ y ∈ Y, x < y) (hNN : ∀ x ∈ X ++ Y, x < NN) (hN : D.length = N) (hN2 : N < 1000000)
    (hK : ∀ Z M', Mem.le M M' → Z.Perm (X ++ Y) → Z.Pairwise (ltS c) → K (.ext (.tuple #[])) [(113, 3, cE natV (A ++ Z ++ B)), (101, 23, [.ext ul])] M') :
    CallS Try.prog 61 [.slo 113 0 N 1, .ext (.int .i64 (a : Int)), .ext (.int .i64 (m : Int)), .ext (.int .i64 (b : Int)), .fn 53 [.own 101 0]] [(113, 3, cE natV (D)), (101, 23, [.ext ul])] M [] K := by
  refine inlS (cs := []) Try.mixed Try.func61 rfl (by kernel_rfl) 200 rfl rfl ?_
  simp only [Try.f61]
  have hL := congrArg List.length hD
  simp only [List.length_append] at hL
  have w1 : IntKind.i64.wrap ((m : Int) - (a : Int)) = 1 := by rw [wrap_id (by omega) (by omega)]; omega
  (replace hb0 := true_and True); refine Go1.mk ?_; repeat' ((first | (with_reducible refine Go1.go ?_) | ((with_reducible first | refine brv_mk ?_ ?_ | refine gsplitD ?_ ?_ | refine gsplitG ?_ ?_) <;> intro h <;> (try simp only [Bool.not_eq_true', Bool.not_eq_false'] at h) <;> replace hb0 := h) | (refine And.intro ?_ ?_; (try simp only [sxO] at *); omega) | fail) <;> (try simp (maxSteps := 1000000) only [hb0, w1, natV, cE_ment, cE_kill, cE_len, hasK_nil, Nat.mul_one, List.length_set, ↓hold_pre, awayP, runOps, regK, step1, newK, genR, appR, obl, buildR, Value.cells, closeK, keepH, outV, retK, ret1, retC, RetV, Option.getD, runD, stepD, afterK, undef, simprocAttr, sxB, ↓sxD, sxE, sxTab]))
  refine ⟨fun d z => ∃ M' i j, d = j - i ∧ Mem.le M M' ∧ m ≤ i ∧ i ≤ j ∧ j ≤ b ∧ (i = m ∨ c (nt D (i - 1)) (nt D a) < 0) ∧ (j = b ∨ ¬ c (nt D j) (nt D a) < 0) ∧ z = so_maSt M' ul N D a i j,
    ⟨b - m, so_maSt M ul N D a m b, le_sub ⟨rfl, rfl, rfl, rfl, rfl, trivial⟩ ⟨by first | rfl | simp [lkH], by first | rfl | simp [lkH], trivial⟩ rfl rfl rfl (by simp [keepLt, so_maSt, lkH]), ⟨M, m, b, rfl, Mem.le.refl _, Nat.le_refl _, by omega, Nat.le_refl _, .inl rfl, .inl rfl, rfl⟩⟩, ?_⟩
  clear w1
  have hx0 : nt D a = nt X 0 := nt_mid A X (Y ++ B) (by rw [hD]; simp) (by omega) (by omega)
  have hX0 : X = [nt X 0] := by
    rcases X with _ | ⟨x, _ | ⟨y, X⟩⟩
    · simp at hX
    · rfl
    · simp at hX
  rintro d z ⟨M1, i, j, rfl, hM1, hmi, hij, hjb, hI, hJ, rfl⟩
  by_cases hlt : i < j
  · have d1 : decide ((i : Int) < (j : Int)) = true := by rw [decide_eq_true_eq]; omega
    have w2 : IntKind.i64.wrap ((i : Int) + (j : Int)) = ((i + j : Nat) : Int) := by rw [wrap_id (by omega) (by omega)]; omega
    have w3 : IntKind.u64.wrap ((i + j : Nat) : Int) = ((i + j : Nat) : Int) := wrap64_id (by omega)
    have w4 := sh_one (i + j)
    have h1 := Nat.div_add_mod (i + j) 2
    have h2 := Nat.mod_lt (i + j) (show 0 < 2 by decide)
    obtain ⟨h, hh⟩ : ∃ h, h = (i + j) / 2 := ⟨_, rfl⟩
    rw [← hh] at w4 h1
    have w5 : IntKind.i64.wrap (h : Int) = (h : Int) := wrap_id (by omega) (by omega)
    have w6 : IntKind.u64.wrap (h : Int) = (h : Int) := wrap64_id (by omega)
    have w7 : IntKind.i64.wrap ((h : Int) + 1) = ((h + 1 : Nat) : Int) := succ_i (by omega)
    have j1 : (0 : Int) ≤ (h : Int) := by omega
    have j2 : (h : Int) < (N : Int) := by omega
    have j3 : (0 : Int) ≤ (a : Int) := by omega
    have j4 : (a : Int) < (N : Int) := by omega
    have n1 := nt_at (D := D) (i := h) (by omega)
    have n2 := nt_at (D := D) (i := a) (by omega)
    have hyh : nt D h = nt Y (h - m) := nt_mid (A ++ X) Y B hD (by omega) (by rw [List.length_append]; omega)
    have b1 : nt D h < NN := hNN _ (by rw [hyh]; exact List.mem_append_right _ (nt_in (by omega)))
    have b2 : nt D a < NN := hNN _ (by rw [hx0]; exact List.mem_append_left _ (nt_in (by omega)))
    (replace hb0 := true_and True); refine Go1.mk ?_; repeat' ((first | (with_reducible refine Go1.go ?_) | ((with_reducible first | refine brv_mk ?_ ?_ | refine gsplitD ?_ ?_ | refine gsplitG ?_ ?_) <;> intro h <;> (try simp only [Bool.not_eq_true', Bool.not_eq_false'] at h) <;> replace hb0 := h) | ((with_reducible refine isCall0 (f := 53) ?_); refine callA0 ?_) | ((with_reducible refine isCallS (f := 53) ?_); refine (hc (nt D h) (nt D a) _ _ b1 b2 hM1 (fun M2 m2 => Stop.mk ?_))) | ((with_reducible refine isDraw [some 40, some 41, some 42, some 43, some 44, some 45, some 46, some 47, some 48, some 49, some 50] (by decide) ?_); refine draw_rule [(0, []), (1, []), (2, []), (3, []), (4, []), (5, [4]), (6, [4]), (7, [4]), (8, [4]), (9, []), (10, [])] [[], [], [], [1, 2], [1, 2, 3], [], [], [5, 6], [5, 6, 7], [0, 1, 2, 3, 4, 5, 6, 7, 8], [0, 1, 2, 3, 4, 5, 6, 7, 8, 9]] [40, 41, 42, 43, 44, 45, 46, 47, 48] [] (by kernel_rfl) (by kernel_rfl) (by kernel_rfl) (by kernel_rfl) (by exact trivial) ?_) | ((with_reducible refine isDraw [some 61, some 62, some 63, some 64, some 65, some 66, some 67, some 68, some 69, some 70, some 71, some 72, some 73, some 74, some 75, none, some 76, none] (by decide) ?_); refine draw_rule [(0, []), (1, []), (2, []), (3, []), (4, []), (5, []), (6, []), (7, []), (8, []), (9, []), (10, [9]), (11, [9]), (12, [9]), (13, [9]), (14, []), (15, []), (16, []), (17, [])] [[], [], [], [], [3], [], [], [6], [5, 6, 7], [5, 6, 7, 8], [], [], [10, 11], [10, 11, 12], [0, 1, 5, 6, 7, 8, 9, 10, 11, 12, 13], [0, 1, 5, 6, 7, 8, 9, 10, 11, 12, 13, 14], [0, 1, 2, 3, 4, 5, 6, 7, 8, 9, 10, 11, 12, 13, 14, 15], [0, 1, 2, 3, 4, 5, 6, 7, 8, 9, 10, 11, 12, 13, 14, 15, 16]] [61, 62, 63, 64, 65, 66, 67, 68, 69, 70, 71, 72, 73, 74, 75] [] (by kernel_rfl) (by kernel_rfl) (by kernel_rfl) (by kernel_rfl) (by exact trivial) ?_) | ((with_reducible refine isDraw [some 92, some 93, some 94, some 95, some 96, some 97, some 98, some 99, some 100, some 101, some 102, some 103] (by decide) ?_); refine draw_rule [(0, []), (1, []), (2, []), (3, []), (4, []), (5, [4]), (6, [4]), (7, [4]), (8, [4]), (9, []), (10, []), (11, [])] [[], [], [], [1, 2], [1, 2, 3], [], [], [5, 6], [5, 6, 7], [0, 1, 2, 3, 4, 5, 6, 7, 8], [0, 1, 2, 3, 4, 5, 6, 7, 8, 9], [0, 1, 2, 3, 4, 5, 6, 7, 8, 9, 10]] [92, 93, 94, 95, 96, 97, 98, 99, 100] [] (by kernel_rfl) (by kernel_rfl) (by kernel_rfl) (by kernel_rfl) (by exact trivial) ?_) | ((with_reducible refine isDraw [some 113, some 114, some 115, some 116, some 117, some 118, some 119, some 120, some 121, some 122, some 123, some 124, some 125, some 126, some 127, none, some 128, none] (by decide) ?_); refine draw_rule [(0, []), (1, []), (2, []), (3, []), (4, []), (5, []), (6, []), (7, []), (8, []), (9, []), (10, [9]), (11, [9]), (12, [9]), (13, [9]), (14, []), (15, []), (16, []), (17, [])] [[], [], [], [], [3], [], [], [6], [5, 6, 7], [5, 6, 7, 8], [], [], [10, 11], [10, 11, 12], [0, 1, 5, 6, 7, 8, 9, 10, 11, 12, 13], [0, 1, 5, 6, 7, 8, 9, 10, 11, 12, 13, 14], [0, 1, 2, 3, 4, 5, 6, 7, 8, 9, 10, 11, 12, 13, 14, 15], [0, 1, 2, 3, 4, 5, 6, 7, 8, 9, 10, 11, 12, 13, 14, 15, 16]] [113, 114, 115, 116, 117, 118, 119, 120, 121, 122, 123, 124, 125, 126, 127] [] (by kernel_rfl) (by kernel_rfl) (by kernel_rfl) (by kernel_rfl) (by exact trivial) ?_) | ((with_reducible refine isDraw [some 158, some 159, some 160, some 161, some 162, some 163, some 164, some 165, some 166, some 167, some 168, some 169, some 170, some 171] (by decide) ?_); refine draw_rule [(0, []), (1, []), (2, []), (3, []), (4, []), (5, []), (6, []), (7, [6]), (8, [6]), (9, [6]), (10, [6]), (11, []), (12, []), (13, [])] [[], [], [], [], [2, 3], [1, 2, 3, 4], [1, 2, 3, 4, 5], [], [], [7, 8], [7, 8, 9], [0, 1, 2, 3, 4, 5, 6, 7, 8, 9, 10], [0, 1, 2, 3, 4, 5, 6, 7, 8, 9, 10, 11], [0, 1, 2, 3, 4, 5, 6, 7, 8, 9, 10, 11, 12]] [158, 159, 160, 161, 162, 163, 164, 165, 166, 167, 168] [] (by kernel_rfl) (by kernel_rfl) (by kernel_rfl) (by kernel_rfl) (by exact trivial) ?_) | (refine And.intro ?_ ?_; (try simp only [sxO] at *); omega) | fail) <;> (try simp (maxSteps := 1000000) only [hb0, so_maSt, d1, w2, w3, w4, w5, w6, w7, n1, n2, j1, j2, j3, j4, natV, cE_ment, cE_kill, cE_len, hasK_nil, Nat.mul_one, List.length_set, ↓hold_pre, awayP, runOps, regK, step1, newK, genR, appR, obl, buildR, Value.cells, closeK, keepH, outV, retK, ret1, retC, RetV, Option.getD, runD, stepD, afterK, undef, simprocAttr, sxB, ↓sxD, sxE, sxTab]))
    have m2 : Mem.le M1 M2 := m2
    have hM2 := hM1.trans m2
    by_cases hcc : c (nt D h) (nt D a) < 0
    · have d3 : decide (c (nt D h) (nt D a) < 0) = true := decide_eq_true hcc
      refine Stop.go ?_
      (replace hb0 := true_and True); refine Go1.mk ?_; repeat' ((first | (with_reducible refine Go1.go ?_) | ((with_reducible first | refine brv_mk ?_ ?_ | refine gsplitD ?_ ?_ | refine gsplitG ?_ ?_) <;> intro h <;> (try simp only [Bool.not_eq_true', Bool.not_eq_false'] at h) <;> replace hb0 := h) | ((with_reducible refine isDraw [some 40, some 41, some 42, some 43, some 44, some 45, some 46, some 47, some 48, some 49, some 50] (by decide) ?_); refine draw_rule [(0, []), (1, []), (2, []), (3, []), (4, []), (5, [4]), (6, [4]), (7, [4]), (8, [4]), (9, []), (10, [])] [[], [], [], [1, 2], [1, 2, 3], [], [], [5, 6], [5, 6, 7], [0, 1, 2, 3, 4, 5, 6, 7, 8], [0, 1, 2, 3, 4, 5, 6, 7, 8, 9]] [40, 41, 42, 43, 44, 45, 46, 47, 48] [] (by kernel_rfl) (by kernel_rfl) (by kernel_rfl) (by kernel_rfl) (by exact trivial) ?_) | ((with_reducible refine isDraw [some 61, some 62, some 63, some 64, some 65, some 66, some 67, some 68, some 69, some 70, some 71, some 72, some 73, some 74, some 75, none, some 76, none] (by decide) ?_); refine draw_rule [(0, []), (1, []), (2, []), (3, []), (4, []), (5, []), (6, []), (7, []), (8, []), (9, []), (10, [9]), (11, [9]), (12, [9]), (13, [9]), (14, []), (15, []), (16, []), (17, [])] [[], [], [], [], [3], [], [], [6], [5, 6, 7], [5, 6, 7, 8], [], [], [10, 11], [10, 11, 12], [0, 1, 5, 6, 7, 8, 9, 10, 11, 12, 13], [0, 1, 5, 6, 7, 8, 9, 10, 11, 12, 13, 14], [0, 1, 2, 3, 4, 5, 6, 7, 8, 9, 10, 11, 12, 13, 14, 15], [0, 1, 2, 3, 4, 5, 6, 7, 8, 9, 10, 11, 12, 13, 14, 15, 16]] [61, 62, 63, 64, 65, 66, 67, 68, 69, 70, 71, 72, 73, 74, 75] [] (by kernel_rfl) (by kernel_rfl) (by kernel_rfl) (by kernel_rfl) (by exact trivial) ?_) | ((with_reducible refine isDraw [some 92, some 93, some 94, some 95, some 96, some 97, some 98, some 99, some 100, some 101, some 102, some 103] (by decide) ?_); refine draw_rule [(0, []), (1, []), (2, []), (3, []), (4, []), (5, [4]), (6, [4]), (7, [4]), (8, [4]), (9, []), (10, []), (11, [])] [[], [], [], [1, 2], [1, 2, 3], [], [], [5, 6], [5, 6, 7], [0, 1, 2, 3, 4, 5, 6, 7, 8], [0, 1, 2, 3, 4, 5, 6, 7, 8, 9], [0, 1, 2, 3, 4, 5, 6, 7, 8, 9, 10]] [92, 93, 94, 95, 96, 97, 98, 99, 100] [] (by kernel_rfl) (by kernel_rfl) (by kernel_rfl) (by kernel_rfl) (by exact trivial) ?_) | ((with_reducible refine isDraw [some 113, some 114, some 115, some 116, some 117, some 118, some 119, some 120, some 121, some 122, some 123, some 124, some 125, some 126, some 127, none, some 128, none] (by decide) ?_); refine draw_rule [(0, []), (1, []), (2, []), (3, []), (4, []), (5, []), (6, []), (7, []), (8, []), (9, []), (10, [9]), (11, [9]), (12, [9]), (13, [9]), (14, []), (15, []), (16, []), (17, [])] [[], [], [], [], [3], [], [], [6], [5, 6, 7], [5, 6, 7, 8], [], [], [10, 11], [10, 11, 12], [0, 1, 5, 6, 7, 8, 9, 10, 11, 12, 13], [0, 1, 5, 6, 7, 8, 9, 10, 11, 12, 13, 14], [0, 1, 2, 3, 4, 5, 6, 7, 8, 9, 10, 11, 12, 13, 14, 15], [0, 1, 2, 3, 4, 5, 6, 7, 8, 9, 10, 11, 12, 13, 14, 15, 16]] [113, 114, 115, 116, 117, 118, 119, 120, 121, 122, 123, 124, 125, 126, 127] [] (by kernel_rfl) (by kernel_rfl) (by kernel_rfl) (by kernel_rfl) (by exact trivial) ?_) | ((with_reducible refine isDraw [some 158, some 159, some 160, some 161, some 162, some 163, some 164, some 165, some 166, some 167, some 168, some 169, some 170, some 171] (by decide) ?_); refine draw_rule [(0, []), (1, []), (2, []), (3, []), (4, []), (5, []), (6, []), (7, [6]), (8, [6]), (9, [6]), (10, [6]), (11, []), (12, []), (13, [])] [[], [], [], [], [2, 3], [1, 2, 3, 4], [1, 2, 3, 4, 5], [], [], [7, 8], [7, 8, 9], [0, 1, 2, 3, 4, 5, 6, 7, 8, 9, 10], [0, 1, 2, 3, 4, 5, 6, 7, 8, 9, 10, 11], [0, 1, 2, 3, 4, 5, 6, 7, 8, 9, 10, 11, 12]] [158, 159, 160, 161, 162, 163, 164, 165, 166, 167, 168] [] (by kernel_rfl) (by kernel_rfl) (by kernel_rfl) (by kernel_rfl) (by exact trivial) ?_) | (refine And.intro ?_ ?_; (try simp only [sxO] at *); omega) | fail) <;> (try simp (maxSteps := 1000000) only [hb0, d3, w7, natV, cE_ment, cE_kill, cE_len, hasK_nil, Nat.mul_one, List.length_set, ↓hold_pre, awayP, runOps, regK, step1, newK, genR, appR, obl, buildR, Value.cells, closeK, keepH, outV, retK, ret1, retC, RetV, Option.getD, runD, stepD, afterK, undef, simprocAttr, sxB, ↓sxD, sxE, sxTab]))
      exact ⟨j - (h + 1), so_maSt M2 ul N D a (h + 1) j, by omega, le_sub ⟨rfl, rfl, rfl, rfl, rfl, trivial⟩ ⟨by first | rfl | simp [lkH], by first | rfl | simp [lkH], trivial⟩ rfl rfl rfl (by simp [keepLt, so_maSt, lkH]), M2, h + 1, j, rfl, hM2, by omega, by omega, hjb, .inr hcc, hJ, rfl⟩
    · have d3 : decide (c (nt D h) (nt D a) < 0) = false := decide_eq_false hcc
      refine Stop.go ?_
      (replace hb0 := true_and True); refine Go1.mk ?_; repeat' ((first | (with_reducible refine Go1.go ?_) | ((with_reducible first | refine brv_mk ?_ ?_ | refine gsplitD ?_ ?_ | refine gsplitG ?_ ?_) <;> intro h <;> (try simp only [Bool.not_eq_true', Bool.not_eq_false'] at h) <;> replace hb0 := h) | ((with_reducible refine isDraw [some 40, some 41, some 42, some 43, some 44, some 45, some 46, some 47, some 48, some 49, some 50] (by decide) ?_); refine draw_rule [(0, []), (1, []), (2, []), (3, []), (4, []), (5, [4]), (6, [4]), (7, [4]), (8, [4]), (9, []), (10, [])] [[], [], [], [1, 2], [1, 2, 3], [], [], [5, 6], [5, 6, 7], [0, 1, 2, 3, 4, 5, 6, 7, 8], [0, 1, 2, 3, 4, 5, 6, 7, 8, 9]] [40, 41, 42, 43, 44, 45, 46, 47, 48] [] (by kernel_rfl) (by kernel_rfl) (by kernel_rfl) (by kernel_rfl) (by exact trivial) ?_) | ((with_reducible refine isDraw [some 61, some 62, some 63, some 64, some 65, some 66, some 67, some 68, some 69, some 70, some 71, some 72, some 73, some 74, some 75, none, some 76, none] (by decide) ?_); refine draw_rule [(0, []), (1, []), (2, []), (3, []), (4, []), (5, []), (6, []), (7, []), (8, []), (9, []), (10, [9]), (11, [9]), (12, [9]), (13, [9]), (14, []), (15, []), (16, []), (17, [])] [[], [], [], [], [3], [], [], [6], [5, 6, 7], [5, 6, 7, 8], [], [], [10, 11], [10, 11, 12], [0, 1, 5, 6, 7, 8, 9, 10, 11, 12, 13], [0, 1, 5, 6, 7, 8, 9, 10, 11, 12, 13, 14], [0, 1, 2, 3, 4, 5, 6, 7, 8, 9, 10, 11, 12, 13, 14, 15], [0, 1, 2, 3, 4, 5, 6, 7, 8, 9, 10, 11, 12, 13, 14, 15, 16]] [61, 62, 63, 64, 65, 66, 67, 68, 69, 70, 71, 72, 73, 74, 75] [] (by kernel_rfl) (by kernel_rfl) (by kernel_rfl) (by kernel_rfl) (by exact trivial) ?_) | ((with_reducible refine isDraw [some 92, some 93, some 94, some 95, some 96, some 97, some 98, some 99, some 100, some 101, some 102, some 103] (by decide) ?_); refine draw_rule [(0, []), (1, []), (2, []), (3, []), (4, []), (5, [4]), (6, [4]), (7, [4]), (8, [4]), (9, []), (10, []), (11, [])] [[], [], [], [1, 2], [1, 2, 3], [], [], [5, 6], [5, 6, 7], [0, 1, 2, 3, 4, 5, 6, 7, 8], [0, 1, 2, 3, 4, 5, 6, 7, 8, 9], [0, 1, 2, 3, 4, 5, 6, 7, 8, 9, 10]] [92, 93, 94, 95, 96, 97, 98, 99, 100] [] (by kernel_rfl) (by kernel_rfl) (by kernel_rfl) (by kernel_rfl) (by exact trivial) ?_) | ((with_reducible refine isDraw [some 113, some 114, some 115, some 116, some 117, some 118, some 119, some 120, some 121, some 122, some 123, some 124, some 125, some 126, some 127, none, some 128, none] (by decide) ?_); refine draw_rule [(0, []), (1, []), (2, []), (3, []), (4, []), (5, []), (6, []), (7, []), (8, []), (9, []), (10, [9]), (11, [9]), (12, [9]), (13, [9]), (14, []), (15, []), (16, []), (17, [])] [[], [], [], [], [3], [], [], [6], [5, 6, 7], [5, 6, 7, 8], [], [], [10, 11], [10, 11, 12], [0, 1, 5, 6, 7, 8, 9, 10, 11, 12, 13], [0, 1, 5, 6, 7, 8, 9, 10, 11, 12, 13, 14], [0, 1, 2, 3, 4, 5, 6, 7, 8, 9, 10, 11, 12, 13, 14, 15], [0, 1, 2, 3, 4, 5, 6, 7, 8, 9, 10, 11, 12, 13, 14, 15, 16]] [113, 114, 115, 116, 117, 118, 119, 120, 121, 122, 123, 124, 125, 126, 127] [] (by kernel_rfl) (by kernel_rfl) (by kernel_rfl) (by kernel_rfl) (by exact trivial) ?_) | ((with_reducible refine isDraw [some 158, some 159, some 160, some 161, some 162, some 163, some 164, some 165, some 166, some 167, some 168, some 169, some 170, some 171] (by decide) ?_); refine draw_rule [(0, []), (1, []), (2, []), (3, []), (4, []), (5, []), (6, []), (7, [6]), (8, [6]), (9, [6]), (10, [6]), (11, []), (12, []), (13, [])] [[], [], [], [], [2, 3], [1, 2, 3, 4], [1, 2, 3, 4, 5], [], [], [7, 8], [7, 8, 9], [0, 1, 2, 3, 4, 5, 6, 7, 8, 9, 10], [0, 1, 2, 3, 4, 5, 6, 7, 8, 9, 10, 11], [0, 1, 2, 3, 4, 5, 6, 7, 8, 9, 10, 11, 12]] [158, 159, 160, 161, 162, 163, 164, 165, 166, 167, 168] [] (by kernel_rfl) (by kernel_rfl) (by kernel_rfl) (by kernel_rfl) (by exact trivial) ?_) | (refine And.intro ?_ ?_; (try simp only [sxO] at *); omega) | fail) <;> (try simp (maxSteps := 1000000) only [hb0, d3, w7, natV, cE_ment, cE_kill, cE_len, hasK_nil, Nat.mul_one, List.length_set, ↓hold_pre, awayP, runOps, regK, step1, newK, genR, appR, obl, buildR, Value.cells, closeK, keepH, outV, retK, ret1, retC, RetV, Option.getD, runD, stepD, afterK, undef, simprocAttr, sxB, ↓sxD, sxE, sxTab]))
      exact ⟨h - i, so_maSt M2 ul N D a i h, by omega, le_sub ⟨rfl, rfl, rfl, rfl, rfl, trivial⟩ ⟨by first | rfl | simp [lkH], by first | rfl | simp [lkH], trivial⟩ rfl rfl rfl (by simp [keepLt, so_maSt, lkH]), M2, i, h, rfl, hM2, hmi, by omega, by omega, hI, .inr hcc, rfl⟩
  obtain rfl : i = j := by omega
  have d1 : decide ((i : Int) < (i : Int)) = false := by simp
  obtain ⟨Y1, Y2, hYY, hY1⟩ : ∃ Y1 Y2, Y = Y1 ++ Y2 ∧ Y1.length = i - m := ⟨Y.take (i - m), Y.drop (i - m), (List.take_append_drop _ _).symm, by rw [List.length_take]; omega⟩
  have hYl : Y.length = Y1.length + Y2.length := by rw [hYY, List.length_append]
  have hyy := hy
  rw [hYY] at hyy
  obtain ⟨y1, y2, y3⟩ := pw_app.1 hyy
  have g1 : ahead c Y1 X := ahead_nt ho y1 hx fun p1 _ => by
    rcases hI with hI | hI
    · omega
    rw [nt_mid (A ++ X) Y1 (Y2 ++ B) (i := Y1.length - 1) (j := i - 1) (by rw [hD, hYY]; simp) (by omega) (by rw [List.length_append]; omega), hx0] at hI
    exact .inl hI
  have g2 : ahead c X Y2 := ahead_nt ho hx y2 fun _ p2 => by
    rcases hJ with hJ | hJ
    · omega
    have e1 := nt_mid (D := D) (A ++ X ++ Y1) Y2 B (i := 0) (j := i) (by rw [hD, hYY]; simp) p2 (by simp only [List.length_append]; omega)
    rw [hx0, e1] at hJ
    rw [hX]
    exact ltS_not ho (hxy _ (nt_in (by omega)) _ (by rw [hYY]; exact List.mem_append_right _ (nt_in p2))) hJ
  have hKz := hK (Y1 ++ X ++ Y2) M1 hM1 (by rw [hYY, ← List.append_assoc]; exact List.Perm.append_right _ List.perm_append_comm) (pw_app.2 ⟨pw_app.2 ⟨y1, hx, g1⟩, y2, fun u hu v hv => by
    rcases List.mem_append.1 hu with hu | hu
    · exact y3 u hu v hv
    · exact g2 u hu v hv⟩)
  clear hK
  (replace hb0 := true_and True); refine Go1.mk ?_; repeat' ((first | (with_reducible refine Go1.go ?_) | ((with_reducible first | refine brv_mk ?_ ?_ | refine gsplitD ?_ ?_ | refine gsplitG ?_ ?_) <;> intro h <;> (try simp only [Bool.not_eq_true', Bool.not_eq_false'] at h) <;> replace hb0 := h) | (refine And.intro ?_ ?_; (try simp only [sxO] at *); omega) | fail) <;> (try simp (maxSteps := 1000000) only [hb0, so_maSt, d1, natV, cE_ment, cE_kill, cE_len, hasK_nil, Nat.mul_one, List.length_set, ↓hold_pre, awayP, runOps, regK, step1, newK, genR, appR, obl, buildR, Value.cells, closeK, keepH, outV, retK, ret1, retC, RetV, Option.getD, runD, stepD, afterK, undef, simprocAttr, sxB, ↓sxD, sxE, sxTab]))
  refine ⟨fun d z => ∃ P Q E, d = Q.length ∧ Y1 = P ++ Q ∧ E = A ++ P ++ X ++ Q ++ Y2 ++ B ∧ z = so_mbSt M1 ul N E i (a + P.length),
    ⟨Y1.length, so_mbSt M1 ul N D i a, le_sub ⟨rfl, rfl, rfl, trivial⟩ ⟨by first | rfl | simp [lkH], by first | rfl | simp [lkH], trivial⟩ rfl rfl rfl (by simp [keepLt, so_mbSt, lkH]), ⟨[], Y1, D, rfl, rfl, by rw [hD, hYY]; simp, rfl⟩⟩, ?_⟩
  rintro d z ⟨P, Q, E, rfl, hPQ, hE, rfl⟩
  have hPl := congrArg List.length hPQ
  rw [List.length_append] at hPl
  have hEl : E.length = N := by rw [hE]; simp only [List.length_append]; omega
  have w1 : IntKind.i64.wrap ((i : Int) - 1) = ((a + Y1.length : Nat) : Int) := by rw [wrap_id (by omega) (by omega)]; omega
  rcases Q with _ | ⟨q, Q⟩
  · have d2 : decide (((a + P.length : Nat) : Int) < ((a + Y1.length : Nat) : Int)) = false := by rw [decide_eq_false_iff_not]; simp only [List.length_nil] at hPl; omega
    (replace hb0 := true_and True); refine Go1.mk ?_; repeat' ((first | (with_reducible refine Go1.go ?_) | ((with_reducible first | refine brv_mk ?_ ?_ | refine gsplitD ?_ ?_ | refine gsplitG ?_ ?_) <;> intro h <;> (try simp only [Bool.not_eq_true', Bool.not_eq_false'] at h) <;> replace hb0 := h) | (refine And.intro ?_ ?_; (try simp only [sxO] at *); omega) | fail) <;> (try simp (maxSteps := 1000000) only [hb0, so_mbSt, d2, w1, natV, cE_ment, cE_kill, cE_len, hasK_nil, Nat.mul_one, List.length_set, ↓hold_pre, awayP, runOps, regK, step1, newK, genR, appR, obl, buildR, Value.cells, closeK, keepH, outV, retK, ret1, retC, RetV, Option.getD, runD, stepD, afterK, undef, simprocAttr, sxB, ↓sxD, sxE, sxTab]))
    rw [List.append_nil] at hPQ hE
    rw [hE, ← hPQ]
    rw [show A ++ (Y1 ++ X ++ Y2) ++ B = A ++ Y1 ++ X ++ Y2 ++ B by simp] at hKz
    exact hKz
  simp only [List.length_cons] at hPl
  have d2 : decide (((a + P.length : Nat) : Int) < ((a + Y1.length : Nat) : Int)) = true := by rw [decide_eq_true_eq]; omega
  obtain ⟨x, hXx⟩ : ∃ x, X = [x] := ⟨_, hX0⟩
  have e1 : E = (A ++ P) ++ x :: ([] ++ q :: (Q ++ Y2 ++ B)) := by rw [hE, hXx]; simp
  have e2 : E = (A ++ P ++ [x]) ++ q :: (Q ++ Y2 ++ B) := by rw [e1]; simp
  have ai : a + P.length = (A ++ P).length := by rw [List.length_append]; omega
  have h1 := at_mid (A ++ P) x ([] ++ q :: (Q ++ Y2 ++ B)) ai
  rw [← e1] at h1
  have h2 := at_mid (A ++ P ++ [x]) q (Q ++ Y2 ++ B) (i := a + P.length + 1) (by simp only [List.length_append, List.length_cons, List.length_nil]; omega)
  rw [← e2] at h2
  have h3 := set_two (A ++ P) [] (Q ++ Y2 ++ B) x q (i := a + P.length) (j := a + P.length + 1) ai (by rw [← ai]; simp)
  rw [← e1] at h3
  have w2 : IntKind.i64.wrap (((a + P.length : Nat) : Int) + 1) = ((a + P.length + 1 : Nat) : Int) := succ_i (by omega)
  have j1 : (0 : Int) ≤ ((a + P.length : Nat) : Int) := by omega
  have j2 : ((a + P.length : Nat) : Int) < (N : Int) := by omega
  have j3 : (0 : Int) ≤ ((a + P.length + 1 : Nat) : Int) := by omega
  have j4 : ((a + P.length + 1 : Nat) : Int) < (N : Int) := by omega
  have k1 := nat_set E (a + P.length) q
  have k2 := nat_set (E.set (a + P.length) q) (a + P.length + 1) x
  (replace hb0 := true_and True); refine Go1.mk ?_; repeat' ((first | (with_reducible refine Go1.go ?_) | ((with_reducible first | refine brv_mk ?_ ?_ | refine gsplitD ?_ ?_ | refine gsplitG ?_ ?_) <;> intro h <;> (try simp only [Bool.not_eq_true', Bool.not_eq_false'] at h) <;> replace hb0 := h) | ((with_reducible refine isDraw [some 40, some 41, some 42, some 43, some 44, some 45, some 46, some 47, some 48, some 49, some 50] (by decide) ?_); refine draw_rule [(0, []), (1, []), (2, []), (3, []), (4, []), (5, [4]), (6, [4]), (7, [4]), (8, [4]), (9, []), (10, [])] [[], [], [], [1, 2], [1, 2, 3], [], [], [5, 6], [5, 6, 7], [0, 1, 2, 3, 4, 5, 6, 7, 8], [0, 1, 2, 3, 4, 5, 6, 7, 8, 9]] [40, 41, 42, 43, 44, 45, 46, 47, 48] [] (by kernel_rfl) (by kernel_rfl) (by kernel_rfl) (by kernel_rfl) (by exact trivial) ?_) | ((with_reducible refine isDraw [some 61, some 62, some 63, some 64, some 65, some 66, some 67, some 68, some 69, some 70, some 71, some 72, some 73, some 74, some 75, none, some 76, none] (by decide) ?_); refine draw_rule [(0, []), (1, []), (2, []), (3, []), (4, []), (5, []), (6, []), (7, []), (8, []), (9, []), (10, [9]), (11, [9]), (12, [9]), (13, [9]), (14, []), (15, []), (16, []), (17, [])] [[], [], [], [], [3], [], [], [6], [5, 6, 7], [5, 6, 7, 8], [], [], [10, 11], [10, 11, 12], [0, 1, 5, 6, 7, 8, 9, 10, 11, 12, 13], [0, 1, 5, 6, 7, 8, 9, 10, 11, 12, 13, 14], [0, 1, 2, 3, 4, 5, 6, 7, 8, 9, 10, 11, 12, 13, 14, 15], [0, 1, 2, 3, 4, 5, 6, 7, 8, 9, 10, 11, 12, 13, 14, 15, 16]] [61, 62, 63, 64, 65, 66, 67, 68, 69, 70, 71, 72, 73, 74, 75] [] (by kernel_rfl) (by kernel_rfl) (by kernel_rfl) (by kernel_rfl) (by exact trivial) ?_) | ((with_reducible refine isDraw [some 92, some 93, some 94, some 95, some 96, some 97, some 98, some 99, some 100, some 101, some 102, some 103] (by decide) ?_); refine draw_rule [(0, []), (1, []), (2, []), (3, []), (4, []), (5, [4]), (6, [4]), (7, [4]), (8, [4]), (9, []), (10, []), (11, [])] [[], [], [], [1, 2], [1, 2, 3], [], [], [5, 6], [5, 6, 7], [0, 1, 2, 3, 4, 5, 6, 7, 8], [0, 1, 2, 3, 4, 5, 6, 7, 8, 9], [0, 1, 2, 3, 4, 5, 6, 7, 8, 9, 10]] [92, 93, 94, 95, 96, 97, 98, 99, 100] [] (by kernel_rfl) (by kernel_rfl) (by kernel_rfl) (by kernel_rfl) (by exact trivial) ?_) | ((with_reducible refine isDraw [some 113, some 114, some 115, some 116, some 117, some 118, some 119, some 120, some 121, some 122, some 123, some 124, some 125, some 126, some 127, none, some 128, none] (by decide) ?_); refine draw_rule [(0, []), (1, []), (2, []), (3, []), (4, []), (5, []), (6, []), (7, []), (8, []), (9, []), (10, [9]), (11, [9]), (12, [9]), (13, [9]), (14, []), (15, []), (16, []), (17, [])] [[], [], [], [], [3], [], [], [6], [5, 6, 7], [5, 6, 7, 8], [], [], [10, 11], [10, 11, 12], [0, 1, 5, 6, 7, 8, 9, 10, 11, 12, 13], [0, 1, 5, 6, 7, 8, 9, 10, 11, 12, 13, 14], [0, 1, 2, 3, 4, 5, 6, 7, 8, 9, 10, 11, 12, 13, 14, 15], [0, 1, 2, 3, 4, 5, 6, 7, 8, 9, 10, 11, 12, 13, 14, 15, 16]] [113, 114, 115, 116, 117, 118, 119, 120, 121, 122, 123, 124, 125, 126, 127] [] (by kernel_rfl) (by kernel_rfl) (by kernel_rfl) (by kernel_rfl) (by exact trivial) ?_) | ((with_reducible refine isDraw [some 158, some 159, some 160, some 161, some 162, some 163, some 164, some 165, some 166, some 167, some 168, some 169, some 170, some 171] (by decide) ?_); refine draw_rule [(0, []), (1, []), (2, []), (3, []), (4, []), (5, []), (6, []), (7, [6]), (8, [6]), (9, [6]), (10, [6]), (11, []), (12, []), (13, [])] [[], [], [], [], [2, 3], [1, 2, 3, 4], [1, 2, 3, 4, 5], [], [], [7, 8], [7, 8, 9], [0, 1, 2, 3, 4, 5, 6, 7, 8, 9, 10], [0, 1, 2, 3, 4, 5, 6, 7, 8, 9, 10, 11], [0, 1, 2, 3, 4, 5, 6, 7, 8, 9, 10, 11, 12]] [158, 159, 160, 161, 162, 163, 164, 165, 166, 167, 168] [] (by kernel_rfl) (by kernel_rfl) (by kernel_rfl) (by kernel_rfl) (by exact trivial) ?_) | (refine And.intro ?_ ?_; (try simp only [sxO] at *); omega) | fail) <;> (try simp (maxSteps := 1000000) only [hb0, so_mbSt, d2, w1, w2, h1, h2, k1, k2, h3, hEl, j1, j2, j3, j4, natV, cE_ment, cE_kill, cE_len, hasK_nil, Nat.mul_one, List.length_set, ↓hold_pre, awayP, runOps, regK, step1, newK, genR, appR, obl, buildR, Value.cells, closeK, keepH, outV, retK, ret1, retC, RetV, Option.getD, runD, stepD, afterK, undef, simprocAttr, sxB, ↓sxD, sxE, sxTab]))
  exact ⟨Q.length, so_mbSt M1 ul N ((A ++ P) ++ q :: ([] ++ x :: (Q ++ Y2 ++ B))) i (a + P.length + 1), by simp, le_sub ⟨rfl, rfl, rfl, trivial⟩ ⟨by first | rfl | simp [lkH], by first | rfl | simp [lkH], trivial⟩ rfl rfl rfl (by simp [keepLt, so_mbSt, lkH]), P ++ [q], Q, (A ++ P) ++ q :: ([] ++ x :: (Q ++ Y2 ++ B)), rfl, by rw [hPQ]; simp, by rw [hXx]; simp, by rw [List.length_append]; rfl⟩
end
end Go.Proofs.Ytgkfmlgfmcpebaa.Sx
namespace Go.Proofs.Ytgkfmlgfmcpebaa.Sx
open Go Go.RowKit
set_option linter.unusedVariables false
set_option linter.unusedSimpArgs false
set_option maxRecDepth 100000
set_option maxHeartbeats 8000000
attribute [local congr] fin_congr finG_congr stepG_congr step1_congr runOps_congr brv_congr obl_congr condK_congr LoopK_congr seqK_congr CutK_congr vc_congr DrawK_congr regK_congr CallK_congr AskK_congr newK_congr retC_congr ret1_congr retK_congr outV_congr closeK_congr genR_congr appR_congr finD_congr finGD_congr stepGD_congr stepD_congr CallK0_congr runD_congr okR_congr CallS_congr vcX_congr
attribute [local congr] Stop_congr
section
variable {M : Mem} {K : AV → Hp → Mem → Prop} (ul : Value) {c : Nat → Nat → Int}
def so_mcSt (M : Mem) (ul : Value) (N : Nat) (D : List Nat) (m i j : Nat) : St := { env := [(14, .ext (.int .i64 (i : Int))), (15, .ext (.int .i64 (j : Int))), (4, .fn 53 [.own 101 0]), (2, .ext (.int .i64 (m : Int))), (0, .slo 113 0 N 1)], hp := [(113, 3, cE natV (D)), (101, 23, [.ext ul])], M := M, kb := 200, fx := [113, 101] }
def so_mdSt (M : Mem) (ul : Value) (N : Nat) (D : List Nat) (i k : Nat) : St := { env := [(17, .ext (.int .i64 (k : Int))), (14, .ext (.int .i64 (i : Int))), (0, .slo 113 0 N 1)], hp := [(113, 3, cE natV (D)), (101, 23, [.ext ul])], M := M, kb := 200, fx := [113, 101] }
theorem mrgB_ok (ho : CmpO c) (NN : Nat) (hc : CmpK M ul c NN) (A X Y B D : List Nat) (a m b N : Nat) (hD : D = A ++ X ++ Y ++ B) (ha : a = A.length) (hm : m = A.length + X.length) (hb : b = A.length + X.length + Y.length) (hX : 1 < X.length) (hY : Y.length = 1) (hx : X.Pairwise (ltS c)) (hy : Y.Pairwise (ltS c)) (hxy : ∀ x ∈ X, ∀ y ∈ Y, x < y) (hNN : ∀ x ∈ X ++ Y, x < NN) (hN : D.length = N) (hN2 : N < 1000000)
    (hK : ∀ Z M', Mem.le M M' → Z.Perm (X ++ Y) → Z.Pairwise (ltS c) → K (.ext (.tuple #[])) [(113, 3, cE natV (A ++ Z ++ B)), (101, 23, [.ext ul])] M') :
    CallS Try.prog 61 [.slo 113 0 N 1, .ext (.int .i64 (a : Int)), .ext (.int .i64 (m : Int)), .ext (.int .i64 (b : Int)), .fn 53 [.own 101 0]] [(113, 3, cE natV (D)), (101, 23, [.ext ul])] M [] K := by
  refine inlS (cs := []) Try.mixed Try.func61 rfl (by kernel_rfl) 200 rfl rfl ?_
  simp only [Try.f61]
  have hL := congrArg List.length hD
  simp only [List.length_append] at hL
  have w0 : IntKind.i64.wrap ((m : Int) - (a : Int)) = (X.length : Int) := by rw [wrap_id (by omega) (by omega)]; omega
  have w1 : IntKind.i64.wrap ((b : Int) - (m : Int)) = 1 := by rw [wrap_id (by omega) (by omega)]; omega
  have d0 : decide ((X.length : Int) = 1) = false := by rw [decide_eq_false_iff_not]; omega
  (replace hb0 := true_and True); refine Go1.mk ?_; repeat' ((first | (with_reducible refine Go1.go ?_) | ((with_reducible first | refine brv_mk ?_ ?_ | refine gsplitD ?_ ?_ | refine gsplitG ?_ ?_) <;> intro h <;> (try simp only [Bool.not_eq_true', Bool.not_eq_false'] at h) <;> replace hb0 := h) | (refine And.intro ?_ ?_; (try simp only [sxO] at *); omega) | fail) <;> (try simp (maxSteps := 1000000) only [hb0, w0, w1, d0, natV, cE_ment, cE_kill, cE_len, hasK_nil, Nat.mul_one, List.length_set, ↓hold_pre, awayP, runOps, regK, step1, newK, genR, appR, obl, buildR, Value.cells, closeK, keepH, outV, retK, ret1, retC, RetV, Option.getD, runD, stepD, afterK, undef, simprocAttr, sxB, ↓sxD, sxE, sxTab]))
  refine ⟨fun d z => ∃ M' i j, d = j - i ∧ Mem.le M M' ∧ a ≤ i ∧ i ≤ j ∧ j ≤ m ∧ (i = a ∨ ¬ c (nt D m) (nt D (i - 1)) < 0) ∧ (j = m ∨ c (nt D m) (nt D j) < 0) ∧ z = so_mcSt M' ul N D m i j,
    ⟨m - a, so_mcSt M ul N D m a m, le_sub ⟨rfl, rfl, rfl, rfl, rfl, trivial⟩ ⟨by first | rfl | simp [lkH], by first | rfl | simp [lkH], trivial⟩ rfl rfl rfl (by simp [keepLt, so_mcSt, lkH]), ⟨M, a, m, rfl, Mem.le.refl _, Nat.le_refl _, by omega, Nat.le_refl _, .inl rfl, .inl rfl, rfl⟩⟩, ?_⟩
  clear w1
  have hy0 : nt D m = nt Y 0 := nt_mid (A ++ X) Y B hD (by omega) (by rw [List.length_append]; omega)
  have hY0 : Y = [nt Y 0] := by
    rcases Y with _ | ⟨x, _ | ⟨y, Y⟩⟩
    · simp at hY
    · rfl
    · simp at hY
  rintro d z ⟨M1, i, j, rfl, hM1, hmi, hij, hjb, hI, hJ, rfl⟩
  by_cases hlt : i < j
  · have d1 : decide ((i : Int) < (j : Int)) = true := by rw [decide_eq_true_eq]; omega
    have w2 : IntKind.i64.wrap ((i : Int) + (j : Int)) = ((i + j : Nat) : Int) := by rw [wrap_id (by omega) (by omega)]; omega
    have w3 : IntKind.u64.wrap ((i + j : Nat) : Int) = ((i + j : Nat) : Int) := wrap64_id (by omega)
    have w4 := sh_one (i + j)
    have h1 := Nat.div_add_mod (i + j) 2
    have h2 := Nat.mod_lt (i + j) (show 0 < 2 by decide)
    obtain ⟨h, hh⟩ : ∃ h, h = (i + j) / 2 := ⟨_, rfl⟩
    rw [← hh] at w4 h1
    have w5 : IntKind.i64.wrap (h : Int) = (h : Int) := wrap_id (by omega) (by omega)
    have w6 : IntKind.u64.wrap (h : Int) = (h : Int) := wrap64_id (by omega)
    have w7 : IntKind.i64.wrap ((h : Int) + 1) = ((h + 1 : Nat) : Int) := succ_i (by omega)
    have j1 : (0 : Int) ≤ (h : Int) := by omega
    have j2 : (h : Int) < (N : Int) := by omega
    have j3 : (0 : Int) ≤ (m : Int) := by omega
    have j4 : (m : Int) < (N : Int) := by omega
    have n1 := nt_at (D := D) (i := h) (by omega)
    have n2 := nt_at (D := D) (i := m) (by omega)
    have hxh : nt D h = nt X (h - a) := nt_mid A X (Y ++ B) (by rw [hD]; simp) (by omega) (by omega)
    have b1 : nt D h < NN := hNN _ (by rw [hxh]; exact List.mem_append_left _ (nt_in (by omega)))
    have b2 : nt D m < NN := hNN _ (by rw [hy0]; exact List.mem_append_right _ (nt_in (by omega)))
    (replace hb0 := true_and True); refine Go1.mk ?_; repeat' ((first | (with_reducible refine Go1.go ?_) | ((with_reducible first | refine brv_mk ?_ ?_ | refine gsplitD ?_ ?_ | refine gsplitG ?_ ?_) <;> intro h <;> (try simp only [Bool.not_eq_true', Bool.not_eq_false'] at h) <;> replace hb0 := h) | ((with_reducible refine isCall0 (f := 53) ?_); refine callA0 ?_) | ((with_reducible refine isCallS (f := 53) ?_); refine (hc (nt D m) (nt D h) _ _ b2 b1 hM1 (fun M2 m2 => Stop.mk ?_))) | ((with_reducible refine isDraw [some 40, some 41, some 42, some 43, some 44, some 45, some 46, some 47, some 48, some 49, some 50] (by decide) ?_); refine draw_rule [(0, []), (1, []), (2, []), (3, []), (4, []), (5, [4]), (6, [4]), (7, [4]), (8, [4]), (9, []), (10, [])] [[], [], [], [1, 2], [1, 2, 3], [], [], [5, 6], [5, 6, 7], [0, 1, 2, 3, 4, 5, 6, 7, 8], [0, 1, 2, 3, 4, 5, 6, 7, 8, 9]] [40, 41, 42, 43, 44, 45, 46, 47, 48] [] (by kernel_rfl) (by kernel_rfl) (by kernel_rfl) (by kernel_rfl) (by exact trivial) ?_) | ((with_reducible refine isDraw [some 61, some 62, some 63, some 64, some 65, some 66, some 67, some 68, some 69, some 70, some 71, some 72, some 73, some 74, some 75, none, some 76, none] (by decide) ?_); refine draw_rule [(0, []), (1, []), (2, []), (3, []), (4, []), (5, []), (6, []), (7, []), (8, []), (9, []), (10, [9]), (11, [9]), (12, [9]), (13, [9]), (14, []), (15, []), (16, []), (17, [])] [[], [], [], [], [3], [], [], [6], [5, 6, 7], [5, 6, 7, 8], [], [], [10, 11], [10, 11, 12], [0, 1, 5, 6, 7, 8, 9, 10, 11, 12, 13], [0, 1, 5, 6, 7, 8, 9, 10, 11, 12, 13, 14], [0, 1, 2, 3, 4, 5, 6, 7, 8, 9, 10, 11, 12, 13, 14, 15], [0, 1, 2, 3, 4, 5, 6, 7, 8, 9, 10, 11, 12, 13, 14, 15, 16]] [61, 62, 63, 64, 65, 66, 67, 68, 69, 70, 71, 72, 73, 74, 75] [] (by kernel_rfl) (by kernel_rfl) (by kernel_rfl) (by kernel_rfl) (by exact trivial) ?_) | ((with_reducible refine isDraw [some 92, some 93, some 94, some 95, some 96, some 97, some 98, some 99, some 100, some 101, some 102, some 103] (by decide) ?_); refine draw_rule [(0, []), (1, []), (2, []), (3, []), (4, []), (5, [4]), (6, [4]), (7, [4]), (8, [4]), (9, []), (10, []), (11, [])] [[], [], [], [1, 2], [1, 2, 3], [], [], [5, 6], [5, 6, 7], [0, 1, 2, 3, 4, 5, 6, 7, 8], [0, 1, 2, 3, 4, 5, 6, 7, 8, 9], [0, 1, 2, 3, 4, 5, 6, 7, 8, 9, 10]] [92, 93, 94, 95, 96, 97, 98, 99, 100] [] (by kernel_rfl) (by kernel_rfl) (by kernel_rfl) (by kernel_rfl) (by exact trivial) ?_) | ((with_reducible refine isDraw [some 113, some 114, some 115, some 116, some 117, some 118, some 119, some 120, some 121, some 122, some 123, some 124, some 125, some 126, some 127, none, some 128, none] (by decide) ?_); refine draw_rule [(0, []), (1, []), (2, []), (3, []), (4, []), (5, []), (6, []), (7, []), (8, []), (9, []), (10, [9]), (11, [9]), (12, [9]), (13, [9]), (14, []), (15, []), (16, []), (17, [])] [[], [], [], [], [3], [], [], [6], [5, 6, 7], [5, 6, 7, 8], [], [], [10, 11], [10, 11, 12], [0, 1, 5, 6, 7, 8, 9, 10, 11, 12, 13], [0, 1, 5, 6, 7, 8, 9, 10, 11, 12, 13, 14], [0, 1, 2, 3, 4, 5, 6, 7, 8, 9, 10, 11, 12, 13, 14, 15], [0, 1, 2, 3, 4, 5, 6, 7, 8, 9, 10, 11, 12, 13, 14, 15, 16]] [113, 114, 115, 116, 117, 118, 119, 120, 121, 122, 123, 124, 125, 126, 127] [] (by kernel_rfl) (by kernel_rfl) (by kernel_rfl) (by kernel_rfl) (by exact trivial) ?_) | ((with_reducible refine isDraw [some 158, some 159, some 160, some 161, some 162, some 163, some 164, some 165, some 166, some 167, some 168, some 169, some 170, some 171] (by decide) ?_); refine draw_rule [(0, []), (1, []), (2, []), (3, []), (4, []), (5, []), (6, []), (7, [6]), (8, [6]), (9, [6]), (10, [6]), (11, []), (12, []), (13, [])] [[], [], [], [], [2, 3], [1, 2, 3, 4], [1, 2, 3, 4, 5], [], [], [7, 8], [7, 8, 9], [0, 1, 2, 3, 4, 5, 6, 7, 8, 9, 10], [0, 1, 2, 3, 4, 5, 6, 7, 8, 9, 10, 11], [0, 1, 2, 3, 4, 5, 6, 7, 8, 9, 10, 11, 12]] [158, 159, 160, 161, 162, 163, 164, 165, 166, 167, 168] [] (by kernel_rfl) (by kernel_rfl) (by kernel_rfl) (by kernel_rfl) (by exact trivial) ?_) | (refine And.intro ?_ ?_; (try simp only [sxO] at *); omega) | fail) <;> (try simp (maxSteps := 1000000) only [hb0, so_mcSt, d1, w2, w3, w4, w5, w6, w7, n1, n2, j1, j2, j3, j4, natV, cE_ment, cE_kill, cE_len, hasK_nil, Nat.mul_one, List.length_set, ↓hold_pre, awayP, runOps, regK, step1, newK, genR, appR, obl, buildR, Value.cells, closeK, keepH, outV, retK, ret1, retC, RetV, Option.getD, runD, stepD, afterK, undef, simprocAttr, sxB, ↓sxD, sxE, sxTab]))
    have m2 : Mem.le M1 M2 := m2
    have hM2 := hM1.trans m2
    by_cases hcc : c (nt D m) (nt D h) < 0
    · have d3 : decide (c (nt D m) (nt D h) < 0) = true := decide_eq_true hcc
      refine Stop.go ?_
      (replace hb0 := true_and True); refine Go1.mk ?_; repeat' ((first | (with_reducible refine Go1.go ?_) | ((with_reducible first | refine brv_mk ?_ ?_ | refine gsplitD ?_ ?_ | refine gsplitG ?_ ?_) <;> intro h <;> (try simp only [Bool.not_eq_true', Bool.not_eq_false'] at h) <;> replace hb0 := h) | ((with_reducible refine isDraw [some 40, some 41, some 42, some 43, some 44, some 45, some 46, some 47, some 48, some 49, some 50] (by decide) ?_); refine draw_rule [(0, []), (1, []), (2, []), (3, []), (4, []), (5, [4]), (6, [4]), (7, [4]), (8, [4]), (9, []), (10, [])] [[], [], [], [1, 2], [1, 2, 3], [], [], [5, 6], [5, 6, 7], [0, 1, 2, 3, 4, 5, 6, 7, 8], [0, 1, 2, 3, 4, 5, 6, 7, 8, 9]] [40, 41, 42, 43, 44, 45, 46, 47, 48] [] (by kernel_rfl) (by kernel_rfl) (by kernel_rfl) (by kernel_rfl) (by exact trivial) ?_) | ((with_reducible refine isDraw [some 61, some 62, some 63, some 64, some 65, some 66, some 67, some 68, some 69, some 70, some 71, some 72, some 73, some 74, some 75, none, some 76, none] (by decide) ?_); refine draw_rule [(0, []), (1, []), (2, []), (3, []), (4, []), (5, []), (6, []), (7, []), (8, []), (9, []), (10, [9]), (11, [9]), (12, [9]), (13, [9]), (14, []), (15, []), (16, []), (17, [])] [[], [], [], [], [3], [], [], [6], [5, 6, 7], [5, 6, 7, 8], [], [], [10, 11], [10, 11, 12], [0, 1, 5, 6, 7, 8, 9, 10, 11, 12, 13], [0, 1, 5, 6, 7, 8, 9, 10, 11, 12, 13, 14], [0, 1, 2, 3, 4, 5, 6, 7, 8, 9, 10, 11, 12, 13, 14, 15], [0, 1, 2, 3, 4, 5, 6, 7, 8, 9, 10, 11, 12, 13, 14, 15, 16]] [61, 62, 63, 64, 65, 66, 67, 68, 69, 70, 71, 72, 73, 74, 75] [] (by kernel_rfl) (by kernel_rfl) (by kernel_rfl) (by kernel_rfl) (by exact trivial) ?_) | ((with_reducible refine isDraw [some 92, some 93, some 94, some 95, some 96, some 97, some 98, some 99, some 100, some 101, some 102, some 103] (by decide) ?_); refine draw_rule [(0, []), (1, []), (2, []), (3, []), (4, []), (5, [4]), (6, [4]), (7, [4]), (8, [4]), (9, []), (10, []), (11, [])] [[], [], [], [1, 2], [1, 2, 3], [], [], [5, 6], [5, 6, 7], [0, 1, 2, 3, 4, 5, 6, 7, 8], [0, 1, 2, 3, 4, 5, 6, 7, 8, 9], [0, 1, 2, 3, 4, 5, 6, 7, 8, 9, 10]] [92, 93, 94, 95, 96, 97, 98, 99, 100] [] (by kernel_rfl) (by kernel_rfl) (by kernel_rfl) (by kernel_rfl) (by exact trivial) ?_) | ((with_reducible refine isDraw [some 113, some 114, some 115, some 116, some 117, some 118, some 119, some 120, some 121, some 122, some 123, some 124, some 125, some 126, some 127, none, some 128, none] (by decide) ?_); refine draw_rule [(0, []), (1, []), (2, []), (3, []), (4, []), (5, []), (6, []), (7, []), (8, []), (9, []), (10, [9]), (11, [9]), (12, [9]), (13, [9]), (14, []), (15, []), (16, []), (17, [])] [[], [], [], [], [3], [], [], [6], [5, 6, 7], [5, 6, 7, 8], [], [], [10, 11], [10, 11, 12], [0, 1, 5, 6, 7, 8, 9, 10, 11, 12, 13], [0, 1, 5, 6, 7, 8, 9, 10, 11, 12, 13, 14], [0, 1, 2, 3, 4, 5, 6, 7, 8, 9, 10, 11, 12, 13, 14, 15], [0, 1, 2, 3, 4, 5, 6, 7, 8, 9, 10, 11, 12, 13, 14, 15, 16]] [113, 114, 115, 116, 117, 118, 119, 120, 121, 122, 123, 124, 125, 126, 127] [] (by kernel_rfl) (by kernel_rfl) (by kernel_rfl) (by kernel_rfl) (by exact trivial) ?_) | ((with_reducible refine isDraw [some 158, some 159, some 160, some 161, some 162, some 163, some 164, some 165, some 166, some 167, some 168, some 169, some 170, some 171] (by decide) ?_); refine draw_rule [(0, []), (1, []), (2, []), (3, []), (4, []), (5, []), (6, []), (7, [6]), (8, [6]), (9, [6]), (10, [6]), (11, []), (12, []), (13, [])] [[], [], [], [], [2, 3], [1, 2, 3, 4], [1, 2, 3, 4, 5], [], [], [7, 8], [7, 8, 9], [0, 1, 2, 3, 4, 5, 6, 7, 8, 9, 10], [0, 1, 2, 3, 4, 5, 6, 7, 8, 9, 10, 11], [0, 1, 2, 3, 4, 5, 6, 7, 8, 9, 10, 11, 12]] [158, 159, 160, 161, 162, 163, 164, 165, 166, 167, 168] [] (by kernel_rfl) (by kernel_rfl) (by kernel_rfl) (by kernel_rfl) (by exact trivial) ?_) | (refine And.intro ?_ ?_; (try simp only [sxO] at *); omega) | fail) <;> (try simp (maxSteps := 1000000) only [hb0, d3, w7, natV, cE_ment, cE_kill, cE_len, hasK_nil, Nat.mul_one, List.length_set, ↓hold_pre, awayP, runOps, regK, step1, newK, genR, appR, obl, buildR, Value.cells, closeK, keepH, outV, retK, ret1, retC, RetV, Option.getD, runD, stepD, afterK, undef, simprocAttr, sxB, ↓sxD, sxE, sxTab]))
      exact ⟨h - i, so_mcSt M2 ul N D m i h, by omega, le_sub ⟨rfl, rfl, rfl, rfl, rfl, trivial⟩ ⟨by first | rfl | simp [lkH], by first | rfl | simp [lkH], trivial⟩ rfl rfl rfl (by simp [keepLt, so_mcSt, lkH]), M2, i, h, rfl, hM2, hmi, by omega, by omega, hI, .inr hcc, rfl⟩
    · have d3 : decide (c (nt D m) (nt D h) < 0) = false := decide_eq_false hcc
      refine Stop.go ?_
      (replace hb0 := true_and True); refine Go1.mk ?_; repeat' ((first | (with_reducible refine Go1.go ?_) | ((with_reducible first | refine brv_mk ?_ ?_ | refine gsplitD ?_ ?_ | refine gsplitG ?_ ?_) <;> intro h <;> (try simp only [Bool.not_eq_true', Bool.not_eq_false'] at h) <;> replace hb0 := h) | ((with_reducible refine isDraw [some 40, some 41, some 42, some 43, some 44, some 45, some 46, some 47, some 48, some 49, some 50] (by decide) ?_); refine draw_rule [(0, []), (1, []), (2, []), (3, []), (4, []), (5, [4]), (6, [4]), (7, [4]), (8, [4]), (9, []), (10, [])] [[], [], [], [1, 2], [1, 2, 3], [], [], [5, 6], [5, 6, 7], [0, 1, 2, 3, 4, 5, 6, 7, 8], [0, 1, 2, 3, 4, 5, 6, 7, 8, 9]] [40, 41, 42, 43, 44, 45, 46, 47, 48] [] (by kernel_rfl) (by kernel_rfl) (by kernel_rfl) (by kernel_rfl) (by exact trivial) ?_) | ((with_reducible refine isDraw [some 61, some 62, some 63, some 64, some 65, some 66, some 67, some 68, some 69, some 70, some 71, some 72, some 73, some 74, some 75, none, some 76, none] (by decide) ?_); refine draw_rule [(0, []), (1, []), (2, []), (3, []), (4, []), (5, []), (6, []), (7, []), (8, []), (9, []), (10, [9]), (11, [9]), (12, [9]), (13, [9]), (14, []), (15, []), (16, []), (17, [])] [[], [], [], [], [3], [], [], [6], [5, 6, 7], [5, 6, 7, 8], [], [], [10, 11], [10, 11, 12], [0, 1, 5, 6, 7, 8, 9, 10, 11, 12, 13], [0, 1, 5, 6, 7, 8, 9, 10, 11, 12, 13, 14], [0, 1, 2, 3, 4, 5, 6, 7, 8, 9, 10, 11, 12, 13, 14, 15], [0, 1, 2, 3, 4, 5, 6, 7, 8, 9, 10, 11, 12, 13, 14, 15, 16]] [61, 62, 63, 64, 65, 66, 67, 68, 69, 70, 71, 72, 73, 74, 75] [] (by kernel_rfl) (by kernel_rfl) (by kernel_rfl) (by kernel_rfl) (by exact trivial) ?_) | ((with_reducible refine isDraw [some 92, some 93, some 94, some 95, some 96, some 97, some 98, some 99, some 100, some 101, some 102, some 103] (by decide) ?_); refine draw_rule [(0, []), (1, []), (2, []), (3, []), (4, []), (5, [4]), (6, [4]), (7, [4]), (8, [4]), (9, []), (10, []), (11, [])] [[], [], [], [1, 2], [1, 2, 3], [], [], [5, 6], [5, 6, 7], [0, 1, 2, 3, 4, 5, 6, 7, 8], [0, 1, 2, 3, 4, 5, 6, 7, 8, 9], [0, 1, 2, 3, 4, 5, 6, 7, 8, 9, 10]] [92, 93, 94, 95, 96, 97, 98, 99, 100] [] (by kernel_rfl) (by kernel_rfl) (by kernel_rfl) (by kernel_rfl) (by exact trivial) ?_) | ((with_reducible refine isDraw [some 113, some 114, some 115, some 116, some 117, some 118, some 119, some 120, some 121, some 122, some 123, some 124, some 125, some 126, some 127, none, some 128, none] (by decide) ?_); refine draw_rule [(0, []), (1, []), (2, []), (3, []), (4, []), (5, []), (6, []), (7, []), (8, []), (9, []), (10, [9]), (11, [9]), (12, [9]), (13, [9]), (14, []), (15, []), (16, []), (17, [])] [[], [], [], [], [3], [], [], [6], [5, 6, 7], [5, 6, 7, 8], [], [], [10, 11], [10, 11, 12], [0, 1, 5, 6, 7, 8, 9, 10, 11, 12, 13], [0, 1, 5, 6, 7, 8, 9, 10, 11, 12, 13, 14], [0, 1, 2, 3, 4, 5, 6, 7, 8, 9, 10, 11, 12, 13, 14, 15], [0, 1, 2, 3, 4, 5, 6, 7, 8, 9, 10, 11, 12, 13, 14, 15, 16]] [113, 114, 115, 116, 117, 118, 119, 120, 121, 122, 123, 124, 125, 126, 127] [] (by kernel_rfl) (by kernel_rfl) (by kernel_rfl) (by kernel_rfl) (by exact trivial) ?_) | ((with_reducible refine isDraw [some 158, some 159, some 160, some 161, some 162, some 163, some 164, some 165, some 166, some 167, some 168, some 169, some 170, some 171] (by decide) ?_); refine draw_rule [(0, []), (1, []), (2, []), (3, []), (4, []), (5, []), (6, []), (7, [6]), (8, [6]), (9, [6]), (10, [6]), (11, []), (12, []), (13, [])] [[], [], [], [], [2, 3], [1, 2, 3, 4], [1, 2, 3, 4, 5], [], [], [7, 8], [7, 8, 9], [0, 1, 2, 3, 4, 5, 6, 7, 8, 9, 10], [0, 1, 2, 3, 4, 5, 6, 7, 8, 9, 10, 11], [0, 1, 2, 3, 4, 5, 6, 7, 8, 9, 10, 11, 12]] [158, 159, 160, 161, 162, 163, 164, 165, 166, 167, 168] [] (by kernel_rfl) (by kernel_rfl) (by kernel_rfl) (by kernel_rfl) (by exact trivial) ?_) | (refine And.intro ?_ ?_; (try simp only [sxO] at *); omega) | fail) <;> (try simp (maxSteps := 1000000) only [hb0, d3, w7, natV, cE_ment, cE_kill, cE_len, hasK_nil, Nat.mul_one, List.length_set, ↓hold_pre, awayP, runOps, regK, step1, newK, genR, appR, obl, buildR, Value.cells, closeK, keepH, outV, retK, ret1, retC, RetV, Option.getD, runD, stepD, afterK, undef, simprocAttr, sxB, ↓sxD, sxE, sxTab]))
      exact ⟨j - (h + 1), so_mcSt M2 ul N D m (h + 1) j, by omega, le_sub ⟨rfl, rfl, rfl, rfl, rfl, trivial⟩ ⟨by first | rfl | simp [lkH], by first | rfl | simp [lkH], trivial⟩ rfl rfl rfl (by simp [keepLt, so_mcSt, lkH]), M2, h + 1, j, rfl, hM2, by omega, by omega, hjb, .inr hcc, hJ, rfl⟩
  obtain rfl : i = j := by omega
  have d1 : decide ((i : Int) < (i : Int)) = false := by simp
  obtain ⟨X1, X2, hXX, hX1⟩ : ∃ X1 X2, X = X1 ++ X2 ∧ X1.length = i - a := ⟨X.take (i - a), X.drop (i - a), (List.take_append_drop _ _).symm, by rw [List.length_take]; omega⟩
  have hXl : X.length = X1.length + X2.length := by rw [hXX, List.length_append]
  have hxx := hx
  rw [hXX] at hxx
  obtain ⟨x1, x2, x3⟩ := pw_app.1 hxx
  have g1 : ahead c X1 Y := ahead_nt ho x1 hy fun p1 _ => by
    rcases hI with hI | hI
    · omega
    rw [nt_mid A X1 (X2 ++ Y ++ B) (i := X1.length - 1) (j := i - 1) (by rw [hD, hXX]; simp) (by omega) (by omega), hy0] at hI
    exact ltS_not ho (hxy _ (by rw [hXX]; exact List.mem_append_left _ (nt_in (by omega))) _ (nt_in (by omega))) hI
  have g2 : ahead c Y X2 := ahead_nt ho hy x2 fun _ p2 => by
    rcases hJ with hJ | hJ
    · omega
    have e1 := nt_mid (D := D) (A ++ X1) X2 (Y ++ B) (i := 0) (j := i) (by rw [hD, hXX]; simp) p2 (by simp only [List.length_append]; omega)
    rw [hy0, e1] at hJ
    rw [hY]
    exact .inl hJ
  have hKz := hK (X1 ++ Y ++ X2) M1 hM1 (by rw [hXX, List.append_assoc, List.append_assoc]; exact List.Perm.append_left _ List.perm_append_comm) (pw_app.2 ⟨pw_app.2 ⟨x1, hy, g1⟩, x2, fun u hu v hv => by
    rcases List.mem_append.1 hu with hu | hu
    · exact x3 u hu v hv
    · exact g2 u hu v hv⟩)
  clear hK
  (replace hb0 := true_and True); refine Go1.mk ?_; repeat' ((first | (with_reducible refine Go1.go ?_) | ((with_reducible first | refine brv_mk ?_ ?_ | refine gsplitD ?_ ?_ | refine gsplitG ?_ ?_) <;> intro h <;> (try simp only [Bool.not_eq_true', Bool.not_eq_false'] at h) <;> replace hb0 := h) | (refine And.intro ?_ ?_; (try simp only [sxO] at *); omega) | fail) <;> (try simp (maxSteps := 1000000) only [hb0, so_mcSt, d1, natV, cE_ment, cE_kill, cE_len, hasK_nil, Nat.mul_one, List.length_set, ↓hold_pre, awayP, runOps, regK, step1, newK, genR, appR, obl, buildR, Value.cells, closeK, keepH, outV, retK, ret1, retC, RetV, Option.getD, runD, stepD, afterK, undef, simprocAttr, sxB, ↓sxD, sxE, sxTab]))
  refine ⟨fun d z => ∃ P Q E, d = P.length ∧ X2 = P ++ Q ∧ E = A ++ X1 ++ P ++ Y ++ Q ++ B ∧ z = so_mdSt M1 ul N E i (i + P.length),
    ⟨X2.length, so_mdSt M1 ul N D i m, le_sub ⟨rfl, rfl, rfl, trivial⟩ ⟨by first | rfl | simp [lkH], by first | rfl | simp [lkH], trivial⟩ rfl rfl rfl (by simp [keepLt, so_mdSt, lkH]), ⟨X2, [], D, rfl, by simp, by rw [hD, hXX]; simp, by rw [show m = i + X2.length by omega]⟩⟩, ?_⟩
  rintro d z ⟨P, Q, E, rfl, hPQ, hE, rfl⟩
  have hPl := congrArg List.length hPQ
  rw [List.length_append] at hPl
  have hEl : E.length = N := by rw [hE]; simp only [List.length_append]; omega
  rcases List.eq_nil_or_concat P with rfl | ⟨P1, p, hp⟩
  · have d2 : decide ((i : Int) < (i : Int)) = false := by simp
    (replace hb0 := true_and True); refine Go1.mk ?_; repeat' ((first | (with_reducible refine Go1.go ?_) | ((with_reducible first | refine brv_mk ?_ ?_ | refine gsplitD ?_ ?_ | refine gsplitG ?_ ?_) <;> intro h <;> (try simp only [Bool.not_eq_true', Bool.not_eq_false'] at h) <;> replace hb0 := h) | (refine And.intro ?_ ?_; (try simp only [sxO] at *); omega) | fail) <;> (try simp (maxSteps := 1000000) only [hb0, so_mdSt, d2, natV, cE_ment, cE_kill, cE_len, hasK_nil, Nat.mul_one, List.length_set, ↓hold_pre, awayP, runOps, regK, step1, newK, genR, appR, obl, buildR, Value.cells, closeK, keepH, outV, retK, ret1, retC, RetV, Option.getD, runD, stepD, afterK, undef, simprocAttr, sxB, ↓sxD, sxE, sxTab]))
    rw [List.nil_append] at hPQ
    rw [hE, ← hPQ]
    rw [show A ++ (X1 ++ Y ++ X2) ++ B = A ++ X1 ++ [] ++ Y ++ X2 ++ B by simp] at hKz
    exact hKz
  rw [List.concat_eq_append] at hp
  subst hp
  have hl1 : i + (P1 ++ [p]).length = i + P1.length + 1 := by rw [List.length_append]; rfl
  rw [hl1]
  rw [List.length_append, List.length_singleton] at hPl
  have d2 : decide ((i : Int) < ((i + P1.length + 1 : Nat) : Int)) = true := by rw [decide_eq_true_eq]; omega
  obtain ⟨y, hYy⟩ : ∃ y, Y = [y] := ⟨_, hY0⟩
  have e1 : E = (A ++ X1 ++ P1) ++ p :: ([] ++ y :: (Q ++ B)) := by rw [hE, hYy]; simp
  have e2 : E = (A ++ X1 ++ P1 ++ [p]) ++ y :: (Q ++ B) := by rw [e1]; simp
  have ai : i + P1.length = (A ++ X1 ++ P1).length := by simp only [List.length_append]; omega
  have h1 := at_mid (A ++ X1 ++ P1) p ([] ++ y :: (Q ++ B)) ai
  rw [← e1] at h1
  have h2 := at_mid (A ++ X1 ++ P1 ++ [p]) y (Q ++ B) (i := i + P1.length + 1) (by rw [List.length_append, ← ai]; rfl)
  rw [← e2] at h2
  have h3 := set_owt (A ++ X1 ++ P1) [] (Q ++ B) p y (i := i + P1.length) (j := i + P1.length + 1) ai (by rw [← ai]; simp)
  rw [← e1] at h3
  have w2 : IntKind.i64.wrap (((i + P1.length + 1 : Nat) : Int) - 1) = ((i + P1.length : Nat) : Int) := by rw [wrap_id (by omega) (by omega)]; omega
  have j1 : (0 : Int) ≤ ((i + P1.length : Nat) : Int) := by omega
  have j2 : ((i + P1.length : Nat) : Int) < (N : Int) := by omega
  have j3 : (0 : Int) ≤ ((i + P1.length + 1 : Nat) : Int) := by omega
  have j4 : ((i + P1.length + 1 : Nat) : Int) < (N : Int) := by omega
  have k1 := nat_set E (i + P1.length + 1) p
  have k2 := nat_set (E.set (i + P1.length + 1) p) (i + P1.length) y
  (replace hb0 := true_and True); refine Go1.mk ?_; repeat' ((first | (with_reducible refine Go1.go ?_) | ((with_reducible first | refine brv_mk ?_ ?_ | refine gsplitD ?_ ?_ | refine gsplitG ?_ ?_) <;> intro h <;> (try simp only [Bool.not_eq_true', Bool.not_eq_false'] at h) <;> replace hb0 := h) | ((with_reducible refine isDraw [some 40, some 41, some 42, some 43, some 44, some 45, some 46, some 47, some 48, some 49, some 50] (by decide) ?_); refine draw_rule [(0, []), (1, []), (2, []), (3, []), (4, []), (5, [4]), (6, [4]), (7, [4]), (8, [4]), (9, []), (10, [])] [[], [], [], [1, 2], [1, 2, 3], [], [], [5, 6], [5, 6, 7], [0, 1, 2, 3, 4, 5, 6, 7, 8], [0, 1, 2, 3, 4, 5, 6, 7, 8, 9]] [40, 41, 42, 43, 44, 45, 46, 47, 48] [] (by kernel_rfl) (by kernel_rfl) (by kernel_rfl) (by kernel_rfl) (by exact trivial) ?_) | ((with_reducible refine isDraw [some 61, some 62, some 63, some 64, some 65, some 66, some 67, some 68, some 69, some 70, some 71, some 72, some 73, some 74, some 75, none, some 76, none] (by decide) ?_); refine draw_rule [(0, []), (1, []), (2, []), (3, []), (4, []), (5, []), (6, []), (7, []), (8, []), (9, []), (10, [9]), (11, [9]), (12, [9]), (13, [9]), (14, []), (15, []), (16, []), (17, [])] [[], [], [], [], [3], [], [], [6], [5, 6, 7], [5, 6, 7, 8], [], [], [10, 11], [10, 11, 12], [0, 1, 5, 6, 7, 8, 9, 10, 11, 12, 13], [0, 1, 5, 6, 7, 8, 9, 10, 11, 12, 13, 14], [0, 1, 2, 3, 4, 5, 6, 7, 8, 9, 10, 11, 12, 13, 14, 15], [0, 1, 2, 3, 4, 5, 6, 7, 8, 9, 10, 11, 12, 13, 14, 15, 16]] [61, 62, 63, 64, 65, 66, 67, 68, 69, 70, 71, 72, 73, 74, 75] [] (by kernel_rfl) (by kernel_rfl) (by kernel_rfl) (by kernel_rfl) (by exact trivial) ?_) | ((with_reducible refine isDraw [some 92, some 93, some 94, some 95, some 96, some 97, some 98, some 99, some 100, some 101, some 102, some 103] (by decide) ?_); refine draw_rule [(0, []), (1, []), (2, []), (3, []), (4, []), (5, [4]), (6, [4]), (7, [4]), (8, [4]), (9, []), (10, []), (11, [])] [[], [], [], [1, 2], [1, 2, 3], [], [], [5, 6], [5, 6, 7], [0, 1, 2, 3, 4, 5, 6, 7, 8], [0, 1, 2, 3, 4, 5, 6, 7, 8, 9], [0, 1, 2, 3, 4, 5, 6, 7, 8, 9, 10]] [92, 93, 94, 95, 96, 97, 98, 99, 100] [] (by kernel_rfl) (by kernel_rfl) (by kernel_rfl) (by kernel_rfl) (by exact trivial) ?_) | ((with_reducible refine isDraw [some 113, some 114, some 115, some 116, some 117, some 118, some 119, some 120, some 121, some 122, some 123, some 124, some 125, some 126, some 127, none, some 128, none] (by decide) ?_); refine draw_rule [(0, []), (1, []), (2, []), (3, []), (4, []), (5, []), (6, []), (7, []), (8, []), (9, []), (10, [9]), (11, [9]), (12, [9]), (13, [9]), (14, []), (15, []), (16, []), (17, [])] [[], [], [], [], [3], [], [], [6], [5, 6, 7], [5, 6, 7, 8], [], [], [10, 11], [10, 11, 12], [0, 1, 5, 6, 7, 8, 9, 10, 11, 12, 13], [0, 1, 5, 6, 7, 8, 9, 10, 11, 12, 13, 14], [0, 1, 2, 3, 4, 5, 6, 7, 8, 9, 10, 11, 12, 13, 14, 15], [0, 1, 2, 3, 4, 5, 6, 7, 8, 9, 10, 11, 12, 13, 14, 15, 16]] [113, 114, 115, 116, 117, 118, 119, 120, 121, 122, 123, 124, 125, 126, 127] [] (by kernel_rfl) (by kernel_rfl) (by kernel_rfl) (by kernel_rfl) (by exact trivial) ?_) | ((with_reducible refine isDraw [some 158, some 159, some 160, some 161, some 162, some 163, some 164, some 165, some 166, some 167, some 168, some 169, some 170, some 171] (by decide) ?_); refine draw_rule [(0, []), (1, []), (2, []), (3, []), (4, []), (5, []), (6, []), (7, [6]), (8, [6]), (9, [6]), (10, [6]), (11, []), (12, []), (13, [])] [[], [], [], [], [2, 3], [1, 2, 3, 4], [1, 2, 3, 4, 5], [], [], [7, 8], [7, 8, 9], [0, 1, 2, 3, 4, 5, 6, 7, 8, 9, 10], [0, 1, 2, 3, 4, 5, 6, 7, 8, 9, 10, 11], [0, 1, 2, 3, 4, 5, 6, 7, 8, 9, 10, 11, 12]] [158, 159, 160, 161, 162, 163, 164, 165, 166, 167, 168] [] (by kernel_rfl) (by kernel_rfl) (by kernel_rfl) (by kernel_rfl) (by exact trivial) ?_) | (refine And.intro ?_ ?_; (try simp only [sxO] at *); omega) | fail) <;> (try simp (maxSteps := 1000000) only [hb0, so_mdSt, d2, w2, h1, h2, k1, k2, h3, hEl, j1, j2, j3, j4, natV, cE_ment, cE_kill, cE_len, hasK_nil, Nat.mul_one, List.length_set, ↓hold_pre, awayP, runOps, regK, step1, newK, genR, appR, obl, buildR, Value.cells, closeK, keepH, outV, retK, ret1, retC, RetV, Option.getD, runD, stepD, afterK, undef, simprocAttr, sxB, ↓sxD, sxE, sxTab]))
  exact ⟨P1.length, so_mdSt M1 ul N ((A ++ X1 ++ P1) ++ y :: ([] ++ p :: (Q ++ B))) i (i + P1.length), by simp, le_sub ⟨rfl, rfl, rfl, trivial⟩ ⟨by first | rfl | simp [lkH], by first | rfl | simp [lkH], trivial⟩ rfl rfl rfl (by simp [keepLt, so_mdSt, lkH]), P1, p :: Q, (A ++ X1 ++ P1) ++ y :: ([] ++ p :: (Q ++ B)), rfl, by rw [hPQ]; simp, by rw [hYy]; simp, rfl⟩
end
end Go.Proofs.Ytgkfmlgfmcpebaa.Sx
