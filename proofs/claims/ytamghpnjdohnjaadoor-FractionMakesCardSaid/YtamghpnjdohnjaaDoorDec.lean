import Derived.Test.YtamghpnjdohnjaaDoorRefA
/- A plain law: decimal digits. -/
set_option linter.unusedVariables false
namespace Go.Proofs.YtamghpnjdohnjaaDoor.Sx
/-- the value of a byte that is a digit -/
def dgV (b : UInt8) : Nat := b.toNat - 48
def isDg (b : UInt8) : Prop := 48 ≤ b.toNat ∧ b.toNat ≤ 57
/-- the digit of a number below ten -/
def dgB (n : Nat) : UInt8 := UInt8.ofNat (48 + n)
theorem dgB_nat {n : Nat} (h : n < 10) : (dgB n).toNat = 48 + n := by
  unfold dgB
  simp; omega
theorem dgB_is {n : Nat} (h : n < 10) : isDg (dgB n) := by
  unfold isDg
  rw [dgB_nat h]; omega
theorem dgV_dgB {n : Nat} (h : n < 10) : dgV (dgB n) = n := by unfold dgV; rw [dgB_nat h]; omega
theorem dgB_dgV {b : UInt8} (h : isDg b) : dgB (dgV b) = b := by
  apply UInt8.toNat_inj.1
  have h1 := h.1
  have h2 := h.2
  rw [dgB_nat (by unfold dgV; omega)]
  unfold dgV; omega
/-- the value of digits, the greatest first -/
def numB (l : List UInt8) : Nat := l.foldl (fun a b => 10 * a + dgV b) 0
theorem numB_snoc (l : List UInt8) (b : UInt8) : numB (l ++ [b]) = 10 * numB l + dgV b := by simp [numB]
theorem numB_fold (l : List UInt8) : ∀ a, l.foldl (fun a b => 10 * a + dgV b) a = a * 10 ^ l.length + numB l := by
  induction l with
  | nil => intro a; simp [numB]
  | cons b r ih =>
    intro a
    unfold numB
    rw [List.foldl_cons, List.foldl_cons, ih, ih, List.length_cons, Nat.pow_succ]
    grind
theorem numB_app (a b : List UInt8) : numB (a ++ b) = numB a * 10 ^ b.length + numB b := by
  conv => lhs; unfold numB
  rw [List.foldl_append, numB_fold]; rfl
theorem numB_lt : ∀ {l : List UInt8}, (∀ b ∈ l, isDg b) → numB l < 10 ^ l.length := fun {l} => by
  induction l with
  | nil => intro _; simp [numB]
  | cons b r ih =>
    intro h
    have h1 := ih fun x hx => h x (List.mem_cons_of_mem _ hx)
    have h2 := (h b List.mem_cons_self).2
    have h3 : dgV b ≤ 9 := by unfold dgV; omega
    have h4 := numB_app [b] r
    rw [show [b] ++ r = b :: r from rfl] at h4
    rw [h4, List.length_cons, Nat.pow_succ]
    have h5 : numB [b] = dgV b := by simp [numB]
    rw [h5]
    have := Nat.mul_le_mul_right (10 ^ r.length) h3
    omega
/-- digits without zeros ahead; no digit for zero -/
def dec (n : Nat) : List UInt8 := if h : n = 0 then [] else dec (n / 10) ++ [dgB (n % 10)]
termination_by n
decreasing_by exact Nat.div_lt_self (by omega) (by decide)
theorem dec_zero : dec 0 = [] := by rw [dec]; simp
theorem dec_pos {n : Nat} (h : n ≠ 0) : dec n = dec (n / 10) ++ [dgB (n % 10)] := by rw [dec]; simp [h]
def decB (n : Nat) : List UInt8 := if n = 0 then [48] else dec n
theorem dec_is (n : Nat) : ∀ b ∈ dec n, isDg b := by
  induction n using Nat.strongRecOn with
  | _ n ih =>
    intro b hb
    by_cases h : n = 0
    · subst h; rw [dec_zero] at hb; cases hb
    · rw [dec_pos h] at hb
      rcases List.mem_append.1 hb with h1 | h1
      · exact ih _ (Nat.div_lt_self (by omega) (by decide)) b h1
      · rw [List.mem_singleton.1 h1]; exact dgB_is (by omega)
theorem numB_dec (n : Nat) : numB (dec n) = n := by
  induction n using Nat.strongRecOn with
  | _ n ih =>
    by_cases h : n = 0
    · subst h; rw [dec_zero]; rfl
    · rw [dec_pos h, numB_snoc, ih _ (Nat.div_lt_self (by omega) (by decide)), dgV_dgB (by omega)]; omega
theorem dec_head {n : Nat} : ∀ b, (dec n).head? = some b → b ≠ 48 := by
  induction n using Nat.strongRecOn with
  | _ n ih =>
    intro b hb
    by_cases h : n = 0
    · subst h; rw [dec_zero] at hb; cases hb
    · rw [dec_pos h] at hb
      by_cases h1 : n / 10 = 0
      · rw [h1, dec_zero] at hb
        simp only [List.nil_append, List.head?_cons, Option.some.injEq] at hb
        subst hb
        intro e
        have := congrArg UInt8.toNat e
        rw [dgB_nat (by omega)] at this
        simp at this
        omega
      · have hne : dec (n / 10) ≠ [] := fun e => by
          have := numB_dec (n / 10)
          rw [e] at this
          exact h1 (by rw [← this]; rfl)
        cases hd : dec (n / 10) with
        | nil => exact absurd hd hne
        | cons c t =>
          rw [hd] at hb
          exact ih (n / 10) (Nat.div_lt_self (by omega) (by decide)) b (by rw [hd]; simpa using hb)
theorem list_snoc {α : Type} (l : List α) : l = [] ∨ ∃ r x, l = r ++ [x] := by
  rcases List.eq_nil_or_concat l with h | ⟨r, x, h⟩
  · exact .inl h
  · exact .inr ⟨r, x, by simpa using h⟩
/-- digits without zeros ahead are those of their value -/
theorem dec_of : ∀ (n : Nat) (l : List UInt8), l.length = n → (∀ b ∈ l, isDg b) → (∀ b, l.head? = some b → b ≠ 48) → l = dec (numB l)
  | 0, l, hl, _, _ => by
    have : l = [] := List.length_eq_zero_iff.1 hl
    subst this
    rw [show numB [] = 0 from rfl, dec_zero]
  | n + 1, l, hl, hd, hh => by
    rcases list_snoc l with rfl | ⟨r, x, rfl⟩
    · simp at hl
    · have hr : r.length = n := by simpa using hl
      have hx : isDg x := hd x (by simp)
      have ih := dec_of n r hr (fun b hb => hd b (by simp [hb])) (fun b hb => by
        refine hh b ?_
        cases r with
        | nil => cases hb
        | cons c r => simpa using hb)
      have hv : dgV x < 10 := by have := hx.2; unfold dgV; omega
      have hne : numB (r ++ [x]) ≠ 0 := by
        rw [numB_snoc]
        intro e
        have e1 : numB r = 0 := by omega
        have e2 : dgV x = 0 := by omega
        rw [e1, dec_zero] at ih
        subst ih
        refine hh x rfl ?_
        rw [← dgB_dgV hx, e2]; rfl
      rw [dec_pos hne, numB_snoc]
      have e1 : (10 * numB r + dgV x) / 10 = numB r := by omega
      have e2 : (10 * numB r + dgV x) % 10 = dgV x := by omega
      rw [e1, e2, ← ih, dgB_dgV hx]
/-- zeros ahead are left out -/
theorem drop_zeros (l : List UInt8) : numB (l.dropWhile (· == 48)) = numB l := by
  induction l with
  | nil => rfl
  | cons b r ih =>
    by_cases h : b = 48
    · subst h
      rw [show List.dropWhile (· == 48) ((48 : UInt8) :: r) = r.dropWhile (· == 48) by simp, ih]
      have := numB_app [48] r
      rw [show [(48 : UInt8)] ++ r = 48 :: r from rfl] at this
      rw [this, show numB [48] = 0 from rfl]; omega
    · rw [show List.dropWhile (· == 48) (b :: r) = b :: r by simp [h]]
theorem drop_head (l : List UInt8) : ∀ b, (l.dropWhile (· == 48)).head? = some b → b ≠ 48 := fun b hb => by
  have := List.head?_dropWhile_not (· == (48 : UInt8)) l
  rw [hb] at this
  simpa using this
theorem drop_dec {l : List UInt8} (h : ∀ b ∈ l, isDg b) : l.dropWhile (· == 48) = dec (numB l) := by
  have := dec_of _ (l.dropWhile (· == 48)) rfl (fun b hb => h b ((List.dropWhile_suffix _).mem hb)) (drop_head l)
  rw [drop_zeros] at this
  exact this
/-- nine digits -/
def pad : Nat → Nat → List UInt8
  | 0, _ => []
  | k + 1, x => dgB (x / 10 ^ k % 10) :: pad k x
theorem pad_is : ∀ (k x : Nat), ∀ b ∈ pad k x, isDg b
  | 0, x, b, hb => by cases hb
  | k + 1, x, b, hb => by
    rcases List.mem_cons.1 hb with rfl | h
    · exact dgB_is (Nat.mod_lt _ (by decide))
    · exact pad_is k x b h
theorem pad_len : ∀ (k x : Nat), (pad k x).length = k
  | 0, x => rfl
  | k + 1, x => by rw [pad, List.length_cons, pad_len k x]
theorem pad_val : ∀ (k x : Nat), numB (pad k x) = x % 10 ^ k
  | 0, x => by simp [pad, numB, Nat.mod_one]
  | k + 1, x => by
    have h := numB_app [dgB (x / 10 ^ k % 10)] (pad k x)
    rw [show [dgB (x / 10 ^ k % 10)] ++ pad k x = pad (k + 1) x from rfl] at h
    rw [h, pad_val k x, pad_len]
    have h5 : numB [dgB (x / 10 ^ k % 10)] = x / 10 ^ k % 10 := by
      have := numB_snoc [] (dgB (x / 10 ^ k % 10))
      rw [List.nil_append, dgV_dgB (Nat.mod_lt _ (by decide))] at this
      simpa [numB] using this
    rw [h5, Nat.pow_succ, Nat.mod_mul, Nat.mul_comm]; omega
/-- groups of nine digits, the least first -/
def valG : List Nat → Nat
  | [] => 0
  | x :: r => x + 1000000000 * valG r
def joinG : List Nat → List UInt8
  | [] => []
  | x :: r => joinG r ++ pad 9 x
theorem joinG_is : ∀ (l : List Nat), ∀ b ∈ joinG l, isDg b
  | [], b, hb => by cases hb
  | x :: r, b, hb => by
    rcases List.mem_append.1 hb with h | h
    · exact joinG_is r b h
    · exact pad_is 9 x b h
theorem joinG_val : ∀ (l : List Nat), (∀ x ∈ l, x < 1000000000) → numB (joinG l) = valG l
  | [], _ => rfl
  | x :: r, h => by
    have hx := h x List.mem_cons_self
    rw [joinG, numB_app, joinG_val r fun y hy => h y (List.mem_cons_of_mem _ hy), pad_val, pad_len, valG, Nat.mod_eq_of_lt (by exact hx)]
    omega
theorem joinG_len : ∀ (l : List Nat), (joinG l).length = 9 * l.length
  | [] => rfl
  | x :: r => by rw [joinG, List.length_append, joinG_len r, pad_len, List.length_cons]; omega
theorem valG_app (a b : List Nat) : valG (a ++ b) = valG a + 1000000000 ^ a.length * valG b := by
  induction a with
  | nil => simp [valG]
  | cons x r ih => rw [List.cons_append, valG, valG, ih, List.length_cons, Nat.pow_succ]; grind
theorem joinG_drop {l : List Nat} {i : Nat} (h : i < l.length) : joinG (l.drop i) = joinG (l.drop (i + 1)) ++ pad 9 l[i] := by
  rw [List.drop_eq_getElem_cons h, joinG]
end Go.Proofs.YtamghpnjdohnjaaDoor.Sx
