import Derived.Test.YtncbbbappadcfaaDoorMsgA
/- A plain law: pieces of messages that end with a colon. -/
set_option linter.unusedVariables false
namespace Go.Proofs.YtncbbbappadcfaaDoor.Sx
-- pieces that end with a colon
theorem endQ_none_app {w x : Bs} (h : ∀ b ∈ w, qst b = true) : endQ (w ++ x) = endQ x := endQ_app h
/-- a piece, its colon, and the rest -/
def cpl (x y : Bs) : Prop := ∀ r, normB (x ++ 58 :: r) = y ++ 58 :: normB r
theorem cpl_join {x y z w : Bs} (h1 : cpl x y) (h2 : ∀ r, normB (z ++ r) = w ++ normB r) : ∀ r, normB ((x ++ 58 :: z) ++ r) = (y ++ 58 :: w) ++ normB r := fun r => by
  rw [List.append_assoc, List.cons_append, h1, h2, List.append_assoc, List.cons_append]
theorem norm_colon (r : Bs) : normB (58 :: r) = 58 :: normB r := by
  rw [norm_oth (by simp) (by decide) (by decide), show othB 58 = 58 by decide]
/-- path bytes -/
theorem cpl_path {x : Bs} (h0 : x ≠ []) (hx : ∀ b ∈ x, pathB b = true) : cpl x (partB x) := fun r => by
  cases x with
  | nil => exact absurd rfl h0
  | cons c t =>
    have h := tw_app (p := pathB) (w := c :: t) (x := 58 :: r) hx (fun b hb => by simp at hb; subst hb; decide)
    rw [List.cons_append] at h ⊢
    rw [norm_path (hx c List.mem_cons_self), h.1, h.2, norm_colon]
/-- a number -/
theorem part_num {x : Bs} (h0 : x ≠ []) (hx : ∀ b ∈ x, wordB b = true) (hn : numB x = true) : partB x = [35] := by
  have h47 : ∀ b ∈ x, b ≠ 47 := fun b hb e => by have := hx b hb; rw [e] at this; revert this; decide
  unfold partB
  rw [base_id h47, if_neg h0]
  have := words_app (w := x) (x := []) h0 hx (fun b hb => by simp at hb)
  rw [List.append_nil, hn, wordsB] at this
  simpa using this
theorem part_word {x : Bs} (h0 : x ≠ []) (hx : ∀ b ∈ x, wordB b = true) (hn : numB x = false) : partB x = x := by
  have h47 : ∀ b ∈ x, b ≠ 47 := fun b hb e => by have := hx b hb; rw [e] at this; revert this; decide
  unfold partB
  rw [base_id h47, if_neg h0]
  have := words_app (w := x) (x := []) h0 hx (fun b hb => by simp at hb)
  rw [List.append_nil, hn, wordsB] at this
  simpa using this
theorem cpl_num {x : Bs} (h0 : x ≠ []) (hx : ∀ b ∈ x, wordB b = true) (hn : numB x = true) : cpl x [35] := by
  have := cpl_path h0 fun b hb => path_word (hx b hb)
  rwa [part_num h0 hx hn] at this
theorem num_digits {x : Bs} (hx : ∀ b ∈ x, digB b = true) : numB x = true := by
  unfold numB
  rw [List.all_eq_true.2 hx]; rfl
theorem dig_word {b : UInt8} (h : digB b = true) : wordB b = true := by
  have := u8_all (P := fun b => !(digB b) || wordB b) (by decide +kernel) b
  simpa [h] using this
theorem hex_word {b : UInt8} (h : hexB b = true) : wordB b = true := by
  have := u8_all (P := fun b => !(hexB b) || wordB b) (by decide +kernel) b
  simpa [h] using this
theorem cpl_digits {x : Bs} (h0 : x ≠ []) (hx : ∀ b ∈ x, digB b = true) : cpl x [35] := cpl_num h0 (fun b hb => dig_word (hx b hb)) (num_digits hx)
theorem cpl_hex {x : Bs} (h0 : x ≠ []) (hx : ∀ b ∈ x, hexB b = true) : cpl (48 :: 120 :: x) [35] := by
  refine cpl_num (by simp) ?_ ?_
  · intro b hb
    rcases List.mem_cons.1 hb with rfl | hb
    · decide
    rcases List.mem_cons.1 hb with rfl | hb
    · decide
    exact hex_word (hx b hb)
  · unfold numB
    have h2 : decide (2 < (48 :: 120 :: x).length) = true := by
      cases x with
      | nil => exact absurd rfl h0
      | cons a r => simp
    rw [h2]
    simp [List.all_eq_true.2 hx]
/-- behind a slash -/
theorem base_slash {x y : Bs} (hy : ∀ b ∈ y, b ≠ 47) : baseB (x ++ 47 :: y) = y := by
  unfold baseB
  have : (x ++ 47 :: y).reverse = y.reverse ++ 47 :: x.reverse := by simp
  rw [this]
  have h := (tw_app (p := fun b => b != 47) (w := y.reverse) (x := 47 :: x.reverse) (fun b hb => by simpa using hy b (by simpa using hb)) (fun b hb => by simp at hb; subst hb; decide)).1
  rw [h, List.reverse_reverse]
/-- quoted -/
theorem cpl_quoted {t : Bs} (ht : ∀ b ∈ t, qst b = true) : cpl (34 :: (t ++ [34])) [34, 34] := fun r => by
  have h : (t ++ 34 :: 58 :: r).dropWhile qst = 34 :: 58 :: r := (tw_app ht (fun b hb => by simp at hb; subst hb; decide)).2
  have he : endQ (t ++ 34 :: 58 :: r) = some 34 := by rw [endQ_app ht, endQ_cons (by decide)]
  have e : (34 :: (t ++ [34])) ++ 58 :: r = 34 :: (t ++ 34 :: 58 :: r) := by simp
  rw [e, norm_quo he, h]
  simp only [List.drop_succ_cons, List.drop_zero]
  rw [norm_colon]; rfl
/-- blanks ahead of a word -/
theorem cpl_blank {t x y : Bs} (h0 : t ≠ []) (ht : ∀ b ∈ t, blankB b = true) (hx : hd blankB (x ++ [58])) (h : cpl x y) : cpl (t ++ x) (32 :: y) := fun r => by
  cases t with
  | nil => exact absurd rfl h0
  | cons c t =>
    have hx' : hd blankB (x ++ 58 :: r) := by
      cases x with
      | nil => intro b hb; simp at hb; subst hb; decide
      | cons d y => exact fun b hb => hx b (by simpa using hb)
    have e := tw_app (p := blankB) (w := c :: t) (x := x ++ 58 :: r) ht hx'
    rw [List.append_assoc, List.cons_append] at *
    rw [norm_blank (ht c List.mem_cons_self), e.2, h]
    rfl
end Go.Proofs.YtncbbbappadcfaaDoor.Sx
