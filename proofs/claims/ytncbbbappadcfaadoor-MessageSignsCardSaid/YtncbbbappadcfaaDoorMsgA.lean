import Derived.Test.YtncbbbappadcfaaDoorUse
/- A plain law: the normal form of a message, and that normalising twice is normalising once. -/
set_option linter.unusedVariables false
namespace Go.Proofs.YtncbbbappadcfaaDoor.Sx
abbrev Bs := List UInt8
def inR (b : UInt8) (lo hi : Nat) : Bool := decide (lo ≤ b.toNat) && decide (b.toNat ≤ hi)
def digB (b : UInt8) : Bool := inR b 48 57
def hexB (b : UInt8) : Bool := digB b || (inR b 97 102 || inR b 65 70)
def wordB (b : UInt8) : Bool := inR b 97 122 || (inR b 65 90 || (inR b 48 57 || decide (b.toNat = 95)))
def pathB (b : UInt8) : Bool := wordB b || (decide (b.toNat = 46) || (decide (b.toNat = 45) || decide (b.toNat = 47)))
def blankB (b : UInt8) : Bool := decide (b.toNat = 32) || (decide (b.toNat = 9) || decide (b.toNat = 13))
def numB (l : Bs) : Bool :=
  l.all digB || (if decide (2 < l.length) && (l.take 2 == [48, 120] || l.take 2 == [48, 88]) then (l.drop 2).all hexB else decide (8 ≤ l.length) && (l.all hexB && l.any digB))
/-- what lies behind the last slash -/
def baseB (l : Bs) : Bs := (l.reverse.takeWhile (fun b => b != 47)).reverse
theorem dropW_lt {p : UInt8 → Bool} {b : UInt8} {r : Bs} (h : p b = true) : ((b :: r).dropWhile p).length < (b :: r).length := by
  rw [List.dropWhile_cons_of_pos h]
  have := (List.dropWhile_sublist p (l := r)).length_le
  simp only [List.length_cons]; omega
def wordsB : Bs → Bs
  | [] => []
  | b :: r => if h : wordB b = true then
      (if numB ((b :: r).takeWhile wordB) then [35] else (b :: r).takeWhile wordB) ++ wordsB ((b :: r).dropWhile wordB)
    else b :: wordsB r
termination_by l => l.length
decreasing_by
  · exact dropW_lt h
  · simp
def partB (l : Bs) : Bs := if baseB l = [] then [47] else wordsB (baseB l)
/-- how long the quoted text is with which this begins; 0 if it begins with none -/
def qst (b : UInt8) : Bool := b != 34 && b != 10
def quoB : Bs → Nat
  | [] => 0
  | c :: r => if c = 34 then (match r.dropWhile qst with
      | d :: _ => if d = 34 then (r.takeWhile qst).length + 2 else 0
      | [] => 0) else 0
def othB (c : UInt8) : UInt8 := if decide (c.toNat = 10) || inR c 33 126 then c else 63
def normB : Bs → Bs
  | [] => []
  | c :: r => if 0 < quoB (c :: r) then 34 :: 34 :: normB ((c :: r).drop (quoB (c :: r)))
    else if h : pathB c = true then partB ((c :: r).takeWhile pathB) ++ normB ((c :: r).dropWhile pathB)
    else if h : blankB c = true then 32 :: normB ((c :: r).dropWhile blankB)
    else othB c :: normB r
termination_by l => l.length
decreasing_by
  · simp only [List.length_drop, List.length_cons]; omega
  · exact dropW_lt h
  · exact dropW_lt h
  · simp
def normalB (l : Bs) : Bs := normB (l.take 512)
-- bytes
theorem u8_all {P : UInt8 → Bool} (h : (List.range 256).all (fun n => P (UInt8.ofNat n)) = true) (b : UInt8) : P b = true := by
  have := List.all_eq_true.1 h b.toNat (by simp [b.toNat_lt])
  simpa using this
theorem path_word {b : UInt8} (h : wordB b = true) : pathB b = true := by simp [pathB, h]
theorem path_quo {b : UInt8} (h : pathB b = true) : qst b = true := by
  have := u8_all (P := fun b => !(pathB b) || qst b) (by decide +kernel) b
  simpa [h] using this
theorem path_blank {b : UInt8} (h : pathB b = true) : blankB b = false := by
  have := u8_all (P := fun b => !(pathB b) || !(blankB b)) (by decide +kernel) b
  simpa [h] using this
theorem path_oth {b : UInt8} (h : pathB b = true) : othB b = b := by
  have := u8_all (P := fun b => !(pathB b) || (othB b == b)) (by decide +kernel) b
  simpa [h] using this
theorem blank_quo {b : UInt8} (h : blankB b = true) : qst b = true := by
  have := u8_all (P := fun b => !(blankB b) || qst b) (by decide +kernel) b
  simpa [h] using this
theorem oth_oth (b : UInt8) : othB (othB b) = othB b := by
  have := u8_all (P := fun b => othB (othB b) == othB b) (by decide +kernel) b
  simpa using this
theorem oth_path {b : UInt8} (h : pathB b = false) : pathB (othB b) = false := by
  have := u8_all (P := fun b => pathB b || !(pathB (othB b))) (by decide +kernel) b
  simpa [h] using this
theorem oth_blank {b : UInt8} (h : blankB b = false) : blankB (othB b) = false := by
  have := u8_all (P := fun b => blankB b || !(blankB (othB b))) (by decide +kernel) b
  simpa [h] using this
theorem oth_qst (b : UInt8) : qst (othB b) = qst b := by
  have := u8_all (P := fun b => qst (othB b) == qst b) (by decide +kernel) b
  simpa using this
theorem oth_id {b : UInt8} (h : qst b = false) : othB b = b := by
  have := u8_all (P := fun b => qst b || (othB b == b)) (by decide +kernel) b
  simpa [h] using this
-- the first byte that ends a quoted text: none, a quote, or a line's end
def endQ (l : Bs) : Option UInt8 := (l.dropWhile qst).head?
theorem quo_pos {r : Bs} (h : endQ r = some 34) : quoB (34 :: r) = (r.takeWhile qst).length + 2 := by
  unfold endQ at h
  simp only [quoB, if_true]
  split
  · rename_i d t e; rw [e] at h; simp at h; subst h; simp
  · rename_i e; rw [e] at h; simp at h
theorem quo_zero {c : UInt8} {r : Bs} (h : ¬ (c = 34 ∧ endQ r = some 34)) : quoB (c :: r) = 0 := by
  simp only [quoB]
  split
  · rename_i hc
    unfold endQ at h
    split
    · rename_i d t e
      rw [e] at h
      split
      · rename_i hd; exact absurd ⟨hc, by simp [hd]⟩ h
      · rfl
    · rfl
  · rfl
theorem norm_quo {r : Bs} (h : endQ r = some 34) : normB (34 :: r) = 34 :: 34 :: normB ((r.dropWhile qst).drop 1) := by
  rw [normB, if_pos (by rw [quo_pos h]; omega), quo_pos h]
  have e := List.takeWhile_append_dropWhile (p := qst) (l := r)
  have h1 : r.drop (r.takeWhile qst).length = r.dropWhile qst := by
    conv => lhs; rw [← e]
    rw [List.takeWhile_append_dropWhile]
    conv => lhs; arg 2; rw [← e]
    exact List.drop_left
  have h2 : (34 :: r).drop ((r.takeWhile qst).length + 2) = (r.drop (r.takeWhile qst).length).drop 1 := by
    rw [List.drop_drop]; rfl
  rw [h2, h1]
theorem norm_path {c : UInt8} {r : Bs} (h : pathB c = true) : normB (c :: r) = partB ((c :: r).takeWhile pathB) ++ normB ((c :: r).dropWhile pathB) := by
  have hq := path_quo h
  rw [normB, if_neg (by rw [quo_zero (fun ⟨e, _⟩ => by subst e; simp [qst] at hq)]; omega), dif_pos h]
theorem norm_blank {c : UInt8} {r : Bs} (h : blankB c = true) : normB (c :: r) = 32 :: normB ((c :: r).dropWhile blankB) := by
  have hq := blank_quo h
  have hp : ¬ pathB c = true := fun e => by rw [path_blank e] at h; cases h
  rw [normB, if_neg (by rw [quo_zero (fun ⟨e, _⟩ => by subst e; simp [qst] at hq)]; omega), dif_neg hp, dif_pos h]
theorem norm_oth {c : UInt8} {r : Bs} (h1 : ¬ (c = 34 ∧ endQ r = some 34)) (h2 : pathB c = false) (h3 : blankB c = false) : normB (c :: r) = othB c :: normB r := by
  rw [normB, if_neg (by rw [quo_zero h1]; omega), dif_neg (by simp [h2]), dif_neg (by simp [h3])]
/-- the four ways of a message that is not empty -/
theorem norm_ind {P : Bs → Prop} (h0 : P []) (hq : ∀ r, endQ r = some 34 → P ((r.dropWhile qst).drop 1) → P (34 :: r))
    (hp : ∀ c r, pathB c = true → P ((c :: r).dropWhile pathB) → P (c :: r)) (hb : ∀ c r, blankB c = true → P ((c :: r).dropWhile blankB) → P (c :: r))
    (ho : ∀ c r, ¬ (c = 34 ∧ endQ r = some 34) → pathB c = false → blankB c = false → P r → P (c :: r)) : ∀ n (l : Bs), l.length ≤ n → P l
  | n, [], _ => h0
  | 0, c :: r, h => by simp at h
  | n + 1, c :: r, h => by
    have ih := norm_ind h0 hq hp hb ho n
    simp only [List.length_cons] at h
    by_cases h1 : c = 34 ∧ endQ r = some 34
    · obtain ⟨rfl, h1⟩ := h1
      refine hq r h1 (ih _ ?_)
      have := (List.dropWhile_sublist qst (l := r)).length_le
      simp only [List.length_drop]; omega
    · cases h2 : pathB c with
      | true => exact hp c r h2 (ih _ (by have := dropW_lt (r := r) h2; simp only [List.length_cons] at this; omega))
      | false =>
        cases h3 : blankB c with
        | true => exact hb c r h3 (ih _ (by have := dropW_lt (r := r) h3; simp only [List.length_cons] at this; omega))
        | false => exact ho c r h1 h2 h3 (ih _ (by omega))
-- lengths
theorem words_len : ∀ n (l : Bs), l.length ≤ n → (wordsB l).length ≤ l.length
  | n, [], _ => by simp [wordsB]
  | 0, c :: r, h => by simp at h
  | n + 1, c :: r, h => by
    simp only [List.length_cons] at h
    rw [wordsB]
    split
    · rename_i hw
      have h1 := dropW_lt (r := r) hw
      have h2 := words_len n ((c :: r).dropWhile wordB) (by simp only [List.length_cons] at h1; omega)
      have h3 := congrArg List.length (List.takeWhile_append_dropWhile (p := wordB) (l := c :: r))
      rw [List.length_append] at h3 ⊢
      split <;> simp only [List.length_cons, List.length_nil] at * <;> omega
    · have h2 := words_len n r (by omega)
      simp only [List.length_cons]; omega
theorem base_len (l : Bs) : (baseB l).length ≤ l.length := by
  unfold baseB
  have := (List.takeWhile_sublist (fun b => b != 47) (l := l.reverse)).length_le
  simpa using this
theorem part_len {l : Bs} (h : l ≠ []) : (partB l).length ≤ l.length := by
  unfold partB
  split
  · cases l
    · exact absurd rfl h
    · simp
  · have := words_len _ (baseB l) (Nat.le_refl _)
    have := base_len l
    omega
theorem norm_len : ∀ l : Bs, (normB l).length ≤ l.length := fun l => by
  refine norm_ind (P := fun l => (normB l).length ≤ l.length) (by simp [normB]) ?_ ?_ ?_ ?_ l.length l (Nat.le_refl _)
  · intro r h ih
    rw [norm_quo h]
    have h3 := congrArg List.length (List.takeWhile_append_dropWhile (p := qst) (l := r))
    have h4 : (r.dropWhile qst).length ≠ 0 := fun e => by
      rw [endQ, List.length_eq_zero_iff.1 e] at h; simp at h
    simp only [List.length_append, List.length_cons, List.length_drop] at *
    omega
  · intro c r h ih
    rw [norm_path h]
    have h3 := congrArg List.length (List.takeWhile_append_dropWhile (p := pathB) (l := c :: r))
    have h4 := part_len (l := (c :: r).takeWhile pathB) (by rw [List.takeWhile_cons_of_pos h]; simp)
    simp only [List.length_append, List.length_cons] at *
    omega
  · intro c r h ih
    rw [norm_blank h]
    have h1 := dropW_lt (r := r) h
    simp only [List.length_cons] at *
    omega
  · intro c r h1 h2 h3 ih
    rw [norm_oth h1 h2 h3]
    simp only [List.length_cons]; omega
-- normalising twice
def hd (p : UInt8 → Bool) (l : Bs) : Prop := ∀ b, l.head? = some b → p b = false
theorem oth_34 {c : UInt8} (h : othB c = 34) : c = 34 := by
  have := u8_all (P := fun b => !(othB b == 34) || b == 34) (by decide +kernel) c
  simpa [h] using this
inductive OutW : Bs → Prop
  | last (p : Bs) : (∀ b ∈ p, pathB b = true ∧ b ≠ 47) → wordsB p = p → OutW p
  | more (p q : Bs) : (∀ b ∈ p, pathB b = true ∧ b ≠ 47) → wordsB p = p → OutW q → OutW (p ++ 35 :: q)
theorem tw_app {p : UInt8 → Bool} : ∀ {w x : Bs}, (∀ b ∈ w, p b = true) → hd p x → (w ++ x).takeWhile p = w ∧ (w ++ x).dropWhile p = x
  | [], [], _, _ => ⟨rfl, rfl⟩
  | [], c :: x, _, h => by
    have h := h c rfl
    rw [List.nil_append, List.takeWhile_cons_of_neg (by simp [h]), List.dropWhile_cons_of_neg (by simp [h])]; exact ⟨rfl, rfl⟩
  | b :: w, x, hw, h => by
    have h1 := hw b List.mem_cons_self
    have h2 := tw_app (w := w) (fun b hb => hw b (List.mem_cons_of_mem _ hb)) h
    rw [List.cons_append, List.takeWhile_cons_of_pos h1, List.dropWhile_cons_of_pos h1, h2.1, h2.2]; exact ⟨rfl, rfl⟩
theorem hd_drop (p : UInt8 → Bool) (l : Bs) : hd p (l.dropWhile p) := fun b hb => by
  have := List.head?_dropWhile_not p l
  rw [hb] at this
  simpa using this
theorem words_app {w x : Bs} (h0 : w ≠ []) (hw : ∀ b ∈ w, wordB b = true) (hx : hd wordB x) : wordsB (w ++ x) = (if numB w then [35] else w) ++ wordsB x := by
  cases w with
  | nil => exact absurd rfl h0
  | cons c r =>
    have h := tw_app hw hx
    rw [List.cons_append] at h ⊢
    rw [wordsB, dif_pos (hw c List.mem_cons_self), h.1, h.2]
theorem words_cons {c : UInt8} {r : Bs} (h : wordB c = false) : wordsB (c :: r) = c :: wordsB r := by
  rw [wordsB, dif_neg (by simp [h])]
theorem mem_tw {p : UInt8 → Bool} : ∀ {l : Bs} {b : UInt8}, b ∈ l.takeWhile p → p b = true
  | [], _, h => by simp at h
  | c :: r, b, h => by
    by_cases hc : p c = true
    · rw [List.takeWhile_cons_of_pos hc] at h
      rcases List.mem_cons.1 h with e | e
      · rw [e]; exact hc
      · exact mem_tw e
    · rw [List.takeWhile_cons_of_neg hc] at h; simp at h
theorem out_words : ∀ n (l : Bs), l.length ≤ n → (∀ b ∈ l, pathB b = true ∧ b ≠ 47) → OutW (wordsB l)
  | n, [], _, _ => by rw [wordsB]; exact .last [] (by simp) (by rw [wordsB])
  | 0, c :: r, h, _ => by simp at h
  | n + 1, c :: r, h, hp => by
    simp only [List.length_cons] at h
    cases hw : wordB c with
    | false =>
      rw [words_cons hw]
      have ih := out_words n r (by omega) (fun b hb => hp b (List.mem_cons_of_mem _ hb))
      have hc := hp c List.mem_cons_self
      generalize wordsB r = W at ih
      cases ih with
      | last p h1 h2 => exact .last (c :: W) (fun b hb => (List.mem_cons.1 hb).elim (fun e => e ▸ hc) (h1 b)) (by rw [words_cons hw, h2])
      | more p q h1 h2 h3 => exact .more (c :: p) q (fun b hb => (List.mem_cons.1 hb).elim (fun e => e ▸ hc) (h1 b)) (by rw [words_cons hw, h2]) h3
    | true =>
      have h1 := dropW_lt (r := r) hw
      have e := List.takeWhile_append_dropWhile (p := wordB) (l := c :: r)
      have ht : (c :: r).takeWhile wordB ≠ [] := by rw [List.takeWhile_cons_of_pos hw]; simp
      have hmt : ∀ b ∈ (c :: r).takeWhile wordB, wordB b = true := fun b hb => mem_tw hb
      have hmp : ∀ b ∈ (c :: r).takeWhile wordB, pathB b = true ∧ b ≠ 47 := fun b hb => hp b ((List.takeWhile_sublist _).subset hb)
      have hd1 := hd_drop wordB (c :: r)
      have ih := out_words n ((c :: r).dropWhile wordB) (by simp only [List.length_cons] at h1; omega) (fun b hb => hp b ((List.dropWhile_sublist _).subset hb))
      rw [← e, words_app ht hmt hd1]
      generalize (c :: r).takeWhile wordB = w at *
      generalize (c :: r).dropWhile wordB = x at *
      cases hn : numB w with
      | true =>
        simp only [if_true]
        exact .more [] (wordsB x) (by simp) (by rw [wordsB]) ih
      | false =>
        simp only [Bool.false_eq_true, if_false]
        have hdx : hd wordB (wordsB x) := by
          cases x with
          | nil => rw [wordsB]; exact hd1
          | cons d y =>
            have := hd1 d rfl
            rw [words_cons this]
            intro b hb; simp at hb; rw [← hb]; exact this
        generalize wordsB x = W at ih hdx
        cases ih with
        | last p h1 h2 => exact .last (w ++ W) (fun b hb => (List.mem_append.1 hb).elim (hmp b) (h1 b)) (by rw [words_app ht hmt hdx, h2, hn]; rfl)
        | more p q h1 h2 h3 =>
          rw [← List.append_assoc]
          have hdp : hd wordB p := by
            cases p with
            | nil => intro b hb; simp at hb
            | cons d y => exact fun b hb => hdx b (by simpa using hb)
          exact .more (w ++ p) q (fun b hb => (List.mem_append.1 hb).elim (hmp b) (h1 b)) (by rw [words_app ht hmt hdp, h2, hn]; rfl) h3
theorem base_id {p : Bs} (h : ∀ b ∈ p, b ≠ 47) : baseB p = p := by
  unfold baseB
  have := (tw_app (p := fun b => b != 47) (w := p.reverse) (x := []) (fun b hb => by simpa using h b (by simpa using hb)) (fun b hb => by simp at hb)).1
  rw [List.append_nil] at this
  rw [this, List.reverse_reverse]
theorem norm_out {W : Bs} (hW : OutW W) {X : Bs} (hX : hd pathB X) : normB (W ++ X) = W ++ normB X := by
  have run : ∀ {p Y : Bs}, (∀ b ∈ p, pathB b = true ∧ b ≠ 47) → wordsB p = p → hd pathB Y → normB (p ++ Y) = p ++ normB Y := fun {p Y} h1 h2 hY => by
    cases p with
    | nil => rfl
    | cons c r =>
      have h := tw_app (fun b hb => (h1 b hb).1) hY
      rw [List.cons_append] at h ⊢
      rw [norm_path (h1 c List.mem_cons_self).1, h.1, h.2]
      have : partB (c :: r) = c :: r := by
        unfold partB
        rw [base_id fun b hb => (h1 b hb).2, if_neg (by simp), h2]
      rw [this]
  induction hW with
  | last p h1 h2 => exact run h1 h2 hX
  | more p q h1 h2 _ ih =>
    rw [List.append_assoc, List.cons_append, run h1 h2 (fun b hb => by simp at hb; subst hb; decide), norm_oth (by simp) (by decide) (by decide), ih, List.append_assoc]
    rfl
theorem base_mem {l : Bs} {b : UInt8} (h : b ∈ baseB l) : b ∈ l ∧ b ≠ 47 := by
  unfold baseB at h
  rw [List.mem_reverse] at h
  have h1 := mem_tw h
  exact ⟨by simpa using (List.takeWhile_sublist _).subset h, by simpa using h1⟩
theorem norm_part {t X : Bs} (ht : ∀ b ∈ t, pathB b = true) (hX : hd pathB X) : normB (partB t ++ X) = partB t ++ normB X := by
  unfold partB
  split
  · have h := tw_app (p := pathB) (w := [47]) (x := X) (by simp [pathB]) hX
    rw [List.singleton_append] at h ⊢
    rw [norm_path (by decide), h.1, h.2, show partB [47] = [47] by decide]
  · exact norm_out (out_words _ _ (Nat.le_refl _) fun b hb => ⟨ht b (base_mem hb).1, (base_mem hb).2⟩) hX
theorem out_q {W : Bs} (h : OutW W) : ∀ b ∈ W, qst b = true := by
  induction h with
  | last p h1 _ => exact fun b hb => path_quo (h1 b hb).1
  | more p q h1 _ _ ih =>
    intro b hb
    simp only [List.mem_append, List.mem_cons] at hb
    rcases hb with hb | rfl | hb
    · exact path_quo (h1 b hb).1
    · decide
    · exact ih b hb
theorem part_q {t : Bs} (ht : ∀ b ∈ t, pathB b = true) : ∀ b ∈ partB t, qst b = true := by
  unfold partB
  split
  · simp [qst]
  · exact out_q (out_words _ _ (Nat.le_refl _) fun b hb => ⟨ht b (base_mem hb).1, (base_mem hb).2⟩)
theorem endQ_app {w x : Bs} (h : ∀ b ∈ w, qst b = true) : endQ (w ++ x) = endQ x := by
  induction w with
  | nil => rfl
  | cons c r ih =>
    have h1 := h c List.mem_cons_self
    have ih := ih fun b hb => h b (List.mem_cons_of_mem _ hb)
    unfold endQ at *
    rw [List.cons_append, List.dropWhile_cons_of_pos h1]; exact ih
theorem endQ_tw {p : UInt8 → Bool} (hp : ∀ b, p b = true → qst b = true) (l : Bs) : endQ l = endQ (l.dropWhile p) := by
  conv => lhs; rw [← List.takeWhile_append_dropWhile (p := p) (l := l)]
  exact endQ_app fun b hb => hp b (mem_tw hb)
theorem endQ_cons {c : UInt8} {r : Bs} (h : qst c = false) : endQ (c :: r) = some c := by
  unfold endQ
  rw [List.dropWhile_cons_of_neg (by simp [h])]; rfl
theorem norm_endQ : ∀ l : Bs, endQ (normB l) = endQ l := fun l => by
  refine norm_ind (P := fun l => endQ (normB l) = endQ l) (by simp [normB]) ?_ ?_ ?_ ?_ l.length l (Nat.le_refl _)
  · intro r h _
    rw [norm_quo h, endQ_cons (by decide), endQ_cons (by decide)]
  · intro c r h ih
    rw [norm_path h, endQ_app (part_q fun b hb => mem_tw hb), ih, ← endQ_tw fun b => path_quo]
  · intro c r h ih
    rw [norm_blank h, endQ_tw (p := blankB) (l := c :: r) fun b => blank_quo, ← ih]
    exact endQ_app (w := [32]) (by decide)
  · intro c r h1 h2 h3 ih
    rw [norm_oth h1 h2 h3]
    cases hq : qst c with
    | true => rw [← List.singleton_append, endQ_app (by simp [oth_qst, hq]), ih, ← List.singleton_append, endQ_app (by simp [hq])]
    | false => rw [oth_id hq, endQ_cons hq, endQ_cons hq]
theorem norm_hdp {l : Bs} (h : hd pathB l) : hd pathB (normB l) := by
  cases l with
  | nil => rw [normB]; exact h
  | cons c r =>
    have h := h c rfl
    by_cases h1 : c = 34 ∧ endQ r = some 34
    · obtain ⟨rfl, h1⟩ := h1
      rw [norm_quo h1]; intro b hb; simp at hb; subst hb; decide
    · cases h3 : blankB c with
      | true => rw [norm_blank h3]; intro b hb; simp at hb; subst hb; decide
      | false => rw [norm_oth h1 h h3]; intro b hb; simp at hb; subst hb; exact oth_path h
theorem out_hdb {W : Bs} (h : OutW W) (hn : W ≠ []) {X : Bs} : hd blankB (W ++ X) := by
  cases h with
  | last p h1 _ =>
    cases W with
    | nil => exact absurd rfl hn
    | cons c r => intro b hb; simp at hb; subst hb; exact path_blank (h1 _ List.mem_cons_self).1
  | more p q h1 _ _ =>
    cases p with
    | nil => intro b hb; simp at hb; subst hb; decide
    | cons c r => intro b hb; simp at hb; subst hb; exact path_blank (h1 _ List.mem_cons_self).1
theorem words_nil {l : Bs} (h : wordsB l = []) : l = [] := by
  cases l with
  | nil => rfl
  | cons c r =>
    rw [wordsB] at h
    split at h
    · rename_i hw
      rw [List.append_eq_nil_iff] at h
      have h := h.1
      split at h
      · cases h
      · rw [List.takeWhile_cons_of_pos hw] at h; cases h
    · cases h
theorem norm_hdb {l : Bs} (h : hd blankB l) : hd blankB (normB l) := by
  cases l with
  | nil => rw [normB]; exact h
  | cons c r =>
    have h := h c rfl
    by_cases h1 : c = 34 ∧ endQ r = some 34
    · obtain ⟨rfl, h1⟩ := h1
      rw [norm_quo h1]; intro b hb; simp at hb; subst hb; decide
    · cases h3 : pathB c with
      | true =>
        rw [norm_path h3]
        unfold partB
        split
        · intro b hb; simp at hb; subst hb; decide
        · rename_i hne
          exact out_hdb (out_words _ _ (Nat.le_refl _) fun b hb => ⟨mem_tw (base_mem hb).1, (base_mem hb).2⟩) (fun e => hne (words_nil e))
      | false => rw [norm_oth h1 h3 h]; intro b hb; simp at hb; subst hb; exact oth_blank h
theorem dropW_hd {p : UInt8 → Bool} {l : Bs} (h : hd p l) : l.dropWhile p = l := by
  cases l with
  | nil => rfl
  | cons c r => rw [List.dropWhile_cons_of_neg (by simp [h c rfl])]
theorem norm_norm : ∀ l : Bs, normB (normB l) = normB l := fun l => by
  refine norm_ind (P := fun l => normB (normB l) = normB l) (by simp [normB]) ?_ ?_ ?_ ?_ l.length l (Nat.le_refl _)
  · intro r h ih
    rw [norm_quo h, norm_quo (endQ_cons (by decide))]
    have : (34 :: normB ((r.dropWhile qst).drop 1)).dropWhile qst = 34 :: normB ((r.dropWhile qst).drop 1) := List.dropWhile_cons_of_neg (by decide)
    rw [this]
    simp only [List.drop_succ_cons, List.drop_zero]
    rw [ih]
  · intro c r h ih
    rw [norm_path h, norm_part (fun b hb => mem_tw hb) (norm_hdp (hd_drop _ _)), ih]
  · intro c r h ih
    rw [norm_blank h, norm_blank (by decide), List.dropWhile_cons_of_pos (by decide), dropW_hd (norm_hdb (hd_drop _ _)), ih]
  · intro c r h1 h2 h3 ih
    rw [norm_oth h1 h2 h3, norm_oth (fun ⟨e, h⟩ => h1 ⟨oth_34 e, by rw [← h, norm_endQ]⟩) (oth_path h2) (oth_blank h3), oth_oth, ih]
theorem normal_twice (l : Bs) : normalB (normalB l) = normalB l ∧ (normalB l).length ≤ l.length ∧ (normalB l).length ≤ 512 := by
  unfold normalB
  have h1 := norm_len (l.take 512)
  have h2 : (l.take 512).length = min 512 l.length := List.length_take
  refine ⟨?_, by omega, by omega⟩
  rw [List.take_of_length_le (by omega), norm_norm]
end Go.Proofs.YtncbbbappadcfaaDoor.Sx
