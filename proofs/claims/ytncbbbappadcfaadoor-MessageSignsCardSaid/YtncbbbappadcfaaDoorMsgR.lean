import Derived.Test.YtncbbbappadcfaaDoorMsgI
import Derived.Test.YtncbbbappadcfaaDoorSub
/- Messages: how signatures are compared; that this is a total order. -/
namespace Go.Proofs.YtncbbbappadcfaaDoor.Sx
open Go Go.RowKit
set_option linter.unusedVariables false
set_option linter.unusedSimpArgs false
set_option maxRecDepth 100000
set_option maxHeartbeats 8000000
attribute [local congr] fin_congr finG_congr stepG_congr step1_congr runOps_congr brv_congr obl_congr condK_congr LoopK_congr seqK_congr CutK_congr vc_congr DrawK_congr regK_congr CallK_congr AskK_congr newK_congr retC_congr ret1_congr retK_congr outV_congr closeK_congr genR_congr appR_congr finD_congr finGD_congr stepGD_congr stepD_congr CallK0_congr runD_congr okR_congr CallS_congr vcX_congr
attribute [local congr] Stop_congr
structure Cmp {α : Type} (c : α → α → Int) : Prop where
  anti : ∀ a b, c a b = - c b a
  zero : ∀ a b, c a b = 0 ↔ a = b
  trans : ∀ a b d, c a b < 0 → c b d < 0 → c a d < 0
  lo : ∀ a b, -1 ≤ c a b
def lexL {α : Type} (c : α → α → Int) : List α → List α → Int
  | [], [] => 0
  | [], _ :: _ => -1
  | _ :: _, [] => 1
  | a :: l, b :: m => if c a b = 0 then lexL c l m else c a b
theorem Cmp.lex {α : Type} {c : α → α → Int} (h : Cmp c) : Cmp (lexL c) where
  anti := fun l => by
    induction l with
    | nil => intro m; cases m <;> simp [lexL]
    | cons a l ih =>
      intro m
      cases m with
      | nil => simp [lexL]
      | cons b m =>
        simp only [lexL]
        have h1 := h.anti a b
        by_cases e : c a b = 0
        · rw [if_pos e, if_pos (by omega), ih m]
        · rw [if_neg e, if_neg (by omega), h1]
  zero := fun l => by
    induction l with
    | nil => intro m; cases m <;> simp [lexL]
    | cons a l ih =>
      intro m
      cases m with
      | nil => simp [lexL]
      | cons b m =>
        simp only [lexL]
        by_cases e : c a b = 0
        · rw [if_pos e, ih m, (h.zero a b).1 e]; simp
        · rw [if_neg e]
          have : a ≠ b := fun x => e ((h.zero a b).2 x)
          simp [e, this]
  trans := fun l => by
    induction l with
    | nil =>
      intro m n h1 h2
      cases n with
      | nil => cases m <;> simp [lexL] at h1 h2
      | cons d n => simp [lexL]
    | cons a l ih =>
      intro m n h1 h2
      cases m with
      | nil => simp [lexL] at h1
      | cons b m =>
        cases n with
        | nil => simp [lexL] at h2
        | cons d n =>
          simp only [lexL] at h1 h2 ⊢
          by_cases e1 : c a b = 0
          · rw [if_pos e1] at h1
            rw [(h.zero a b).1 e1]
            by_cases e2 : c b d = 0
            · rw [if_pos e2] at h2 ⊢; exact ih m n h1 h2
            · rw [if_neg e2] at h2 ⊢; exact h2
          · rw [if_neg e1] at h1
            by_cases e2 : c b d = 0
            · rw [← (h.zero b d).1 e2, if_neg e1]; exact h1
            · rw [if_neg e2] at h2
              have := h.trans a b d h1 h2
              rw [if_neg (by omega)]; exact this
  lo := fun l => by
    induction l with
    | nil => intro m; cases m <;> simp [lexL]
    | cons a l ih =>
      intro m
      cases m with
      | nil => simp [lexL]
      | cons b m =>
        simp only [lexL]
        split
        · exact ih m
        · exact h.lo a b
def pairC {α β : Type} (c : α → α → Int) (d : β → β → Int) (x y : α × β) : Int := if c x.1 y.1 = 0 then d x.2 y.2 else c x.1 y.1
theorem Cmp.pair {α β : Type} {c : α → α → Int} {d : β → β → Int} (h : Cmp c) (k : Cmp d) : Cmp (pairC c d) where
  anti := fun x y => by
    simp only [pairC]
    have h1 := h.anti x.1 y.1
    have h2 := k.anti x.2 y.2
    by_cases e : c x.1 y.1 = 0
    · rw [if_pos e, if_pos (by omega), h2]
    · rw [if_neg e, if_neg (by omega), h1]
  zero := fun x y => by
    simp only [pairC]
    have h1 := h.zero x.1 y.1
    have h2 := k.zero x.2 y.2
    by_cases e : c x.1 y.1 = 0
    · rw [if_pos e, h2, Prod.ext_iff]; simp [h1.1 e]
    · rw [if_neg e, Prod.ext_iff]
      exact ⟨fun h => absurd h e, fun h => absurd (h1.2 h.1) e⟩
  trans := fun x y z g1 g2 => by
    simp only [pairC] at g1 g2 ⊢
    by_cases e1 : c x.1 y.1 = 0
    · rw [if_pos e1] at g1
      rw [(h.zero _ _).1 e1]
      by_cases e2 : c y.1 z.1 = 0
      · rw [if_pos e2] at g2 ⊢; exact k.trans _ _ _ g1 g2
      · rw [if_neg e2] at g2 ⊢; exact g2
    · rw [if_neg e1] at g1
      by_cases e2 : c y.1 z.1 = 0
      · rw [← (h.zero _ _).1 e2, if_neg e1]; exact g1
      · rw [if_neg e2] at g2
        have := h.trans _ _ _ g1 g2
        rw [if_neg (by omega)]; exact this
  lo := fun x y => by
    simp only [pairC]
    split
    · exact k.lo _ _
    · exact h.lo _ _
theorem Cmp.hi {α : Type} {c : α → α → Int} (h : Cmp c) (a b : α) : c a b ≤ 1 := by
  have h1 := h.anti a b
  have h2 := h.lo b a
  omega
def c8 (a b : UInt8) : Int := if a < b then -1 else if b < a then 1 else 0
theorem c8_nat (a b : UInt8) : c8 a b = if a.toNat < b.toNat then -1 else if b.toNat < a.toNat then 1 else 0 := by
  simp only [c8, UInt8.lt_iff_toNat_lt]
theorem cmp8 : Cmp c8 where
  anti := fun a b => by rw [c8_nat, c8_nat]; (repeat' split) <;> omega
  zero := fun a b => by
    rw [c8_nat, ← UInt8.toNat_inj]; (repeat' split) <;> omega
  trans := fun a b d h1 h2 => by
    rw [c8_nat] at h1 h2 ⊢
    split at h1 <;> split at h2 <;> (repeat' split) <;> (try split at h1) <;> (try split at h2) <;> omega
  lo := fun a b => by rw [c8_nat]; (repeat' split) <;> omega
/-- strings -/
def cmpS : Bst → Bst → Int := lexL c8
theorem cmp_S : Cmp cmpS := cmp8.lex
theorem cmpS_bytes : ∀ a b : Bst, Lib.compareBytes a b = cmpS a b
  | [], [] => rfl
  | [], _ :: _ => rfl
  | _ :: _, [] => rfl
  | a :: l, b :: m => by
    have ih := cmpS_bytes l m
    unfold cmpS at ih ⊢
    simp only [Lib.compareBytes, lexL, c8]
    by_cases h1 : a < b
    · simp [h1]
    · by_cases h2 : b < a
      · simp [h1, h2]
      · simp [h1, h2, ih]
theorem less_cmpS : ∀ a b : Bst, Op.bytesLess a b = decide (cmpS a b < 0)
  | [], [] => rfl
  | [], _ :: _ => rfl
  | _ :: _, [] => rfl
  | a :: l, b :: m => by
    have ih := less_cmpS l m
    unfold cmpS at ih ⊢
    simp only [Op.bytesLess, lexL, c8_nat]
    by_cases h1 : a.toNat < b.toNat
    · simp [h1, UInt8.lt_iff_toNat_lt]
    · by_cases h2 : b.toNat < a.toNat
      · have : a ≠ b := fun e => by subst e; omega
        simp [h1, h2, UInt8.lt_iff_toNat_lt, this]
      · have : a = b := UInt8.toNat_inj.1 (by omega)
        subst this
        simp [ih, UInt8.lt_irrefl]
def cmpL : List Bst → List Bst → Int := lexL cmpS
theorem cmp_L : Cmp cmpL := cmp_S.lex
def cmpG : Bst × List Bst → Bst × List Bst → Int := pairC cmpS cmpL
theorem cmp_G : Cmp cmpG := cmp_S.pair cmp_L
section
variable {M : Mem} {K : AV → Hp → Mem → Prop}
theorem strCmp_ok (a b : Bst) (hK : K (.ext (.int .i64 (cmpS a b))) [] M) : CallS Tryd.prog 39 [.ext (.string (bs a)), .ext (.string (bs b))] [] M [] K :=
  callS_of (us := [.string (bs a), .string (bs b)]) (fun w => (Tryd.strings_Compare (bs a) (bs b) w).mono fun e w' h => ⟨by rw [h.1]; rw [bs_data, bs_data, cmpS_bytes], h.2 ▸ Below.refl _ _⟩) hK
def coSt (M : Mem) (u1 u2 : Value) (n i : Nat) : St := { env := [(11, .ext (.int .i64 (i : Int))), (10, .ext (.int .i64 (n : Int))), (9, .ext u1), (4, .ext (.int .i64 0)), (1, .ext u2), (0, .ext u1)], hp := [], M := M, kb := 0, fx := [] }
theorem lexL_drop {α : Type} (c : α → α → Int) {l1 l2 : List α} {i : Nat} (h1 : i < l1.length) (h2 : i < l2.length) : lexL c (l1.drop i) (l2.drop i) = if c l1[i] l2[i] = 0 then lexL c (l1.drop (i + 1)) (l2.drop (i + 1)) else c l1[i] l2[i] := by
  rw [List.drop_eq_getElem_cons h1, List.drop_eq_getElem_cons h2]; rfl
def orSt (M : Mem) (k : Nat) (T : TypeId) (a b : Int) (i : Nat) : St := { env := [(8, .ext (.int .i64 (i : Int))), (7, .ext (.int .i64 2)), (6, .slo k 0 2 1), (3, .ext (.int .i64 0)), (2, .ext (.int .i64 0))], hp := [(k, T, [.ext (.int .i64 a), .ext (.int .i64 b)])], M := M, kb := k + 1, fx := [k] }
end
end Go.Proofs.YtncbbbappadcfaaDoor.Sx
