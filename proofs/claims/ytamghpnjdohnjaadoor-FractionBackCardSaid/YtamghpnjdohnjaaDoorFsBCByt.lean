/- Part 35 of the texts of this claim: a symbolic executor and contracts of functions. -/
import Derived.Test.YtamghpnjdohnjaaDoorFsBCBld
import Derived.Test.YtamghpnjdohnjaaDoorFsBCMap
import Derived.Laws.IdiomStrings
import Derived.Lib.BufferRead
namespace Go.Proofs.YtamghpnjdohnjaaDoor.Sx
open Go Go.RowKit
set_option linter.unusedVariables false
set_option linter.unusedSimpArgs false
theorem Gam.drew {c : Cx} {n : Nat} {s : St} {ρ : Rho} {a : Act} {w : World} (g : Gam c n s ρ a w) : Gam c n s ρ a w.drew :=
  { df := g.df, sz := g.sz, env := g.env, hp := fun k T cs b h1 h2 => by
      obtain ⟨⟨arr, r⟩, h3⟩ := g.hp k T cs b h1 h2
      exact ⟨⟨arr, ⟨r.there, r.size, r.le, r.is⟩⟩, h3⟩
    no := g.no, inj := g.inj, os := g.os, tape := g.tape, output := g.output, size := g.size, block := g.block, sub := g.sub, le := g.le, mf := g.mf, fix := g.fix, fx := g.fx, kl := g.kl, fr := g.fr }
theorem ask_strOwn {P : Program} {s : St} {K : St → Prop} {o : Oper} {S T E T0 : TypeId} {x : Operand} {k n : Nat} {l : List UInt8} (hop : o.op = .convert S T x) (hS : P.underlying S = some (.slice E)) (hE : P.underlying E = some (.int .u8)) (hT : P.underlying T = some .string)
    (hx : ev s x = .slo k 0 n 1) (hk : lkH s.hp k = some (T0, cE u8V l)) (hn : n = l.length) (hK : K (s.put o.dst (.ext (.string (bs l))))) : AskK P o s K := by
  intro c m a w Q hg hd
  obtain ⟨ρ, g⟩ := hg
  have hu := g.ev x
  rw [hx] at hu
  have fin : (convert S T (a.eval x)).run P w = .ok (.string (bs l)) w → o.wp P a w (fun a' w' => ∃ s', K s' ∧ Ga c m s' a' w') Q := fun hrun => by
    unfold Oper.wp
    simp [execOp, hop, hrun, Result.andThen]
    exact ⟨_, hK, ρ, g.put rfl hd⟩
  refine fin ?_
  subst hn
  rcases hu with ⟨b, cap, hb, e, h1, h2⟩ | ⟨e0, a', ha, e⟩
  · rw [e]
    obtain ⟨⟨arr, r⟩, _⟩ := g.hp k T0 _ b hk hb
    refine run_convert_bytes_back w S T E ⟨b.b, 0, none⟩ cap l hS hE hT fun j hj => ?_
    have hat := r.is j (.ext (u8V l[j])) (by simp [cE, hj])
    have hat : arr.getD j undef = u8V l[j] := hat
    have hlt : j < arr.size := by
      have h3 := r.le
      have h4 := r.size
      rw [cE_len] at h3; omega
    rw [addr_add, Nat.zero_add, cell_of r.there]
    simp [Array.getD, hlt] at hat
    simp [hlt, hat, u8V]
  · have hl : l = [] := List.eq_nil_of_length_eq_zero e0
    subst hl
    rw [e]
    cases a' with
    | none => exact Lib.run_convert_nil_bytes w S T E 0 hS hE hT
    | some a => exact run_convert_bytes_back w S T E a 0 [] hS hE hT (fun j hj => by simp at hj)
def BufM (M : Mem) (b : Nat) (E : TypeId) (l : List UInt8) : Prop := ∃ arr f1 f2, M b = some (.cells arr E (f1, f2)) ∧ l.length ≤ f1 ∧ ∀ i (h : i < l.length), arr[i]? = some (u8V l[i])
theorem ask_bytesOf {P : Program} {s : St} {K : St → Prop} {o : Oper} {S T E : TypeId} {x : Operand} {l : List UInt8} (hop : o.op = .convert S T x) (hS : P.underlying S = some .string) (hT : P.underlying T = some (.slice E)) (hE : P.underlying E = some (.int .u8))
    (hx : ev s x = .ext (.string (bs l))) (hK : ∀ b ob cap, s.M b = none → BufM (updM s.M b ob) b E l → l.length ≤ cap → K (({ s with M := updM s.M b ob, fr := b :: s.fr } : St).put o.dst (.ext (.slice (some ⟨b, 0, none⟩) l.length cap)))) : AskK P o s K := by
  intro c m a w Q hg hd
  obtain ⟨ρ, g⟩ := hg
  have ex : a.eval x = .string (bs l) := by have := g.ev x; rw [hx] at this; exact this
  have hrun := run_bytes_of_string (P := P) w S T E (bs l) hS hT hE
  unfold Oper.wp
  simp only [execOp, hop, ex, hrun, Sem.run_bind, Sem.run_pure, Result.andThen_ok]
  have hM : s.M w.heap.size = none := by
    cases hm : s.M w.heap.size with
    | none => rfl
    | some o' =>
      have := g.sub _ _ hm
      rw [Array.getElem?_eq_none (Nat.le_refl _)] at this
      cases this
  have hge := grownCap_ge w (bs l).size 0 E
  have hsz : (bs l).size = l.length := bs_size l
  refine ⟨_, hK w.heap.size _ (grownCap w (bs l).size 0 E) hM ⟨bytesRow (bs l) (grownCap w (bs l).size 0 E), (bytesRow (bs l) (grownCap w (bs l).size 0 E)).size, (bytesRow (bs l) (grownCap w (bs l).size 0 E)).size + 1, updM_self _ _ _, ?_, fun i hi => ?_⟩ (by omega), ρ, (g.drew.newM _).put (by rw [hsz]; rfl) hd⟩
  · simp [bytesRow, bs]
  · have := bytesRow_at (bs l) (grownCap w (bs l).size 0 E) i (by simpa [bs] using hi)
    rw [this]
    simp [bs, u8V]
theorem BufM.at {P : Program} {M : Mem} {b n cap : Nat} {E : TypeId} {l : List UInt8} (h : BufM M b E l) (hk : kindT P E = some false) (hz : szO P E = some 1) {i : Nat} (hi : i < l.length) : lookM P E M (elemP (.slice (some ⟨b, 0, none⟩) n cap) 1 i) = some (u8V l[i]) := by
  obtain ⟨arr, f1, f2, hMb, hle, hat⟩ := h
  simp only [elemP, Nat.mul_one, addr_add, Nat.zero_add, lookM, hk, hz, cellM, hMb]
  exact hat i hi
end Go.Proofs.YtamghpnjdohnjaaDoor.Sx
