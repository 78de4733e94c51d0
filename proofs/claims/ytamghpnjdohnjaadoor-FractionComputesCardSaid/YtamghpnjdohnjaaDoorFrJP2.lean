/- Part 2 of the texts of this claim: a symbolic executor and contracts of functions. -/
import Derived.Test.YtamghpnjdohnjaaDoorFrJP1
import Derived.Lib.Builder
import Derived.Laws.Strings
namespace Go.Proofs.YtamghpnjdohnjaaDoor.Sx
open Go Go.RowKit
set_option linter.unusedVariables false
set_option linter.unusedSimpArgs false
structure Eqv (s z : St) : Prop where
  env : ∀ t, lk s.env t = lk z.env t
  hp : ∀ k, lkH s.hp k = lkH z.hp k
  M : s.M = z.M
  kb : s.kb = z.kb
  fx : s.fx = z.fx
  fr : s.fr = z.fr
theorem Eqv.refl (s : St) : Eqv s s := ⟨fun _ => rfl, fun _ => rfl, rfl, rfl, rfl, rfl⟩
theorem Eqv.symm {s z : St} (h : Eqv s z) : Eqv z s := ⟨fun t => (h.env t).symm, fun k => (h.hp k).symm, h.M.symm, h.kb.symm, h.fx.symm, h.fr.symm⟩
theorem Eqv.trans {s z y : St} (h : Eqv s z) (k : Eqv z y) : Eqv s y := ⟨fun t => (h.env t).trans (k.env t), fun j => (h.hp j).trans (k.hp j), h.M.trans k.M, h.kb.trans k.kb, h.fx.trans k.fx, h.fr.trans k.fr⟩
theorem Eqv.put {s z : St} (h : Eqv s z) (d : Option Nat) (v : AV) : Eqv (s.put d v) (z.put d v) := by
  cases d with
  | none => exact h
  | some d => exact ⟨fun t => by simp only [St.put, lk, h.env t], h.hp, h.M, h.kb, h.fx, h.fr⟩
def Closed (K : St → Prop) : Prop := ∀ s z, Eqv s z → K s → K z
section
variable {P : Program} {c : Cx} {n : Nat} {s z : St} {ρ : Rho} {a : Act} {w : World}
theorem Gam.eqv (h : Gam c n s ρ a w) (e : Eqv s z) : Gam c n z ρ a w where
  df := h.df
  sz := h.sz
  env := fun t => by rw [← e.env t]; exact h.env t
  hp := fun k T cs b hk hb => by rw [← e.M]; exact h.hp k T cs b (by rw [e.hp k]; exact hk) hb
  no := fun k T cs hk hb => h.no k T cs (by rw [e.hp k]; exact hk) hb
  inj := fun k k' b b' hk hk' => h.inj k k' b b' (by rw [e.hp k]; exact hk) (by rw [e.hp k']; exact hk')
  os := h.os
  tape := h.tape
  output := h.output
  size := h.size
  block := h.block
  sub := by rw [← e.M]; exact h.sub
  le := by rw [← e.M]; exact h.le
  mf := by rw [← e.M]; exact h.mf
  fix := fun k hk => by rw [← e.hp]; exact h.fix k hk
  fx := fun k hk => h.fx k (by rw [e.fx]; exact hk)
  kl := by rw [← e.kb]; exact h.kl
  fr := by rw [← e.fr]; exact h.fr
def ptrK : Option (Bool × Nat × Nat) → List Nat
  | some (_, k, _) => [k]
  | none => []
def addrL (s : St) : Op → List Nat
  | .load _ x => ptrK (ev s x).ptr?
  | .store _ x _ => ptrK (ev s x).ptr?
  | .call c => match c.callee with
    | .builtin .append => mentL (c.args.toList.map (ev s))
    | _ => []
  | _ => []
theorem map_ev {l : List Operand} (h : ∀ x ∈ l, ev s x = ev z x) : l.map (ev s) = l.map (ev z) := List.map_congr_left h
theorem bndO_dep {d : Int} {x : Option Operand} (h : ∀ y, x = some y → ev s y = ev z y) : bndO s d x = bndO z d x := by
  cases x with
  | none => rfl
  | some y => simp only [bndO, h y rfl]
theorem loadV_dep {T : TypeId} {g : Bool} {u : Value} (hM : Mem.le s.M z.M) : put1 (some (g, u)) (loadV P s T) = .bad ∨ put1 (some (g, u)) (loadV P s T) = put1 (some (g, u)) (loadV P z T) := by
  cases h : lookM P T s.M u with
  | none => left; simp [put1, loadV, h]
  | some v => right; simp [put1, loadV, h, lookM_le hM h]
theorem tOp_dep {op : Op} (h : ∀ x ∈ op.operands, ev s x = ev z x) (hk : ∀ k ∈ addrL s op, lkH s.hp k = lkH z.hp k) (hM : Mem.le s.M z.M) : tOp P s op = .bad ∨ tOp P s op = tOp P z op := by
  cases op
  case load T x =>
    have hx : ev s x = ev z x := h x (by simp [Op.operands])
    simp only [tOp, ← hx]
    have hk' : ∀ k ∈ ptrK (ev s x).ptr?, lkH s.hp k = lkH z.hp k := hk
    cases hp : ev s x with
    | own k off => right; simp only [loadX]; rw [hk' k (by rw [hp]; simp [AV.ptr?, ptrK])]
    | gown g k off => right; simp only [loadX]; rw [hk' k (by rw [hp]; simp [AV.ptr?, ptrK])]
    | ext u => exact loadV_dep hM
    | gd g u => cases g with
      | true => exact loadV_dep hM
      | false => exact .inr rfl
    | _ => exact .inr rfl
  case store T x y =>
    right
    have hx : ev s x = ev z x := h x (by simp [Op.operands])
    have hy : ev s y = ev z y := h y (by simp [Op.operands])
    simp only [tOp, ← hx, ← hy]
    have hk' : ∀ k ∈ ptrK (ev s x).ptr?, lkH s.hp k = lkH z.hp k := hk
    cases hp : (ev s x).ptr? with
    | none => rfl
    | some r => obtain ⟨g, k, off⟩ := r; simp only [storeX, hk' k (by simp [hp, ptrK])]
  case makeFunc fn first captured =>
    right
    have h1 : first.toList.map (ev s) = first.toList.map (ev z) := map_ev fun x hx => h x (by simp [Op.operands] at hx ⊢; exact .inl hx)
    have h2 : captured.toList.map (ev s) = captured.toList.map (ev z) := map_ev fun x hx => h x (by simp [Op.operands] at hx ⊢; exact .inr hx)
    simp only [tOp, h1, h2]
  case call cl =>
    right
    have h1 : cl.args.toList.map (ev s) = cl.args.toList.map (ev z) := map_ev fun x hx => h x (by simp [Op.operands, Call.operands] at hx ⊢; exact .inr hx)
    have h2 : evC s cl.callee = evC z cl.callee := by
      cases hc : cl.callee with
      | value g => simp only [evC, h g (by simp [Op.operands, Call.operands, hc])]
      | builtin b => rfl
      | invoke r m => rfl
    simp only [tOp, h1, h2]
  case pick x y z' => right; simp only [tOp, h x (by simp [Op.operands]), h y (by simp [Op.operands]), h z' (by simp [Op.operands])]
  case slice T x lo hi mx =>
    right
    cases mx with
    | some _ => rfl
    | none =>
      have hx : ev s x = ev z x := h x (by simp [Op.operands])
      have h1 : ∀ d, bndO s d lo = bndO z d lo := fun d => bndO_dep fun y hy => h y (by subst hy; simp [Op.operands])
      have h2 : ∀ d, bndO s d hi = bndO z d hi := fun d => bndO_dep fun y hy => h y (by subst hy; simp [Op.operands])
      simp only [tOp, ← hx]
      unfold slcG
      split
      · unfold slcR; simp only [h1, h2]
      · unfold slcR; simp only [h1, h2]
  all_goals right
  all_goals first
    | rfl
    | (rename_i b T x y Ty; simp only [tOp]; rw [h x (by simp [Op.operands]), h y (by simp [Op.operands])]; done)
    | (rename_i T x y; simp only [tOp]; rw [h x (by simp [Op.operands]), h y (by simp [Op.operands])]; done)
    | (simp only [tOp]; rw [h _ (by simp [Op.operands])]; done)
    | (simp only [tOp]
       congr 1
       refine List.map_congr_left fun p hp => ?_
       rw [h p.2 (by simp only [Op.operands, List.mem_toArray]; exact List.mem_map_of_mem (f := fun x : Nat × Operand => x.2) hp)])
theorem guardB_dep {ops : List Oper} {gd : Option (Nat × Bool)} (h : ∀ j want t, gd = some (j, want) → gslot ops j = some t → lk s.env t = lk z.env t) : guardB ops s gd = guardB ops z gd := by
  cases gd with
  | none => rfl
  | some jw =>
    obtain ⟨j, want⟩ := jw
    simp only [guardB]
    cases hs : gslot ops j with
    | none => rfl
    | some t => simp only [h j want t rfl hs]
structure AwayOp (k : Nat) (s : St) (op : Op) : Prop where
  ops : ∀ x ∈ op.operands, k ∉ (ev s x).ment
  hp : ∀ j ∈ addrL s op, ∀ T cs, lkH s.hp j = some (T, cs) → k ∉ mentL cs
def RA (k : Nat) (s : St) (op : Op) : Res → Prop
  | .put _ v => k ∉ v.ment
  | .sto _ j cs => j ∈ addrL s op ∧ (lkH s.hp j).isSome = true ∧ j ≠ k ∧ k ∉ mentL cs
  | .new D cs => k ∉ mentL cs
  | .call f args => k ∉ mentL args
  | .gen (.app ts args) => k ∉ mentL args
  | _ => True
variable {k : Nat} {op : Op}
theorem ra_put1 {x : Option (Bool × Value)} {f : Value → Option (Prop × Value)} : RA k s op (put1 x f) := by
  unfold put1; split
  · split
    · simp [RA, AV.ment]
    · trivial
  · trivial
theorem ra_putA {x : Option (Bool × Value)} {f : Value → Option (Prop × Value)} : RA k s op (putA x f) := by
  unfold putA; split
  · split
    · simp [RA, AV.ment]
    · trivial
  · trivial
theorem ra_put2 {x y : Option (Bool × Value)} {f : Value → Value → Option (Prop × Value)} : RA k s op (put2 x y f) := by
  unfold put2; split
  · split
    · simp [RA, AV.ment]
    · trivial
  · trivial
theorem ra_addOb {g : Bool} {r : Res} (h : RA k s op r) : RA k s op (addOb g r) := by
  cases r <;> first | trivial | exact h
theorem vals_ment : ∀ {l : List AV} {vs : List Value}, vals l = some vs → mentL l = []
  | [], _, _ => rfl
  | .ext v :: r, vs, h => by
    simp only [vals, Option.map_eq_some_iff] at h
    obtain ⟨x, hx, _⟩ := h
    simp [mentL, AV.ment, vals_ment hx]
  | .gd _ _ :: r, vs, h => by simp [vals] at h
  | .own _ _ :: r, vs, h => by simp [vals] at h
  | .gown _ _ _ :: r, vs, h => by simp [vals] at h
  | .fn _ _ :: r, vs, h => by simp [vals] at h
  | .slo _ _ _ _ :: r, vs, h => by simp [vals] at h
  | .ag _ _ :: r, vs, h => by simp [vals] at h
  | .unk :: r, vs, h => by simp [vals] at h
theorem aggA_ment (l : List AV) : (aggA l).ment = mentL l := by
  unfold aggA; split
  · rename_i vs h; rw [vals_ment h]; rfl
  · simp [AV.ment]
theorem ra_load {T : TypeId} {cs : List AV} {off : Nat} (h : k ∉ mentL cs) : RA k s op (loadR P T cs off) := by
  unfold loadR; split
  · show k ∉ (aggA _).ment
    rw [aggA_ment]
    exact fun hm => h (mentL_drop (mentL_take hm))
  · split
    · rename_i v hv; exact fun hm => h (mentL_get hv hm)
    · trivial
  · trivial
theorem mentL_set {l : List AV} {i : Nat} {v : AV} (h : k ∉ mentL l) (hv : k ∉ v.ment) : k ∉ mentL (l.set i v) := fun hm => by
  obtain ⟨x, hx, hk⟩ := mentL_mem hm
  rcases List.mem_or_eq_of_mem_set hx with h1 | rfl
  · exact h (mentL_of h1 hk)
  · exact hv hk
theorem ptr_ment {v : AV} {g : Bool} {j off : Nat} (h : v.ptr? = some (g, j, off)) : v.ment = [j] := by
  cases v <;> simp [AV.ptr?] at h
  · obtain ⟨_, rfl, rfl⟩ := h; rfl
  · obtain ⟨rfl, rfl, rfl⟩ := h; rfl
theorem tOp_away (h : AwayOp k s op) : RA k s op (tOp P s op) := by
  cases op with
  | move x => exact h.ops x (by simp [Op.operands])
  | assign x => exact h.ops x (by simp [Op.operands])
  | pick x y w => simp only [tOp]; unfold pickV; split <;> simp [RA, AV.ment]
  | binOp b T x y Ty => exact ra_put2
  | unOp b T x => exact ra_put1
  | index T x y => exact ra_put2
  | convert S T x => exact ra_putA
  | extract x i =>
    simp only [tOp]
    have hx := h.ops x (by simp [Op.operands])
    unfold extR
    split
    · split
      · simp [RA, AV.ment]
      · trivial
    · rename_i g l hl
      split
      · rename_i v hv
        have := unG_ment hl
        intro hm
        rw [← this] at hx
        exact hx (by simp only [AV.ment]; exact mentL_get hv hm)
      · trivial
    · trivial
  | nilCheck x =>
    simp only [tOp]
    cases hp : (ev s x).ptr? with
    | none => trivial
    | some r =>
      obtain ⟨g, j, off⟩ := r
      have hx := h.ops x (by simp [Op.operands])
      rw [ptr_ment hp] at hx
      exact hx
  | fieldAddr S x f =>
    simp only [tOp]
    have hown : RA k s (.fieldAddr S x f) (fieldR P (fOff P S f) (ev s x).ptr?) := by
      unfold fieldR
      split
      · rename_i hp
        have hx := h.ops x (by simp [Op.operands])
        rw [ptr_ment hp] at hx
        exact hx
      · trivial
    unfold fldA
    split
    · unfold fldV; split <;> simp [RA, AV.ment]
    · unfold fldV; split <;> simp [RA, AV.ment]
    · exact hown
  | load T x =>
    simp only [tOp]
    have hx := h.ops x (by simp [Op.operands])
    have hh : ∀ j ∈ ptrK (ev s x).ptr?, ∀ T cs, lkH s.hp j = some (T, cs) → k ∉ mentL cs := h.hp
    have key : ∀ g j off, (ev s x).ptr? = some (g, j, off) → RA k s (.load T x) (loadH P T g off (lkH s.hp j)) := fun g j off hp => by
      cases hk : lkH s.hp j with
      | none => trivial
      | some r => exact ra_addOb (ra_load (hh j (by rw [hp]; simp [ptrK]) r.1 r.2 hk))
    cases hp : ev s x with
    | own j off => exact key true j off (by rw [hp]; rfl)
    | gown g j off => exact key g j off (by rw [hp]; rfl)
    | ext u => simp only [loadX]; exact ra_put1
    | gd g u => cases g with
      | true => simp only [loadX]; exact ra_put1
      | false => simp only [loadX]; unfold zeroR; split <;> simp [RA, AV.ment]
    | _ => trivial
  | store T x y =>
    simp only [tOp]
    have hx := h.ops x (by simp [Op.operands])
    have hy := h.ops y (by simp [Op.operands])
    have hh : ∀ j ∈ ptrK (ev s x).ptr?, ∀ T cs, lkH s.hp j = some (T, cs) → k ∉ mentL cs := h.hp
    cases hp : (ev s x).ptr? with
    | none => trivial
    | some r =>
      obtain ⟨g, j, off⟩ := r
      simp only [storeX]
      cases hk : lkH s.hp j with
      | none => trivial
      | some r =>
        have hc := hh j (by rw [hp]; simp [ptrK]) r.1 r.2 hk
        have hjk : j ≠ k := fun e => hx (by rw [ptr_ment hp, e]; simp)
        have hin : j ∈ addrL s (.store T x y) := by simp [addrL, hp, ptrK]
        refine ra_addOb ?_
        unfold storeR
        split
        · split
          · rename_i l hl
            refine ⟨hin, by rw [hk]; rfl, hjk, ?_⟩
            simp only [mentL_append, List.mem_append, not_or]
            exact ⟨fun hm => hc (mentL_take hm), by rw [cellsG_ment hl]; exact hy, fun hm => hc (mentL_drop hm)⟩
          · trivial
        · exact ⟨hin, by rw [hk]; rfl, hjk, mentL_set hc hy⟩
        · trivial
  | makeFunc fn first cs =>
    simp only [tOp]
    unfold mkF
    split
    · simp only [RA, AV.ment]
      intro hm
      obtain ⟨v, hv, hk⟩ := mentL_mem hm
      obtain ⟨x, hx, rfl⟩ := List.mem_map.1 hv
      exact h.ops x (by simp [Op.operands]; exact .inr (by simpa using hx)) hk
    · trivial
  | call cl =>
    simp only [tOp]
    have hargs : k ∉ mentL (cl.args.toList.map (ev s)) := fun hm => by
      obtain ⟨v, hv, hk⟩ := mentL_mem hm
      obtain ⟨x, hx, rfl⟩ := List.mem_map.1 hv
      exact h.ops x (by simp [Op.operands, Call.operands]; exact .inr (by simpa using hx)) hk
    unfold callR
    split
    · rename_i f cs hc
      simp only [RA, mentL_append, List.mem_append, not_or]
      refine ⟨hargs, fun hm => ?_⟩
      cases hcc : cl.callee with
      | value g =>
        rw [hcc] at hc
        simp only [evC, Cl.val.injEq] at hc
        have := h.ops g (by simp [Op.operands, Call.operands, hcc])
        rw [hc] at this
        exact this (by simp only [AV.ment]; exact hm)
      | builtin b => rw [hcc] at hc; cases hc
      | invoke r m => rw [hcc] at hc; cases hc
    · unfold bltR
      split
      · unfold lenR; split
        · simp [RA, AV.ment]
        · exact ra_put1
        · trivial
      · split
        · exact ra_put2
        · trivial
      · split
        · exact ra_put2
        · trivial
      · show k ∉ mentL (normL _)
        rw [mentL_norm]; exact hargs
      · trivial
    · trivial
  | alloc T =>
    simp only [tOp]; split
    · simp [RA, mentL_ext]
    · trivial
  | box T x =>
    simp only [tOp]; unfold boxR; split
    · rename_i l hl
      simp only [RA]
      rw [cellsA_ment hl]; exact h.ops x (by simp [Op.operands])
    · trivial
  | buildSlice T m ps =>
    simp only [tOp]
    have hp : ∀ p ∈ ps.toList.map (fun p => (p.1, ev s p.2)), k ∉ p.2.ment := fun p hp => by
      obtain ⟨q, hq, rfl⟩ := List.mem_map.1 hp
      exact h.ops q.2 (by simp only [Op.operands, List.mem_toArray]; exact List.mem_map_of_mem (f := fun x : Nat × Operand => x.2) hq)
    unfold buildSR; split
    · split
      · split
        · rename_i hb; exact buildL_ment _ _ _ _ hb (by rw [mentL_ext]; simp) hp
        · trivial
      · trivial
    · trivial
  | build T ps =>
    simp only [tOp]
    have hp : ∀ p ∈ ps.toList.map (fun p => (p.1, ev s p.2)), k ∉ p.2.ment := fun p hp => by
      obtain ⟨q, hq, rfl⟩ := List.mem_map.1 hp
      exact h.ops q.2 (by simp only [Op.operands, List.mem_toArray]; exact List.mem_map_of_mem (f := fun x : Nat × Operand => x.2) hq)
    unfold buildR; split
    · split
      · rename_i hb
        show k ∉ (aggA _).ment
        rw [aggA_ment]
        exact buildL_ment _ _ _ _ hb (by rw [mentL_ext]; simp) hp
      · trivial
    · trivial
  | field S x f =>
    simp only [tOp]
    have hx := h.ops x (by simp [Op.operands])
    cases hu : unG (ev s x) with
    | none => trivial
    | some r =>
      obtain ⟨g, v⟩ := r
      refine ra_addOb ?_
      rw [← unG_ment hu] at hx
      unfold fieldX
      split
      · rename_i l off T hl _
        have hl' : k ∉ mentL l := by rw [cellsG_ment hl]; exact hx
        split
        · show k ∉ (aggA _).ment
          rw [aggA_ment]
          exact fun hm => hl' (mentL_drop (mentL_take hm))
        · split
          · rename_i hv; exact fun hm => hl' (mentL_get hv hm)
          · trivial
        · trivial
      · trivial
  | makeSlice T x y =>
    simp only [tOp]; unfold makeR; split
    · split
      · simp [RA, mentL_ext]
      · trivial
    · trivial
  | indexAddr T x y =>
    simp only [tOp]
    have hx := h.ops x (by simp [Op.operands])
    unfold idxR
    split
    · refine ra_addOb ?_
      unfold idxA
      split
      · split
        · split
          · rename_i e; rw [e] at hx; simpa [RA, AV.ment] using hx
          · simp [RA, AV.ment]
          · simp [RA, AV.ment]
          · trivial
        · trivial
      · split
        · split
          · rename_i e; rw [e] at hx; simpa [RA, AV.ment] using hx
          · trivial
        · trivial
    · trivial
  | slice T x lo hi mx =>
    cases mx with
    | some _ => trivial
    | none =>
      simp only [tOp]
      have hx := h.ops x (by simp [Op.operands])
      have key : ∀ v : AV, k ∉ v.ment → RA k s (.slice T x lo hi none) (slcR P s T v lo hi) := fun v hx => by
        unfold slcR
        split
        · split
          · simpa [RA, AV.ment] using hx
          · trivial
        · split
          · simp [RA, AV.ment]
          · trivial
        · split
          · simp [RA, AV.ment]
          · trivial
        · trivial
      unfold slcG
      split
      · exact ra_addOb (key _ (by simp [AV.ment]))
      · exact key _ hx
  | _ => trivial
end
end Go.Proofs.YtamghpnjdohnjaaDoor.Sx
namespace Go.Proofs.YtamghpnjdohnjaaDoor.Sx
open Go Go.RowKit
set_option linter.unusedVariables false
set_option linter.unusedSimpArgs false
section
variable {P : Program} {c : Cx} {n : Nat} {s z : St} {ρ : Rho} {a : Act} {w : World}
inductive Eff where
  | put (v : AV)
  | new (T : NewD) (cs : List AV)
  | sto (k : Nat) (cs : List AV)
  | call (f : FuncId) (args : List AV)
  | app (ts : List TypeId) (args : List AV)
def PutG (r : Res) (g : Bool) (v : AV) : Prop :=
  match r with
  | .put ob (.ext x) => (g = true → ob) ∧ v = .gd g x
  | .put ob (.gd g' x) => (g = true → g' = true ∧ ob) ∧ v = .gd g x
  | .put ob (.own k off) => (g = true → ob) ∧ v = .gown g k off
  | .put ob u => (g = true ∧ ob ∧ v = u) ∨ (g = false ∧ v = .ext undef)
  | _ => g = false ∧ v = .ext undef
def PutE (r : Res) (gd : Option (Nat × Bool)) (gb : Option Bool) (v : AV) : Prop :=
  match gd with
  | none => ∃ ob, r = .put ob v ∧ ob
  | some _ => ∃ g, gb = some g ∧ PutG r g v
def effOK (P : Program) (r : Res) (gd : Option (Nat × Bool)) (gb : Option Bool) : Eff → Prop
  | .put v => PutE r gd gb v
  | .new T cs => r = .new T cs ∧ gb = some true
  | .sto k cs => ∃ ob, r = .sto ob k cs ∧ ob ∧ gb = some true
  | .call f args => r = .call f args ∧ callsB P f = true ∧ gb = some true
  | .app ts args => r = .gen (.app ts args) ∧ gb = some true
def effK (P : Program) (d : Option Nat) (s : St) (K : St → Prop) : Eff → Prop
  | .put v => K (s.put d v)
  | .new T cs => newK s d T cs K
  | .sto k cs => K ({ s with hp := upH s.hp k cs }.put d .unk)
  | .call f args => CallK0 P f (normL args) s d K
  | .app ts args => appR P s ts args d K
def plainR : Res → Prop
  | .ask => False
  | .bad => False
  | _ => True
theorem fin_eff {o : Oper} {K : St → Prop} {r : Res} {gd : Option (Nat × Bool)} (h : finD P o s K r) (hg : gd = none ∨ ∃ x, gd = some x ∧ ∀ ob v, r ≠ .put ob v) :
    ∃ E, effOK P r gd (some true) E ∧ effK P o.dst s K E := by
  cases r with
  | bad => exact h.elim
  | put ob v =>
    rcases hg with rfl | ⟨x, _, hn⟩
    · exact ⟨.put v, ⟨ob, rfl, h.1⟩, h.2⟩
    · exact absurd rfl (hn ob v)
  | sto ob k cs => exact ⟨.sto k cs, ⟨ob, rfl, h.1, rfl⟩, h.2⟩
  | new T cs => exact ⟨.new T cs, ⟨rfl, rfl⟩, h⟩
  | call f args => exact ⟨.call f args, ⟨rfl, h.1, rfl⟩, h.2⟩
  | gen G => cases G; exact ⟨.app _ _, ⟨rfl, rfl⟩, h⟩
  | ask => exact h.elim
theorem step_eff {ops : List Oper} {o : Oper} {K : St → Prop} (h : stepD P ops o s K o.guard) :
    ∃ E, effOK P (tOp P s o.op) o.guard (guardB ops s o.guard) E ∧ effK P o.dst s K E := by
  cases hgd : o.guard with
  | none =>
    rw [hgd] at h
    exact fin_eff h (.inl rfl)
  | some jw =>
    rw [hgd] at h
    simp only [stepD] at h
    cases hg : guardB ops s (some jw) with
    | none => rw [hg] at h; exact h.elim
    | some g =>
      rw [hg] at h
      simp only [stepGD] at h
      generalize tOp P s o.op = r at h ⊢
      cases r with
      | put ob v =>
        have gen : (∀ g, PutG (.put ob v) g = fun u => (g = true ∧ ob ∧ u = v) ∨ (g = false ∧ u = .ext undef)) → brv g (finD P o s K (.put ob v)) (K (s.put o.dst (.ext undef))) →
            ∃ E, effOK P (.put ob v) (some jw) (some g) E ∧ effK P o.dst s K E := fun hp hb => by
          cases g
          · exact ⟨.put (.ext undef), ⟨false, rfl, by rw [hp]; exact .inr ⟨rfl, rfl⟩⟩, hb.2 rfl⟩
          · have := hb.1 rfl
            exact ⟨.put v, ⟨true, rfl, by rw [hp]; exact .inl ⟨rfl, this.1, rfl⟩⟩, this.2⟩
        cases v with
        | ext x => exact ⟨.put (.gd g x), ⟨g, rfl, h.1, rfl⟩, h.2⟩
        | gd g' x => exact ⟨.put (.gd g x), ⟨g, rfl, h.1, rfl⟩, h.2⟩
        | own k off => exact ⟨.put (.gown g k off), ⟨g, rfl, h.1, rfl⟩, h.2⟩
        | _ => exact gen (fun _ => rfl) h
      | _ =>
        cases g
        · exact ⟨.put (.ext undef), ⟨false, rfl, rfl, rfl⟩, h.2 rfl⟩
        · exact fin_eff (h.1 rfl) (.inr ⟨jw, rfl, fun ob v e => by cases e⟩)
theorem eff_step {ops : List Oper} {o : Oper} {K : St → Prop} {E : Eff} (hE : effOK P (tOp P s o.op) o.guard (guardB ops s o.guard) E) (h : effK P o.dst s K E) : stepD P ops o s K o.guard := by
  cases hgd : o.guard with
  | none =>
    rw [hgd] at hE
    simp only [stepD]
    cases E with
    | put v => obtain ⟨ob, hr, ho⟩ := hE; rw [hr]; exact ⟨ho, h⟩
    | new T cs => rw [hE.1]; exact h
    | sto k cs => obtain ⟨ob, hr, ho, _⟩ := hE; rw [hr]; exact ⟨ho, h⟩
    | call f args => rw [hE.1]; exact ⟨hE.2.1, h⟩
    | app ts args => rw [hE.1]; exact h
  | some jw =>
    rw [hgd] at hE
    simp only [stepD]
    cases E with
    | put v =>
      obtain ⟨g, hg, hp⟩ := hE
      rw [hg]
      simp only [stepGD]
      generalize tOp P s o.op = r at hp ⊢
      cases r with
      | put ob u =>
        cases u with
        | ext x => obtain ⟨h1, rfl⟩ := hp; exact ⟨h1, h⟩
        | gd g' x => obtain ⟨h1, rfl⟩ := hp; exact ⟨h1, h⟩
        | own k off => obtain ⟨h1, rfl⟩ := hp; exact ⟨h1, h⟩
        | _ =>
          rcases hp with ⟨rfl, h1, rfl⟩ | ⟨rfl, rfl⟩
          · exact ⟨fun _ => ⟨h1, h⟩, fun e => by cases e⟩
          · exact ⟨fun e => (by cases e), fun _ => h⟩
      | _ => obtain ⟨rfl, rfl⟩ := hp; exact ⟨fun e => (by cases e), fun _ => h⟩
    | new T cs => obtain ⟨hr, hg⟩ := hE; rw [hg]; simp only [stepGD]; rw [hr]; exact ⟨fun _ => h, fun e => by cases e⟩
    | sto k cs => obtain ⟨ob, hr, ho, hg⟩ := hE; rw [hg]; simp only [stepGD]; rw [hr]; exact ⟨fun _ => ⟨ho, h⟩, fun e => by cases e⟩
    | call f args => obtain ⟨hr, hb, hg⟩ := hE; rw [hg]; simp only [stepGD]; rw [hr]; exact ⟨fun _ => ⟨hb, h⟩, fun e => by cases e⟩
    | app ts args => obtain ⟨hr, hg⟩ := hE; rw [hg]; simp only [stepGD]; rw [hr]; exact ⟨fun _ => h, fun e => by cases e⟩
theorem AwayS.of {k : Nat} (h : awayP k s) : AwayS k s := awayP_S h
theorem AwayS.to {k : Nat} (h : AwayS k s) : awayP k s := .inr h
theorem AwayS.op {k : Nat} (h : AwayS k s) (op : Op) : AwayOp k s op := ⟨fun x _ => away_ev h.env x, fun j _ T cs hj => (h.hp j T cs hj).2⟩
theorem AwayS.put {k : Nat} (h : AwayS k s) (d : Option Nat) {v : AV} (hv : k ∉ v.ment) : AwayS k (s.put d v) := by
  cases d with
  | none => exact h
  | some d =>
    refine ⟨fun t => ?_, h.hp, h.fx⟩
    simp only [St.put, lk]
    by_cases e : d = t
    · simp only [e, if_true]; exact hv
    · simp only [e, if_false]; exact h.env t
theorem putE_away {k : Nat} {op : Op} {gd : Option (Nat × Bool)} {gb : Option Bool} {v : AV} (h : AwayOp k s op) (he : PutE (tOp P s op) gd gb v) : k ∉ v.ment := by
  have ha := tOp_away (P := P) h
  cases gd with
  | none => obtain ⟨ob, hr, _⟩ := he; rw [hr] at ha; exact ha
  | some x =>
    obtain ⟨g, _, hp⟩ := he
    generalize hr : tOp P s op = r at hp ha
    cases r with
    | put ob u =>
      cases u with
      | ext x => rw [hp.2]; simp [AV.ment]
      | gd g' x => rw [hp.2]; simp [AV.ment]
      | own j off => rw [hp.2]; exact ha
      | _ =>
        rcases hp with ⟨_, _, rfl⟩ | ⟨_, rfl⟩
        · exact ha
        · simp [AV.ment]
    | _ => rw [hp.2]; simp [AV.ment]
theorem CallS_mono {f : FuncId} {args : List AV} {H : Hp} {M : Mem} {mv : List Nat} {K K' : AV → Hp → Mem → Prop}
    (hK : ∀ v H' M' ρ ρ' w u w', Left mv H M ρ ρ' w u v H' M' w' → K v H' M' → K' v H' M') (h : CallS P f args H M mv K) : CallS P f args H M mv K' :=
  fun ρ w us hh he => Calls.mono (h ρ w us hh he) fun e w' ⟨u, v, H', M', ρ', e1, k, l⟩ => ⟨u, v, H', M', ρ', e1, hK _ _ _ _ _ _ _ _ l k, l⟩
theorem HeapIs.eqv {H H2 : Hp} {M : Mem} (e : ∀ k, lkH H k = lkH H2 k) (h : HeapIs ρ H M w) : HeapIs ρ H2 M w :=
  ⟨fun k T cs b hk => h.hp k T cs b (by rw [e]; exact hk), fun k T cs hk => h.no k T cs (by rw [e]; exact hk), fun k k' b b' hk hk' => h.inj k k' b b' (by rw [e]; exact hk) (by rw [e]; exact hk'), h.sub⟩
theorem Left.eqv {mv : List Nat} {H H2 H' : Hp} {M M' : Mem} {ρ' : Rho} {u : Value} {v : AV} {w' : World} (e : ∀ k, lkH H k = lkH H2 k) (h : Left mv H M ρ ρ' w u v H' M' w') : Left mv H2 M ρ ρ' w u v H' M' w' := by
  refine { h with keep := fun k hk => h.keep k (by rw [e]; exact hk), same := fun k hk => h.same k (by rw [e]; exact hk), fresh := fun k b h1 h2 => ?_, block := fun b hb hh => h.block b hb fun k x hk => hh k x (by rw [← e]; exact hk) }
  rcases h.fresh k b h1 h2 with h3 | ⟨j, x, h4, h5⟩
  · exact .inl h3
  · exact .inr ⟨j, x, by rw [← e]; exact h4, h5⟩
theorem CallS_eqv {f : FuncId} {args : List AV} {H H2 : Hp} {M : Mem} {mv : List Nat} {K : AV → Hp → Mem → Prop} (e : ∀ k, lkH H k = lkH H2 k) (h : CallS P f args H M mv K) : CallS P f args H2 M mv K :=
  fun ρ w us hh he => Calls.mono (h ρ w us (hh.eqv fun k => (e k).symm) he) fun x w' ⟨u, v, H', M', ρ', e1, k, l⟩ => ⟨u, v, H', M', ρ', e1, k, l.eqv e⟩
theorem newKeys_of {H : Hp} : ∀ {H' : Hp}, (∀ k, (lkH H' k).isSome = true → (lkH H k).isSome = true ∨ awayP k s) → newKeys s H H'
  | [], _ => trivial
  | (j, x) :: r, h => ⟨h j (by simp [lkH]), newKeys_of fun k hk => h k (by
      simp only [lkH]; split
      · rfl
      · exact hk)⟩
theorem reach_agree {hp hp' : Hp} {ks : List Nat} (h : ∀ k ∈ ks, lkH hp k = lkH hp' k) : reachK hp ks = reachK hp' ks := by
  have one : ∀ {ks : List Nat}, (∀ k ∈ ks, lkH hp k = lkH hp' k) → cellsK hp ks = cellsK hp' ks := by
    intro ks
    induction ks with
    | nil => intro _; rfl
    | cons k r ih => intro h; simp only [cellsK, h k (by simp), ih fun j hj => h j (by simp [hj])]
  unfold reachK; rw [one h]
def newSt (s : St) (t k : Nat) (T : NewD) (cs : List AV) : St := { env := (t, T.av k) :: s.env, hp := (k, T.T, cs) :: s.hp, M := s.M, kb := s.kb, fx := s.fx, fr := s.fr }
theorem av_ment {D : NewD} {j : Nat} : (D.av j).ment = [j] := by
  unfold NewD.av
  split <;> rfl
theorem newE_of {d : Option Nat} {T : NewD} {cs : List AV} {K : St → Prop} (h : effK P d s K (.new T cs)) : ∃ t, d = some t ∧ (T.ob ∧ AwayS (s.kb + t) s) ∧ K (newSt s t (s.kb + t) T cs) := by
  cases d with
  | none => exact h.elim
  | some t => exact ⟨t, rfl, ⟨h.1.1, AwayS.of h.1.2⟩, h.2⟩
theorem newE_to {t : Nat} {T : NewD} {cs : List AV} {K : St → Prop} (ho : T.ob) (h : AwayS (s.kb + t) s) (hk : K (newSt s t (s.kb + t) T cs)) : effK P (some t) s K (.new T cs) := ⟨⟨ho, h.to⟩, hk⟩
theorem put_lk {d : Option Nat} {v : AV} {t : Nat} (h : d ≠ some t) : lk (s.put d v).env t = lk s.env t := by
  cases d with
  | none => rfl
  | some d => simp only [St.put, lk]; rw [if_neg fun e => h (by rw [e])]
theorem put_hp {d : Option Nat} {v : AV} : (s.put d v).hp = s.hp := by cases d <;> rfl
theorem put_M {d : Option Nat} {v : AV} : (s.put d v).M = s.M := by cases d <;> rfl
theorem put_kb {d : Option Nat} {v : AV} : (s.put d v).kb = s.kb := by cases d <;> rfl
theorem put_fx {d : Option Nat} {v : AV} : (s.put d v).fx = s.fx := by cases d <;> rfl
theorem put_fr {d : Option Nat} {v : AV} : (s.put d v).fr = s.fr := by cases d <;> rfl
theorem put_comm {d e : Option Nat} {v u : AV} (h : ∀ t, d = some t → e ≠ some t) : Eqv ((s.put d v).put e u) ((s.put e u).put d v) := by
  cases d with
  | none => exact .refl _
  | some d => cases e with
    | none => exact .refl _
    | some e =>
      refine ⟨fun t => ?_, fun _ => rfl, rfl, rfl, rfl, rfl⟩
      have hde : ¬ e = d := fun x => h d rfl (by rw [x])
      simp only [St.put, lk]
      by_cases h1 : d = t
      · subst h1; simp [hde]
      · simp [h1]
theorem new_put {d : Option Nat} {v : AV} {t k : Nat} {T : NewD} {cs : List AV} (h : d ≠ some t) : Eqv ((newSt s t k T cs).put d v) (newSt (s.put d v) t k T cs) := by
  refine ⟨fun j => ?_, fun j => ?_, ?_, ?_, ?_, ?_⟩
  · cases d with
    | none => rfl
    | some d =>
      have hdt : ¬ d = t := fun x => h (by rw [x])
      simp only [St.put, newSt, lk]
      by_cases h1 : t = j
      · subst h1; simp [hdt]
      · simp [h1]
  · simp [newSt, put_hp]
  · simp [newSt, put_M]
  · simp [newSt, put_kb]
  · simp [newSt, put_fx]
  · simp [newSt, put_fr]
theorem new_new {t t' k k' : Nat} {T T' : NewD} {cs cs' : List AV} (h : t ≠ t') (hk : k ≠ k') : Eqv (newSt (newSt s t k T cs) t' k' T' cs') (newSt (newSt s t' k' T' cs') t k T cs) := by
  refine ⟨fun j => ?_, fun j => ?_, rfl, rfl, rfl, rfl⟩
  · simp only [newSt, lk]; by_cases h1 : t' = j
    · subst h1; simp [h]
    · simp [h1]
  · simp only [newSt, lkH]; by_cases h1 : k' = j
    · subst h1; simp [hk]
    · simp [h1]
theorem new_upH {t k j : Nat} {T : NewD} {cs cs' : List AV} (h : j ≠ k) :
    Eqv { newSt s t k T cs with hp := upH (newSt s t k T cs).hp j cs' } (newSt { s with hp := upH s.hp j cs' } t k T cs) := by
  refine ⟨fun _ => rfl, fun i => ?_, rfl, rfl, rfl, rfl⟩
  simp only [newSt, upH, if_neg (Ne.symm h)]
theorem eqv_upH (e : Eqv s z) (k : Nat) (cs : List AV) : Eqv { s with hp := upH s.hp k cs } { z with hp := upH z.hp k cs } := by
  refine ⟨e.env, fun j => ?_, e.M, e.kb, e.fx, e.fr⟩
  simp only [lkH_upH, e.hp]
theorem eqv_new (e : Eqv s z) (t k : Nat) (T : NewD) (cs : List AV) : Eqv (newSt s t k T cs) (newSt z t k T cs) := by
  refine ⟨fun j => ?_, fun j => ?_, e.M, e.kb, e.fx, e.fr⟩
  · simp only [newSt, lk, e.env]
  · simp only [newSt, lkH, e.hp]
theorem AwayS.eqv {k : Nat} (h : AwayS k s) (e : Eqv s z) : AwayS k z := ⟨fun t => by rw [← e.env]; exact h.env t, fun j T cs hj => h.hp j T cs (by rw [e.hp]; exact hj), by rw [← e.fx]; exact h.fx⟩
def appSt (s : St) (d k q z : Nat) (e : TypeId) (cs : List AV) : St := { env := (d, .slo k 0 q z) :: killE k s.env, hp := (k, e, cs) :: killH k s.hp, M := s.M, kb := s.kb, fx := s.fx, fr := s.fr }
theorem appR_map {s z : St} {ts : List TypeId} {args : List AV} {d : Option Nat} {K K' : St → Prop} (h : appR P s ts args d K)
    (hM : s.M = z.M) (hkb : s.kb = z.kb) (hfx : s.fx = z.fx) (hhp : ∀ k ∈ mentL args, lkH s.hp k = lkH z.hp k)
    (haw : ∀ d', d = some d' → awayP (s.kb + d') s → awayP (s.kb + d') z)
    (hA : ∀ k off q z' d' m e zz cs new y, args = [.slo k off q z', y] → d = some d' → (∀ j ∈ mentL (cs ++ new), ∃ i ∈ mentL args, ∃ T cs1, lkH s.hp i = some (T, cs1) ∧ j ∈ mentL cs1) → K (appSt s d' k (q + m) zz e (cs ++ new)) → K' (appSt z d' k (q + m) zz e (cs ++ new)))
    (hB : ∀ d' m e zz new, d = some d' → awayP (s.kb + d') s → hasK (s.kb + d') (mentL new) = false → (∀ k ∈ mentL new, ∃ j ∈ mentL args, ∃ T cs, lkH s.hp j = some (T, cs) ∧ k ∈ mentL cs) → K (newSt s d' (s.kb + d') ⟨True, e, some (m, zz)⟩ new) → K' (newSt z d' (s.kb + d') ⟨True, e, some (m, zz)⟩ new)) : appR P z ts args d K' := by
  have hsrc : ∀ zz t y, y ∈ args → srcA P s zz t y = srcA P z zz t y := fun zz t y hy => by
    have hl : ∀ k ∈ y.ment, lkH s.hp k = lkH z.hp k := fun k hk => hhp k (mentL_of hy hk)
    unfold srcA
    cases y with
    | slo k off q z' => simp only [hl k (by simp [AV.ment])]
    | ext v => simp only [hM]
    | _ => rfl
  have hnew : ∀ {zz t y ob m new}, srcA P s zz t y = some (ob, m, new) → ∀ k ∈ mentL new, ∃ j ∈ y.ment, ∃ T cs, lkH s.hp j = some (T, cs) ∧ k ∈ mentL cs := fun {zz t y ob m new} hs k hk => by
    unfold srcA at hs
    split at hs
    · split at hs
      · rename_i hj
        cases hs
        exact ⟨_, by simp [AV.ment], _, _, hj, mentL_drop (mentL_take hk)⟩
      · cases hs
    · split at hs
      · split at hs
        · cases hs
          rw [show (List.map (fun b : UInt8 => AV.ext (.int .u8 b.toNat)) _) = _ from rfl, mentL_extf] at hk; cases hk
        · cases hs
      · split at hs
        · cases hs; rw [mentL_ext] at hk; cases hk
        · cases hs
    · cases hs
  unfold appR at h ⊢
  split at h
  case h_2 => exact h.elim
  rename_i t t' x y
  split at h
  case h_2 => exact h.elim
  split at h
  case h_2 => exact h.elim
  rename_i e he _ _ _ zz by_ zs hz hby hzc
  split at h
  case h_2 => exact h.elim
  rename_i ob m new d' hs
  rw [hsrc _ _ y (by simp)] at hs
  simp only [he, hz, hby, hzc, hs]
  rw [← hsrc _ _ y (by simp)] at hs
  split at h
  · rename_i k q z'
    rw [← hhp k (by simp [mentL, AV.ment])]
    split at h
    case h_2 => exact h.elim
    rename_i T cs hk
    obtain ⟨h1, h2⟩ := h
    refine ⟨by rw [← hfx]; exact h1, ?_⟩
    refine hA k 0 q z' d' m e zz cs new y rfl rfl (fun j hj => ?_) h2
    rw [mentL_append, List.mem_append] at hj
    rcases hj with hj | hj
    · exact ⟨k, by simp [mentL, AV.ment], _, _, hk, hj⟩
    · obtain ⟨i, hi, T1, cs1, h10, h11⟩ := hnew hs j hj
      exact ⟨i, mentL_of (by simp) hi, T1, cs1, h10, h11⟩
  · obtain ⟨⟨h1, h2, h3, h4, h5, h6, h7, h8⟩, h9⟩ := h
    refine ⟨⟨h1, h2, h3, h4, h5, by rw [← hkb]; exact haw d' rfl h6, by rw [← hkb]; exact h7, h8⟩, ?_⟩
    have := hB d' m e zz new rfl h6 h7 (fun k hk => by
      obtain ⟨j, hj, T, cs, h10, h11⟩ := hnew hs k hk
      exact ⟨j, mentL_of (by simp) hj, T, cs, h10, h11⟩) h9
    rw [hkb] at this
    exact this
  · exact h.elim
theorem eqv_app (e : Eqv s z) (d k q zz : Nat) (T : TypeId) (cs : List AV) : Eqv (appSt s d k q zz T cs) (appSt z d k q zz T cs) := by
  refine ⟨fun j => ?_, fun j => ?_, e.M, e.kb, e.fx, e.fr⟩
  · simp only [appSt, lk, lk_killE, e.env]
  · simp only [appSt, lkH, lkH_killH, e.hp]
theorem effK_eqv {d : Option Nat} {K : St → Prop} {E : Eff} (hK : Closed K) (e : Eqv s z) (h : effK P d s K E) : effK P d z K E := by
  have haw : ∀ k, awayP k s → awayP k z := fun k h => ((AwayS.of h).eqv e).to
  cases E with
  | put v => exact hK _ _ (e.put d v) h
  | new T cs =>
    obtain ⟨t, rfl, ⟨h0, h1⟩, h2⟩ := newE_of h
    exact newE_to h0 (by rw [← e.kb]; exact h1.eqv e) (hK _ _ (by rw [← e.kb]; exact eqv_new e ..) h2)
  | sto k cs => exact hK _ _ ((eqv_upH e k cs).put d _) h
  | call f args =>
    have hr : reachK s.hp (mentL (normL args)) = reachK z.hp (mentL (normL args)) := reach_agree fun k _ => e.hp k
    have hs : ∀ k, lkH (subH s.hp (reachK s.hp (mentL (normL args)))) k = lkH (subH z.hp (reachK z.hp (mentL (normL args)))) k := fun k => by simp only [lkH_sub, e.hp, hr]
    have h' := CallS_eqv hs h
    rw [e.M] at h'
    refine CallS_mono (fun v H' M' _ _ _ _ _ _ hk => ⟨newKeys_of fun k hk' => ?_, hK _ _ (Eqv.put (s := ({ env := s.env, hp := joinH s.hp H', M := M', kb := s.kb, fx := s.fx, fr := s.fr } : St)) (z := ({ env := z.env, hp := joinH z.hp H', M := M', kb := z.kb, fx := z.fx, fr := z.fr } : St)) ⟨e.env, fun k => ?_, rfl, e.kb, e.fx, e.fr⟩ d v) hk.2⟩) h'
    · rcases newKeys_ok hk.1 k hk' with h1 | h1
      · exact .inl (by rw [← hs]; exact h1)
      · exact .inr (haw k h1)
    · simp only [lkH_join, e.hp]
  | app ts args =>
    refine appR_map h e.M e.kb e.fx (fun k _ => e.hp k) (fun d' _ h => haw _ h) (fun k off q z' d' m e' zz cs new y _ _ _ hk => ?_) (fun d' m e' zz new _ _ _ _ hk => ?_)
    · exact hK _ _ (eqv_app e ..) hk
    · exact hK _ _ (eqv_new e ..) hk
theorem effK_mono {d : Option Nat} {K K' : St → Prop} {E : Eff} (hK : ∀ s' : St, (∀ t, d ≠ some t → (lk s.env t).ment = [] → (lk s'.env t).ment = []) → K s' → K' s') (h : effK P d s K E) : effK P d s K' E := by
  cases E with
  | put v => exact hK _ (fun t ht hu => by rw [put_lk ht]; exact hu) h
  | new T cs =>
    obtain ⟨t, rfl, ⟨h0, h1⟩, h2⟩ := newE_of h
    refine newE_to h0 h1 (hK _ (fun j hj hu => ?_) h2)
    simp only [newSt, lk]
    rw [if_neg fun x => hj (by rw [x])]; exact hu
  | sto k cs => exact hK _ (fun t ht hu => by rw [put_lk ht]; exact hu) h
  | call f args => exact CallS_mono (fun v H' M' _ _ _ _ _ _ hk => ⟨hk.1, hK _ (fun t ht hu => by rw [put_lk ht]; exact hu) hk.2⟩) h
  | app ts args =>
    refine appR_map h rfl rfl rfl (fun k _ => rfl) (fun d' _ h => h) (fun k off q z' d' m e' zz cs new y _ hd _ hk => hK _ (fun t ht hu => ?_) hk) (fun d' m e' zz new hd _ _ _ hk => hK _ (fun t ht hu => ?_) hk)
    · simp only [appSt, lk]
      rw [if_neg fun x => ht (by rw [hd, x]), lk_killE]
      exact List.eq_nil_iff_forall_not_mem.2 fun x hx => by
        have := (kill_ment hx).2
        rw [hu] at this; cases this
    · simp only [newSt, lk]; rw [if_neg fun x => ht (by rw [hd, x])]; exact hu
end
end Go.Proofs.YtamghpnjdohnjaaDoor.Sx
namespace Go.Proofs.YtamghpnjdohnjaaDoor.Sx
open Go Go.RowKit
set_option linter.unusedVariables false
set_option linter.unusedSimpArgs false
section
variable {P : Program} {c : Cx} {n : Nat} {s z : St} {ρ : Rho} {a : Act} {w : World}
theorem ev_same {ops : Array Oper} {o : Oper} (h : ∀ t ∈ o.looksAt ops, lk s.env t = lk z.env t) : ∀ x ∈ o.op.operands, ev s x = ev z x := by
  intro x hx
  cases x with
  | tmp t => exact h t (List.mem_append_left _ (List.mem_filterMap.2 ⟨.tmp t, by simpa using hx, rfl⟩))
  | const v => rfl
  | global g => rfl
  | func f => rfl
theorem guard_same {ops : Array Oper} {o : Oper} (h : ∀ t ∈ o.looksAt ops, lk s.env t = lk z.env t) : guardB ops.toList s o.guard = guardB ops.toList z o.guard := by
  refine guardB_dep fun j want t hg hs => h t (List.mem_append_right _ ?_)
  simp only [hg]
  simpa [gslot_eq] using hs
theorem ptrK_ment {v : AV} {k : Nat} (h : k ∈ ptrK v.ptr?) : k ∈ v.ment := by
  cases hp : v.ptr? with
  | none => rw [hp] at h; cases h
  | some r => obtain ⟨g, j, off⟩ := r; rw [ptr_ment hp]; rw [hp] at h; exact h
theorem addr_ment {op : Op} {k : Nat} (h : k ∈ addrL s op) : ∃ x ∈ op.operands, k ∈ (ev s x).ment := by
  cases op with
  | load T x => exact ⟨x, by simp [Op.operands], ptrK_ment h⟩
  | store T x y => exact ⟨x, by simp [Op.operands], ptrK_ment h⟩
  | call cl =>
    simp only [addrL] at h
    split at h
    · obtain ⟨v, hv, hk⟩ := mentL_mem h
      obtain ⟨x, hx, rfl⟩ := List.mem_map.1 hv
      exact ⟨x, by simp [Op.operands, Call.operands]; exact .inr (by simpa using hx), hk⟩
    · cases h
  | _ => simp [addrL] at h
theorem addr_same {op : Op} (h : ∀ x ∈ op.operands, ev s x = ev z x) : addrL s op = addrL z op := by
  cases op with
  | load T x => simp only [addrL]; rw [h x (by simp [Op.operands])]
  | store T x y => simp only [addrL]; rw [h x (by simp [Op.operands])]
  | call cl =>
    simp only [addrL]
    rw [map_ev (l := cl.args.toList) fun x hx => h x (by simp [Op.operands, Call.operands]; exact .inr (by simpa using hx))]
  | _ => rfl
theorem AwayS.addr {k j : Nat} {op : Op} (h : AwayS k s) (hj : j ∈ addrL s op) : j ≠ k := fun e => by
  obtain ⟨x, _, hx⟩ := addr_ment hj
  rw [e] at hx
  exact away_ev h.env x hx
def softOp : Op → Bool
  | .store _ _ _ => false
  | .call cl => match cl.callee with
    | .builtin .append => false
    | .builtin _ => true
    | _ => false
  | _ => true
def touchR (s : St) : Res → List Nat
  | .sto _ k _ => [k]
  | .call _ args => reachK s.hp (mentL args)
  | _ => []
def killR : Res → List Nat
  | .gen (.app _ (x :: _)) => x.ment
  | _ => []
def NoClash (s : St) (oi : Op) (r : Res) : Prop := (∀ k ∈ addrL s oi, k ∉ touchR s r) ∧ ∀ k ∈ killR r, AwayOp k s oi
def SoftR : Res → Prop
  | .sto _ _ _ => False
  | .call _ _ => False
  | .gen _ => False
  | _ => True
theorem softR_putA {x : Option (Bool × Value)} {f : Value → Option (Prop × Value)} : SoftR (putA x f) := by unfold putA; (repeat' split) <;> trivial
theorem softR_put1 {x : Option (Bool × Value)} {f : Value → Option (Prop × Value)} : SoftR (put1 x f) := by unfold put1; (repeat' split) <;> trivial
theorem softR_put2 {x y : Option (Bool × Value)} {f : Value → Value → Option (Prop × Value)} : SoftR (put2 x y f) := by unfold put2; (repeat' split) <;> trivial
theorem softR_addOb {g : Bool} {r : Res} (h : SoftR r) : SoftR (addOb g r) := by cases r <;> first | trivial | exact h
theorem soft_ra {op : Op} (h : softOp op = true) : SoftR (tOp P s op) := by
  cases op with
  | store T x y => cases h
  | call cl =>
    simp only [softOp] at h
    split at h
    · cases h
    · rename_i b hb hne
      simp only [tOp, hne, evC, callR]
      cases b <;> simp only [bltR] <;> first | trivial | exact absurd rfl hb | skip
      · unfold lenR; split
        · trivial
        · exact softR_put1
        · trivial
      · split
        · exact softR_put2
        · trivial
      · split
        · exact softR_put2
        · trivial
    · cases h
  | load T x =>
    simp only [tOp]
    have key : ∀ g off r, SoftR (loadH P T g off r) := fun g off r => by
      cases r with
      | none => trivial
      | some r => simp only [loadH]; refine softR_addOb ?_; unfold loadR; (repeat' split) <;> trivial
    cases ev s x with
    | gd g u => cases g with
      | true => simp only [loadX]; exact softR_put1
      | false => simp only [loadX]; unfold zeroR; split <;> trivial
    | _ => simp only [loadX] <;> first | exact softR_put1 | exact key _ _ _ | trivial
  | pick x y w => simp only [tOp]; unfold pickV; split <;> trivial
  | binOp b T x y Ty => exact softR_put2
  | unOp b T x => exact softR_put1
  | index T x y => exact softR_put2
  | convert S T x => exact softR_putA
  | extract x i => simp only [tOp]; unfold extR; (repeat' split) <;> trivial
  | nilCheck x => simp only [tOp]; unfold nilR; split <;> trivial
  | fieldAddr S x f => simp only [tOp]; unfold fldA fldV fieldR; (repeat' split) <;> trivial
  | makeFunc fn first cs => simp only [tOp]; unfold mkF; split <;> trivial
  | alloc T => simp only [tOp]; split <;> trivial
  | box T x => simp only [tOp]; unfold boxR; split <;> trivial
  | buildSlice T m ps => simp only [tOp]; unfold buildSR; (repeat' split) <;> trivial
  | build T ps => simp only [tOp]; unfold buildR; (repeat' split) <;> trivial
  | makeSlice T x y => simp only [tOp]; unfold makeR; (repeat' split) <;> trivial
  | field S x f =>
    simp only [tOp]
    cases unG (ev s x) with
    | none => trivial
    | some r => obtain ⟨g, v⟩ := r; simp only [fieldO]; refine softR_addOb ?_; unfold fieldX; (repeat' split) <;> trivial
  | indexAddr T x y =>
    simp only [tOp]; unfold idxR; split
    · refine softR_addOb ?_; unfold idxA; (repeat' split) <;> trivial
    · trivial
  | slice T x lo hi mx =>
    cases mx with
    | some _ => trivial
    | none =>
      simp only [tOp]; unfold slcG; split
      · refine softR_addOb ?_; unfold slcR; (repeat' split) <;> trivial
      · unfold slcR; (repeat' split) <;> trivial
  | _ => trivial
theorem soft_put {ops : List Oper} {o : Oper} (hs : softOp o.op = true) {E : Eff} (hE : effOK P (tOp P s o.op) o.guard (guardB ops s o.guard) E) : (∃ v, E = .put v) ∨ ∃ D cs, E = .new D cs ∧ tOp P s o.op = .new D cs := by
  have h := soft_ra (P := P) (s := s) hs
  cases E with
  | put v => exact .inl ⟨v, rfl⟩
  | new D cs => exact .inr ⟨D, cs, rfl, hE.1⟩
  | sto k cs => obtain ⟨ob, hr, _⟩ := hE; rw [hr] at h; exact h.elim
  | call f args => rw [hE.1] at h; exact h.elim
  | app ts args => rw [hE.1] at h; exact h.elim
theorem cellsK_mem {hp : Hp} {k : Nat} : ∀ {ks : List Nat}, k ∈ cellsK hp ks → ∃ j ∈ ks, ∃ T cs, lkH hp j = some (T, cs) ∧ k ∈ mentL cs
  | j :: r, h => by
    simp only [cellsK] at h
    rcases List.mem_append.1 h with h | h
    · cases hj : lkH hp j with
      | none => rw [hj] at h; cases h
      | some x => rw [hj] at h; exact ⟨j, by simp, x.1, x.2, hj, h⟩
    · obtain ⟨i, hi, h2⟩ := cellsK_mem h; exact ⟨i, by simp [hi], h2⟩
theorem kill_id {k : Nat} {v : AV} (h : k ∉ v.ment) : v.kill k = v := by
  refine (AV.rec (motive_1 := fun v => k ∉ v.ment → v.kill k = v) (motive_2 := fun l => k ∉ mentL l → killL k l = l) ?_ ?_ ?_ ?_ ?_ ?_ ?_ ?_ ?_ ?_ v) h
  · intros; rfl
  · intros; rfl
  · intro j o h; simp only [AV.ment, List.mem_singleton] at h; simp only [AV.kill]; rw [if_neg fun e => h e.symm]
  · intro g j o h; simp only [AV.ment, List.mem_singleton] at h; simp only [AV.kill]; rw [if_neg fun e => h e.symm]
  · intro j o m q h; simp only [AV.ment, List.mem_singleton] at h; simp only [AV.kill]; rw [if_neg fun e => h e.symm]
  · intro f l ih h; simp only [AV.ment] at h; simp only [AV.kill, ih h]
  · intro t l ih h; simp only [AV.ment] at h; simp only [AV.kill, ih h]
  · intros; rfl
  · intros; rfl
  · intro v r ih1 ih2 h
    simp only [mentL, List.mem_append, not_or] at h
    simp only [killL, ih1 h.1, ih2 h.2]
theorem killL_id {k : Nat} : ∀ {l : List AV}, k ∉ mentL l → killL k l = l
  | [], _ => rfl
  | v :: r, h => by
    simp only [mentL, List.mem_append, not_or] at h
    simp only [killL, kill_id h.1, killL_id h.2]
theorem app_put {d : Option Nat} {v : AV} {d' k q zz : Nat} {T : TypeId} {cs : List AV} (hd : d ≠ some d') (hv : k ∉ v.ment) : Eqv (appSt (s.put d v) d' k q zz T cs) ((appSt s d' k q zz T cs).put d v) := by
  refine ⟨fun j => ?_, fun j => ?_, by simp [appSt, put_M], by simp [appSt, put_kb], by simp [appSt, put_fx], by simp [appSt, put_fr]⟩
  · cases d with
    | none => rfl
    | some d =>
      have hdt : ¬ d' = d := fun x => hd (by rw [x])
      simp only [St.put, appSt, lk, killE]
      by_cases h1 : d' = j
      · subst h1; simp [Ne.symm hdt]
      · by_cases h2 : d = j
        · subst h2; simp [h1, kill_id hv]
        · simp [h1, h2]
  · simp [appSt, put_hp]
theorem app_new {d' k q zz t kk : Nat} {T : TypeId} {cs cs' : List AV} {D : NewD} (hd : d' ≠ t) (hk : k ≠ kk) (hc : k ∉ mentL cs') : Eqv (appSt (newSt s t kk D cs') d' k q zz T cs) (newSt (appSt s d' k q zz T cs) t kk D cs') := by
  refine ⟨fun j => ?_, fun j => ?_, rfl, rfl, rfl, rfl⟩
  · simp only [newSt, appSt, lk, killE]
    have : (D.av kk).kill k = D.av kk := kill_id (by rw [av_ment]; simpa using hk)
    by_cases h1 : d' = j
    · subst h1; simp [Ne.symm hd]
    · simp [h1, this]
  · simp only [newSt, appSt, lkH, killH]
    rw [if_neg (Ne.symm hk), killL_id hc]
    by_cases h1 : k = j
    · subst h1; simp [Ne.symm hk, lkH]
    · simp [h1, lkH]
theorem app_hp {d' k q zz : Nat} {T : TypeId} {cs : List AV} {op : Op} (ha : AwayOp k s op) {j : Nat} (hj : j ∈ addrL s op) : lkH s.hp j = lkH (appSt s d' k q zz T cs).hp j := by
  have hne : k ≠ j := fun e => by
    obtain ⟨x, hx, hk⟩ := addr_ment hj
    exact ha.ops x hx (by rw [e]; exact hk)
  simp only [appSt, lkH, lkH_killH]
  rw [if_neg hne, if_neg (Ne.symm hne)]
  cases hl : lkH s.hp j with
  | none => rfl
  | some x => simp only [Option.map_some]; rw [killL_id (ha.hp j hj x.1 x.2 hl)]
theorem awayS_app {kk d' k q zz : Nat} {T : TypeId} {cs : List AV} (h : AwayS kk s) (hk : k ≠ kk) (hc : kk ∉ mentL cs) : AwayS kk (appSt s d' k q zz T cs) := by
  refine ⟨fun t => ?_, fun j T' ds hj => ?_, h.fx⟩
  · simp only [appSt, lk]
    split
    · simpa [AV.ment] using fun e => hk e.symm
    · rw [lk_killE]; exact fun hm => h.env t (kill_ment hm).2
  · simp only [appSt, lkH, lkH_killH] at hj
    split at hj
    · rename_i e
      cases hj
      exact ⟨fun e2 => hk (by rw [e, e2]), hc⟩
    · split at hj
      · cases hj
      · simp only [Option.map_eq_some_iff, Prod.mk.injEq] at hj
        obtain ⟨⟨T1, cs1⟩, h1, rfl, rfl⟩ := hj
        obtain ⟨h2, h3⟩ := h.hp j _ _ h1
        exact ⟨h2, fun hm => h3 (killL_ment hm).2⟩
theorem looks_cases {ops : Array Oper} {o : Oper} {t : Nat} (h : t ∈ o.looksAt ops) : .tmp t ∈ o.op.operands ∨ ∃ j want, o.guard = some (j, want) ∧ gslot ops.toList j = some t := by
  unfold Oper.looksAt at h
  rcases List.mem_append.1 h with h | h
  · obtain ⟨x, hx, hx2⟩ := List.mem_filterMap.1 h
    left
    cases x <;> simp at hx2
    subst hx2
    simpa using hx
  · right
    cases hg : o.guard with
    | none => rw [hg] at h; simp at h
    | some jw =>
      obtain ⟨j, want⟩ := jw
      rw [hg] at h
      refine ⟨j, want, rfl, ?_⟩
      simpa [gslot_eq] using h
theorem looks_ment {ops : Array Oper} {o : Oper} {E : Eff} {k t : Nat} (hE : effOK P (tOp P s o.op) o.guard (guardB ops.toList s o.guard) E) (ha : AwayOp k s o.op) (h : t ∈ o.looksAt ops) : k ∉ (lk s.env t).ment := by
  rcases looks_cases h with h | ⟨j, want, hg, hs⟩
  · exact ha.ops _ h
  · have hsome : ∃ g, guardB ops.toList s o.guard = some g := by
      cases E with
      | put v =>
        rw [hg] at hE
        obtain ⟨g, h1, _⟩ := hE
        rw [hg]; exact ⟨g, h1⟩
      | new D cs => exact ⟨_, hE.2⟩
      | sto k cs => obtain ⟨_, _, _, h1⟩ := hE; exact ⟨_, h1⟩
      | call f args => exact ⟨_, hE.2.2⟩
      | app ts args => exact ⟨_, hE.2⟩
    obtain ⟨g, hgb⟩ := hsome
    rw [hg] at hgb
    simp only [guardB, hs] at hgb
    cases hl : lk s.env t <;> rw [hl] at hgb <;> simp [AV.val] at hgb <;> simp [AV.ment]
theorem swap {ops : Array Oper} {oi oj : Oper} {K : St → Prop} (hK : Closed K)
    (h1 : ∀ d, oi.dst = some d → d ∉ oj.looksAt ops) (h2 : ∀ d, oi.dst = some d → oj.dst ≠ some d) (h3 : ∀ d, oj.dst = some d → d ∉ oi.looksAt ops) (h4 : ∀ d, oi.dst = some d → d ∉ oi.looksAt ops)
    (hf : ∀ d, oi.dst = some d → (lk s.env d).ment = []) (hs : softOp oi.op = true) (hp : plainR (tOp P s oi.op))
    (h : stepD P ops.toList oi s (fun s1 => (plainR (tOp P s1 oj.op) ∧ NoClash s1 oi.op (tOp P s1 oj.op)) ∧ stepD P ops.toList oj s1 K oj.guard) oi.guard) :
    stepD P ops.toList oj s (fun s2 => plainR (tOp P s2 oi.op) ∧ stepD P ops.toList oi s2 K oi.guard) oj.guard ∧ plainR (tOp P s oj.op) := by
  refine ⟨?_, ?_⟩
  all_goals
    obtain ⟨Ei, hEi, kEi⟩ := step_eff h
    -- oi in a state that differs from s only where oi does not look
    have back : ∀ s2, (∀ t ∈ oi.looksAt ops, lk s.env t = lk s2.env t) → (∀ k ∈ addrL s oi.op, lkH s.hp k = lkH s2.hp k) → Mem.le s.M s2.M → effK P oi.dst s2 K Ei →
        plainR (tOp P s2 oi.op) ∧ stepD P ops.toList oi s2 K oi.guard := fun s2 hl hh hM hk => by
      have e2 := guard_same hl
      rcases tOp_dep (P := P) (ev_same hl) hh hM with e1 | e1
      · rw [e1] at hp; exact hp.elim
      · exact ⟨by rw [← e1]; exact hp, eff_step (E := Ei) (by rw [← e1, ← e2]; exact hEi) hk⟩
    -- the state behind oi
    have fwd : ∀ s1, plainR (tOp P s1 oj.op) → (∀ t, oi.dst ≠ some t → lk s1.env t = lk s.env t) → (∀ k, (∃ x, k ∈ (ev s x).ment) → lkH s1.hp k = lkH s.hp k) → s1.M = s.M →
        tOp P s1 oj.op = tOp P s oj.op ∧ guardB ops.toList s oj.guard = guardB ops.toList s1 oj.guard ∧ addrL s1 oi.op = addrL s oi.op := fun s1 hpl he hh hM => by
      have hl : ∀ t ∈ oj.looksAt ops, lk s1.env t = lk s.env t := fun t ht => he t fun e => h1 t e ht
      have hl' : ∀ t ∈ oi.looksAt ops, lk s1.env t = lk s.env t := fun t ht => he t fun e => h4 t e ht
      refine ⟨?_, (guard_same hl).symm, addr_same (ev_same hl')⟩
      have ha := addr_same (ev_same hl)
      rcases tOp_dep (P := P) (ev_same hl) (fun k hk => hh k (by obtain ⟨x, _, hx⟩ := addr_ment (by rw [← ha]; exact hk); exact ⟨x, hx⟩)) (by rw [hM]; exact Mem.le.refl _) with e | e
      · rw [e] at hpl; exact hpl.elim
      · exact e
    have hevi : ∀ s1 : St, (∀ t, oi.dst ≠ some t → lk s1.env t = lk s.env t) → ∀ x ∈ oi.op.operands, ev s1 x = ev s x := fun s1 he => ev_same (ops := ops) fun t ht => he t fun e => h4 t e ht
    rcases soft_put hs hEi with ⟨v, rfl⟩ | ⟨D, cs, rfl, hnew⟩
  · -- oi puts a value
    have hs1 : ∀ t, oi.dst ≠ some t → lk (s.put oi.dst v).env t = lk s.env t := fun t ht => put_lk ht
    obtain ⟨⟨pj, hc⟩, hj⟩ := kEi
    obtain ⟨e1, e2, e3⟩ := fwd (s.put oi.dst v) pj hs1 (fun k _ => by rw [put_hp]) put_M
    have hopi := hevi _ hs1
    obtain ⟨hc1, hc2⟩ := hc
    rw [e3] at hc1
    obtain ⟨Ej, hEj, kEj⟩ := step_eff hj
    rw [e1] at hEj hc1 hc2 pj
    rw [← e2] at hEj
    have haw0 : ∀ k, AwayS k (s.put oi.dst v) → AwayS k s := fun k ha => by
      refine ⟨fun j => ?_, fun j T cs hj => ha.hp j T cs (by rw [put_hp]; exact hj), by have := ha.fx; rw [put_fx] at this; exact this⟩
      by_cases e : oi.dst = some j
      · rw [hf j e]; simp [AV.ment]
      · rw [← hs1 j e]; exact ha.env j
    have hlook : ∀ s2 : St, (∀ t, oj.dst ≠ some t → lk s2.env t = lk s.env t) → ∀ t ∈ oi.looksAt ops, lk s.env t = lk s2.env t := fun s2 he t ht => (he t fun e => h3 t e ht).symm
    refine eff_step (E := Ej) hEj ?_
    cases Ej with
    | put u =>
      refine back _ (hlook _ fun t ht => put_lk ht) (fun k _ => by rw [put_hp]) (by rw [put_M]; exact Mem.le.refl _) ?_
      exact hK _ _ (put_comm h2) kEj
    | new T cs =>
      obtain ⟨t, ht, ⟨o1, a1⟩, k1⟩ := newE_of kEj
      rw [put_kb] at a1 k1
      have a0 := haw0 _ a1
      have hit : oi.dst ≠ some t := fun e => h2 t e ht
      rw [ht]
      refine newE_to o1 a0 (back _ (hlook _ fun j hj => ?_) (fun k hk => ?_) (Mem.le.refl _) ?_)
      · simp only [newSt, lk]; rw [if_neg fun e => hj (by rw [ht, e])]
      · simp only [newSt, lkH]; rw [if_neg fun e => a0.addr hk e.symm]
      · exact hK _ _ (new_put hit).symm k1
    | sto k cs =>
      obtain ⟨ob, hjr, _⟩ := hEj
      refine back _ (hlook _ fun t ht => put_lk (s := { s with hp := upH s.hp k cs }) ht) (fun k' hk' => ?_) (by rw [put_M]; exact Mem.le.refl _) ?_
      · rw [put_hp]
        simp only [lkH_upH]
        have := hc1 k' hk'
        rw [hjr] at this
        rw [if_neg fun e => this (by simp [touchR, e])]
      · refine hK _ _ ?_ kEj
        refine Eqv.trans (Eqv.put ?_ oj.dst AV.unk) (put_comm (s := { s with hp := upH s.hp k cs }) (d := oi.dst) (v := v) h2)
        refine ⟨fun t => ?_, fun j => ?_, ?_, ?_, ?_, ?_⟩
        · cases oi.dst <;> rfl
        · simp only [put_hp]
        · simp only [put_M]
        · simp only [put_kb]
        · simp only [put_fx]
        · simp only [put_fr]
    | call f args =>
      have hcall := hEj.1
      simp only [effK, CallK0, put_hp, put_M, put_kb, put_fx, put_fr] at kEj ⊢
      refine CallS_mono (fun u H' M' _ _ _ _ _ hl hk => ?_) kEj
      obtain ⟨hnk, hk⟩ := hk
      have hnk0 := newKeys_ok hnk
      refine ⟨newKeys_of fun k hk' => (hnk0 k hk').imp id fun ha => (haw0 k (AwayS.of ha)).to, ?_⟩
      refine back _ (hlook _ fun t ht => by rw [put_lk ht]) (fun k hk' => ?_) (by rw [put_M]; exact hl.le) ?_
      · rw [put_hp]
        simp only [lkH_join]
        cases h7 : lkH H' k with
        | none => rfl
        | some x =>
          exfalso
          rcases hnk0 k (by rw [h7]; rfl) with h8 | h8
          · rw [lkH_sub] at h8
            split at h8
            · rename_i hm
              have h5 := hc1 k hk'
              rw [hcall] at h5
              simp only [touchR] at h5
              rw [mentL_norm] at hm
              rw [put_hp] at h5
              exact h5 hm
            · cases h8
          · exact (haw0 k (AwayS.of h8)).addr hk' rfl
      · refine hK _ _ ?_ hk
        refine Eqv.trans (Eqv.put ?_ oj.dst u) (put_comm (s := ({ env := s.env, hp := joinH s.hp H', M := M', kb := s.kb, fx := s.fx, fr := s.fr } : St)) (d := oi.dst) (v := v) h2)
        refine ⟨fun t => ?_, fun j => ?_, ?_, ?_, ?_, ?_⟩
        · cases oi.dst <;> rfl
        · simp only [put_hp]
        · simp only [put_M]
        · simp only [put_kb]
        · simp only [put_fx]
        · simp only [put_fr]
    | app ts args =>
      have happ := hEj.1
      have hv : ∀ k ∈ killR (tOp P s oj.op), k ∉ v.ment := fun k hk => by
        have ha := hc2 k hk
        refine putE_away (P := P) (s := s) (op := oi.op) (gd := oi.guard) ⟨fun x hx => by rw [← hopi x hx]; exact ha.ops x hx, fun j hj T cs hl => ha.hp j (by rw [addr_same hopi]; exact hj) T cs (by rw [put_hp]; exact hl)⟩ hEi
      simp only [effK] at kEj ⊢
      refine appR_map (z := s) kEj put_M put_kb put_fx (fun k _ => by rw [put_hp]) (fun d' _ ha => (haw0 _ (AwayS.of ha)).to) (fun k off q z' d' m e zz cs new y hargs hd _ hk => ?_) (fun d' m e zz new hd ha _ _ hk => ?_)
      · have hkk : k ∈ killR (tOp P s oj.op) := by rw [happ, hargs]; simp [killR, AV.ment]
        have ha := hc2 k hkk
        have hdd : oi.dst ≠ some d' := fun e => h2 d' e hd
        have ha0 : AwayOp k s oi.op := ⟨fun x hx => by rw [← hopi x hx]; exact ha.ops x hx, fun j hj T cs hl => ha.hp j (by rw [addr_same hopi]; exact hj) T cs (by rw [put_hp]; exact hl)⟩
        refine back _ (fun t ht => ?_) (fun j hj => ?_) (Mem.le.refl _) (hK _ _ (app_put hdd (hv k hkk)) hk)
        · simp only [appSt, lk]
          rw [if_neg fun e => h3 t (by rw [hd, e]) ht, lk_killE, kill_id (looks_ment hEi ha0 ht)]
        · exact app_hp ha0 hj
      · have a0 := haw0 _ (AwayS.of ha)
        have hit : oi.dst ≠ some d' := fun e => h2 d' e hd
        refine back _ (hlook _ fun j hj => ?_) (fun k hk => ?_) (Mem.le.refl _) ?_
        · simp only [newSt, lk]; rw [if_neg fun e => hj (by rw [hd, e])]
        · simp only [newSt, lkH]; rw [if_neg fun e => a0.addr hk e.symm]
        · exact hK _ _ (new_put hit).symm hk
  · -- oi makes a block
    obtain ⟨t, hdi, ⟨oi1, a1⟩, k1⟩ := newE_of kEi
    have hs1 : ∀ j, oi.dst ≠ some j → lk (newSt s t (s.kb + t) D cs).env j = lk s.env j := fun j hj => by
      simp only [newSt, lk]; rw [if_neg fun e => hj (by rw [hdi, e])]
    obtain ⟨⟨pj, hc⟩, hj⟩ := k1
    have hne : ∀ k, (∃ x, k ∈ (ev s x).ment) → s.kb + t ≠ k := fun k ⟨x, hx⟩ e => away_ev a1.env x (by rw [e]; exact hx)
    obtain ⟨e1, e2, e3⟩ := fwd _ pj hs1 (fun k hk => by simp only [newSt, lkH]; rw [if_neg (hne k hk)]) rfl
    have hopi := hevi _ hs1
    obtain ⟨hc1, hc2⟩ := hc
    rw [e3] at hc1
    obtain ⟨Ej, hEj, kEj⟩ := step_eff hj
    rw [e1] at hEj hc1 hc2 pj
    rw [← e2] at hEj
    refine eff_step (E := Ej) hEj ?_
    have hjt : oj.dst ≠ some t := h2 t hdi
    have hcs : ∀ k, AwayOp k s oi.op → k ∉ mentL cs := fun k ha => by have := tOp_away (P := P) ha; rw [hnew] at this; exact this
    have hraj : RA (s.kb + t) s oj.op (tOp P s oj.op) := tOp_away (a1.op oj.op)
    have hlook : ∀ s2 : St, (∀ t, oj.dst ≠ some t → lk s2.env t = lk s.env t) → ∀ t ∈ oi.looksAt ops, lk s.env t = lk s2.env t := fun s2 he t ht => (he t fun e => h3 t e ht).symm
    rw [hdi] at back
    cases Ej with
    | put u =>
      have hu : s.kb + t ∉ u.ment := putE_away (a1.op _) hEj
      refine back _ (hlook _ fun j hj => put_lk hj) (fun k _ => by rw [put_hp]) (by rw [put_M]; exact Mem.le.refl _) (newE_to oi1 (by rw [put_kb]; exact a1.put _ hu) ?_)
      rw [put_kb]
      exact hK _ _ (new_put hjt) kEj
    | new T' cs' =>
      obtain ⟨t', ht', ⟨o2, a2⟩, k2⟩ := newE_of kEj
      have htt : t ≠ t' := fun e => hjt (by rw [ht', e])
      have a0 : AwayS (s.kb + t') s := by
        refine ⟨fun j => ?_, fun j T0 cs0 hj0 => ?_, a2.fx⟩
        · by_cases e : t = j
          · rw [← e, hf t hdi]; simp [AV.ment]
          · have := a2.env j; simp only [newSt, lk, if_neg e] at this; exact this
        · by_cases e : s.kb + t = j
          · exact absurd e.symm ((a1.hp _ _ _ hj0).1)
          · have := a2.hp j T0 cs0; simp only [newSt, lkH, if_neg e] at this; exact this hj0
      have hcs' : s.kb + t ∉ mentL cs' := by rw [hEj.1] at hraj; exact hraj
      have hkk : s.kb + t ≠ s.kb + t' := by omega
      rw [ht']
      refine newE_to o2 a0 (back _ (hlook _ fun j hj => ?_) (fun k hk => ?_) (Mem.le.refl _) (newE_to oi1 ?_ ?_))
      · simp only [newSt, lk]; rw [if_neg fun e => hj (by rw [ht', e])]
      · simp only [newSt, lkH]; rw [if_neg fun e => a0.addr hk e.symm]
      · refine ⟨fun j => ?_, fun j T0 cs0 hj0 => ?_, a1.fx⟩
        · simp only [newSt, lk]
          split
          · rw [av_ment]; simpa using by omega
          · exact a1.env j
        · simp only [newSt, lkH] at hj0
          split at hj0
          · rename_i e
            cases hj0
            subst e
            exact ⟨fun e => hkk e.symm, hcs'⟩
          · exact a1.hp j T0 cs0 hj0
      · exact hK _ _ (new_new htt hkk) k2
    | sto k cs' =>
      obtain ⟨ob, hjr, _⟩ := hEj
      rw [hjr] at hraj
      obtain ⟨b4, b3, b1, b2⟩ := hraj
      refine back _ (hlook _ fun t ht => put_lk (s := { s with hp := upH s.hp k cs' }) ht) (fun k' hk' => ?_) (by rw [put_M]; exact Mem.le.refl _) (newE_to oi1 ?_ ?_)
      · rw [put_hp]
        simp only [lkH_upH]
        have := hc1 k' hk'
        rw [hjr] at this
        rw [if_neg fun e => this (by simp [touchR, e])]
      · rw [put_kb]
        refine AwayS.put (s := { s with hp := upH s.hp k cs' }) ⟨a1.env, fun j T0 cs0 hj0 => ?_, a1.fx⟩ _ (by simp [AV.ment])
        simp only [lkH_upH] at hj0
        split at hj0
        · rename_i e
          subst e
          simp only [Option.map_eq_some_iff] at hj0
          obtain ⟨⟨T1, cs1⟩, h8, h9⟩ := hj0
          cases h9
          exact ⟨b1, b2⟩
        · exact a1.hp j T0 cs0 hj0
      · rw [put_kb]
        refine hK _ _ ?_ kEj
        refine Eqv.trans (Eqv.put (new_upH b1) oj.dst AV.unk) (new_put hjt)
    | call f args =>
      have hcall := hEj.1
      rw [hcall] at hraj
      have hm : s.kb + t ∉ mentL (normL args) := by rw [mentL_norm]; exact hraj
      simp only [effK, CallK0] at kEj ⊢
      have hreach : reachK (newSt s t (s.kb + t) D cs).hp (mentL (normL args)) = reachK s.hp (mentL (normL args)) := reach_agree fun k hk => by
        simp only [newSt, lkH]; rw [if_neg fun e => hm (by rw [e]; exact hk)]
      have hmr : s.kb + t ∉ reachK s.hp (mentL (normL args)) := fun hx => by
        unfold reachK at hx
        rcases List.mem_append.1 hx with hx | hx
        · obtain ⟨j, hj, T0, cs0, h8, h9⟩ := cellsK_mem hx
          exact (a1.hp j T0 cs0 h8).2 h9
        · exact hm hx
      have hsub : ∀ k, lkH (subH (newSt s t (s.kb + t) D cs).hp (reachK (newSt s t (s.kb + t) D cs).hp (mentL (normL args)))) k = lkH (subH s.hp (reachK s.hp (mentL (normL args)))) k := fun k => by
        rw [hreach]
        simp only [lkH_sub]
        split
        · rename_i hk; simp only [newSt, lkH]; rw [if_neg fun e => hmr (by rw [e]; exact hk)]
        · rfl
      refine CallS_mono (fun u H' M' _ _ _ _ _ hl hk => ?_) (CallS_eqv hsub kEj)
      obtain ⟨hnk, hk⟩ := hk
      have hnk0 : ∀ k, (lkH H' k).isSome = true → (lkH (subH s.hp (reachK s.hp (mentL (normL args)))) k).isSome = true ∨ (AwayS k s ∧ k ≠ s.kb + t) := fun k hk => by
        rcases newKeys_ok hnk k hk with h8 | h8
        · left; rw [← hsub]; exact h8
        · right
          have a2 := AwayS.of h8
          have hkt : k ≠ s.kb + t := fun e => (a2.hp (s.kb + t) D.T cs (by simp [newSt, lkH])).1 e.symm
          refine ⟨⟨fun j => ?_, fun j T0 cs0 hj0 => ?_, a2.fx⟩, hkt⟩
          · by_cases e : t = j
            · rw [← e, hf t hdi]; simp [AV.ment]
            · have := a2.env j; simp only [newSt, lk, if_neg e] at this; exact this
          · by_cases e : s.kb + t = j
            · exact absurd e.symm ((a1.hp _ _ _ hj0).1)
            · have := a2.hp j T0 cs0; simp only [newSt, lkH, if_neg e] at this; exact this hj0
      have hH' : lkH H' (s.kb + t) = none := by
        cases h7 : lkH H' (s.kb + t) with
        | none => rfl
        | some x =>
          rcases hnk0 _ (by rw [h7]; rfl) with h8 | ⟨_, h8⟩
          · rw [lkH_sub, if_neg hmr] at h8; cases h8
          · exact absurd rfl h8
      obtain ⟨m1, m2⟩ := hl.ment _ hH'
      refine ⟨newKeys_of fun k hk' => (hnk0 k hk').imp id fun ha => ha.1.to, ?_⟩
      refine back _ (hlook _ fun t ht => by rw [put_lk ht]) (fun k hk' => ?_) (by rw [put_M]; exact hl.le) (newE_to oi1 ?_ ?_)
      · rw [put_hp]
        simp only [lkH_join]
        cases h7 : lkH H' k with
        | none => rfl
        | some x =>
          exfalso
          rcases hnk0 k (by rw [h7]; rfl) with h8 | ⟨h8, _⟩
          · rw [lkH_sub] at h8
            split at h8
            · rename_i hm2
              have h5 := hc1 k hk'
              rw [hcall] at h5
              simp only [touchR] at h5
              rw [← mentL_norm, hreach] at h5
              exact h5 hm2
            · cases h8
          · exact h8.addr hk' rfl
      · rw [put_kb]
        refine AwayS.put (s := ({ env := s.env, hp := joinH s.hp H', M := M', kb := s.kb, fx := s.fx, fr := s.fr } : St)) ⟨a1.env, fun j T0 cs0 hj0 => ?_, a1.fx⟩ _ m1
        simp only [lkH_join] at hj0
        cases h7 : lkH H' j with
        | none => rw [h7] at hj0; exact a1.hp j T0 cs0 hj0
        | some x =>
          rw [h7] at hj0
          have hx : x = (T0, cs0) := by simpa using hj0
          subst hx
          refine ⟨fun e => ?_, m2 _ _ _ h7⟩
          rw [e, hH'] at h7
          cases h7
      · rw [put_kb]
        refine hK _ _ ?_ hk
        refine Eqv.trans (Eqv.put (s := ({ env := (newSt s t (s.kb + t) D cs).env, hp := joinH (newSt s t (s.kb + t) D cs).hp H', M := M', kb := (newSt s t (s.kb + t) D cs).kb, fx := (newSt s t (s.kb + t) D cs).fx, fr := (newSt s t (s.kb + t) D cs).fr } : St)) (z := newSt ({ env := s.env, hp := joinH s.hp H', M := M', kb := s.kb, fx := s.fx, fr := s.fr } : St) t (s.kb + t) D cs) ⟨fun _ => rfl, fun j => ?_, rfl, rfl, rfl, rfl⟩ oj.dst u) (new_put hjt)
        simp only [newSt, lkH_join, lkH]
        by_cases e : s.kb + t = j
        · subst e; simp [hH']
        · simp [e]
    | app ts args =>
      have happ := hEj.1
      rw [happ] at hraj
      have hraj : s.kb + t ∉ mentL args := hraj
      have haw0 : ∀ k, AwayS k (newSt s t (s.kb + t) D cs) → AwayS k s := fun k a2 => by
        refine ⟨fun j => ?_, fun j T0 cs0 hj0 => ?_, a2.fx⟩
        · by_cases e : t = j
          · rw [← e, hf t hdi]; simp [AV.ment]
          · have := a2.env j; simp only [newSt, lk, if_neg e] at this; exact this
        · by_cases e : s.kb + t = j
          · exact absurd e.symm ((a1.hp _ _ _ hj0).1)
          · have := a2.hp j T0 cs0; simp only [newSt, lkH, if_neg e] at this; exact this hj0
      simp only [effK] at kEj ⊢
      refine appR_map (z := s) (s := newSt s t (s.kb + t) D cs) kEj rfl rfl rfl (fun k hk => by simp only [newSt, lkH]; rw [if_neg fun e => hraj (by rw [e]; exact hk)]) (fun d' _ ha => (haw0 _ (AwayS.of ha)).to) (fun k off q z' d' m e zz cs0 new y hargs hd hmm hk => ?_) (fun d' m e zz new hd ha hkn hnm hk => ?_)
      · have hkk : k ∈ killR (tOp P s oj.op) := by rw [happ, hargs]; simp [killR, AV.ment]
        have ha := hc2 k hkk
        have hkne : k ≠ s.kb + t := fun e => hraj (by rw [hargs, ← e]; simp [mentL, AV.ment])
        have ha0 : AwayOp k s oi.op := ⟨fun x hx => by rw [← hopi x hx]; exact ha.ops x hx, fun j hj T cs hl => ha.hp j (by rw [addr_same hopi]; exact hj) T cs (by
          simp only [newSt, lkH]
          obtain ⟨x, _, hx⟩ := addr_ment hj
          rw [if_neg (hne j ⟨x, hx⟩)]; exact hl)⟩
        have htd : d' ≠ t := fun e => hjt (by rw [hd, e])
        have hcc : s.kb + t ∉ mentL (cs0 ++ new) := fun hx => by
          obtain ⟨i, hi, T1, cs1, h8, h9⟩ := hmm _ hx
          simp only [newSt, lkH] at h8
          rw [if_neg fun e => hraj (by rw [e]; exact hi)] at h8
          exact (a1.hp i T1 cs1 h8).2 h9
        refine back _ (fun t' ht => ?_) (fun j hj => ?_) (Mem.le.refl _) (newE_to oi1 (awayS_app a1 hkne hcc) (hK _ _ (app_new htd hkne (hcs k ha0)) hk))
        · simp only [appSt, lk]
          rw [if_neg fun e => h3 t' (by rw [hd, e]) ht, lk_killE, kill_id (looks_ment hEi ha0 ht)]
        · exact app_hp ha0 hj
      · have a2 := AwayS.of ha
        have a0 := haw0 _ a2
        have hkk : s.kb + t ≠ s.kb + d' := fun e => (a2.hp (s.kb + t) D.T cs (by simp [newSt, lkH])).1 e
        have htt : t ≠ d' := fun e => hkk (by rw [e])
        refine back _ (hlook _ fun j hj => ?_) (fun k hk => ?_) (Mem.le.refl _) (newE_to oi1 ⟨fun j => ?_, fun j T0 cs0 hj0 => ?_, a1.fx⟩ (hK _ _ (new_new htt hkk) hk))
        · simp only [newSt, lk]; rw [if_neg fun e => hj (by rw [hd, e])]
        · simp only [newSt, lkH]; rw [if_neg fun e => a0.addr hk e.symm]
        · simp only [newSt, lk]
          split
          · rw [av_ment]; simpa using hkk
          · exact a1.env j
        · simp only [newSt, lkH] at hj0
          split at hj0
          · rename_i e
            cases hj0
            subst e
            refine ⟨fun e => hkk e.symm, fun hm => ?_⟩
            obtain ⟨j, hj, T1, cs1, h8, h9⟩ := hnm _ hm
            simp only [newSt, lkH] at h8
            rw [if_neg fun e => hraj (by rw [e]; exact hj)] at h8
            exact (a1.hp j T1 cs1 h8).2 h9
          · exact a1.hp j T0 cs0 hj0
  · obtain ⟨⟨pj, hc⟩, hj⟩ := kEi
    obtain ⟨e1, _, _⟩ := fwd (s.put oi.dst v) pj (fun t ht => put_lk ht) (fun k _ => by rw [put_hp]) put_M
    rw [← e1]; exact pj
  · obtain ⟨t, hdi, ⟨oi1, a1⟩, k1⟩ := newE_of kEi
    obtain ⟨⟨pj, hc⟩, hj⟩ := k1
    obtain ⟨e1, _, _⟩ := fwd (newSt s t (s.kb + t) D cs) pj (fun j hj => by simp only [newSt, lk]; rw [if_neg fun e => hj (by rw [hdi, e])])
      (fun k ⟨x, hx⟩ => by simp only [newSt, lkH]; rw [if_neg fun e => away_ev a1.env x (by rw [e]; exact hx)]) rfl
    rw [← e1]; exact pj
end
end Go.Proofs.YtamghpnjdohnjaaDoor.Sx
namespace Go.Proofs.YtamghpnjdohnjaaDoor.Sx
open Go Go.RowKit
set_option linter.unusedVariables false
set_option linter.unusedSimpArgs false
section
variable {P : Program} {c : Cx} {n : Nat} {s z : St} {ρ : Rho} {a : Act} {w : World} {ops : Array Oper} {A : List (List Nat)} {K : St → Prop}
def anc (A : List (List Nat)) (j : Nat) : List Nat := A.getD j []
def Tot (ops : Array Oper) (A : List (List Nat)) (i : Nat) : Prop := ∀ j, j < ops.size → j ≠ i → j ∈ anc A i ∨ i ∈ anc A j
def totB (ops : Array Oper) (A : List (List Nat)) (i : Nat) : Bool := (List.range ops.size).all fun j => j == i || ((anc A i).contains j || (anc A j).contains i)
theorem totB_ok {ops : Array Oper} {A : List (List Nat)} {i : Nat} (h : totB ops A i = true) : Tot ops A i := fun j hj hne => by
  simp only [totB, List.all_eq_true, List.mem_range, Bool.or_eq_true, beq_iff_eq, List.contains_iff_mem] at h
  exact (h j hj).resolve_left hne
def isAddr : Op → Bool
  | .load _ _ => true
  | .store _ _ _ => true
  | _ => false
def isApp : Op → Bool
  | .call cl => match cl.callee with
    | .builtin .append => true
    | _ => false
  | _ => false
theorem addr_isAddr {op : Op} {k : Nat} (h : k ∈ addrL s op) : isAddr op = true ∨ isApp op = true := by
  cases op with
  | load T x => exact .inl rfl
  | store T x y => exact .inl rfl
  | call cl =>
    right
    simp only [addrL] at h
    simp only [isApp]
    split at h
    · rename_i e; rw [e]
    · cases h
  | _ => simp [addrL] at h
theorem app_isApp {op : Op} {ts : List TypeId} {args : List AV} (h : tOp P s op = .gen (.app ts args)) : isApp op = true := by
  by_cases hs : softOp op = true
  · have := soft_ra (P := P) (s := s) hs
    rw [h] at this; exact this.elim
  · cases op with
    | call cl =>
      simp only [tOp, callR] at h
      simp only [isApp]
      cases hc : cl.callee with
      | value g =>
        rw [hc] at h
        simp only [evC] at h
        split at h
        · cases h
        · rename_i e; cases e
        · cases h
      | invoke r m => rw [hc] at h; simp only [evC] at h; cases h
      | builtin b =>
        simp only [softOp, hc] at hs
        cases b <;> first | rfl | exact absurd rfl hs
    | store T x y =>
      simp only [tOp] at h
      exfalso
      unfold storeX at h
      split at h
      · unfold storeH at h
        split at h
        · unfold storeR at h
          revert h
          (repeat' split) <;> intro h <;> cases h
        · cases h
      · cases h
    | _ => exact absurd rfl hs
def Quiet (ops : Array Oper) (o : Oper) : Prop := isAddr o.op = false ∧ isApp o.op = false ∧ ∀ (k : Nat) (ok : Oper), ops[k]? = some ok → isApp ok.op = false
def quietB (ops : Array Oper) (o : Oper) : Bool := !(isAddr o.op) && (!(isApp o.op) && ops.toList.all fun k => !(isApp k.op))
theorem quietB_ok {ops : Array Oper} {o : Oper} (h : quietB ops o = true) : Quiet ops o := by
  simp only [quietB, Bool.and_eq_true, Bool.not_eq_true', List.all_eq_true] at h
  exact ⟨h.1, h.2.1, fun k ok hk => h.2.2 ok (by simpa using Array.mem_of_getElem? hk)⟩
theorem quiet_noClash {ops : Array Oper} {oi oj : Oper} {j : Nat} (h : Quiet ops oi) (hj : ops[j]? = some oj) : NoClash s oi.op (tOp P s oj.op) := by
  refine ⟨fun k hk => ?_, fun k hk => ?_⟩
  · rcases addr_isAddr hk with e | e
    · rw [h.1] at e; cases e
    · rw [h.2.1] at e; cases e
  · cases hr : tOp P s oj.op with
    | gen G =>
      obtain ⟨ts, args⟩ := G
      have := app_isApp hr
      rw [h.2.2 j oj hj] at this; cases this
    | _ => rw [hr] at hk; simp [killR] at hk
structure SepA (ops : Array Oper) (A : List (List Nat)) : Prop where
  up : ∀ (j : Nat) (oj : Oper) (i : Nat), ops[j]? = some oj → i ∈ anc A j → ∃ e ∈ oj.after, Region.binds .any e = true ∧ (e.on = i ∨ i ∈ anc A e.on) ∧ e.on < j
  one : ∀ (i j : Nat) (oi oj : Oper) (d : Nat), ops[i]? = some oi → ops[j]? = some oj → oi.dst = some d → i ≠ j → oj.dst ≠ some d
  look : ∀ (i j : Nat) (oi oj : Oper) (d : Nat), ops[i]? = some oi → ops[j]? = some oj → oi.dst = some d → d ∈ oj.looksAt ops → i ≠ j ∧ (i ∈ anc A j ∨ (j ∈ anc A i ∧ (Tot ops A i ∨ Quiet ops oj)))
def Dn (ops : Array Oper) (L : Array Bool) : Prop := ∀ j oj, ops[j]? = some oj → L.getD j false = true → ∀ e ∈ oj.after, Region.binds .any e = true → L.getD e.on false = true
theorem dn_anc (S : SepA ops A) {L : Array Bool} (hL : L.size = ops.size) (D : Dn ops L) {i : Nat} :
    ∀ j, (∀ oj, ops[j]? = some oj → ∀ e ∈ oj.after, Region.binds .any e = true → L.getD e.on false = true) → j < ops.size → i ∈ anc A j → L.getD i false = true := by
  intro j
  induction j using Nat.strongRecOn with
  | _ j ih =>
    intro hj hlt hi
    obtain ⟨oj, hoj⟩ : ∃ oj, ops[j]? = some oj := ⟨ops[j], by simp [hlt]⟩
    obtain ⟨e, he, hb, h1, h2⟩ := S.up j oj i hoj hi
    have hl := hj oj hoj e he hb
    rcases h1 with rfl | h1
    · exact hl
    · refine ih e.on h2 (fun oe hoe => D e.on oe hoe hl) (by omega) h1
def okL (P : Program) (ops : Array Oper) (A : List (List Nat)) (L : Array Bool) (j : Nat) (oj : Oper) (s : St) : Prop :=
  plainR (tOp P s oj.op) ∧ ∀ i oi, ops[i]? = some oi → L.getD i false = true → i ∉ anc A j → NoClash s oi.op (tOp P s oj.op)
def anyT (P : Program) (ops : Array Oper) (A : List (List Nat)) (K : St → Prop) : Nat → Array Bool → St → Prop
  | 0, L, s => Region.ready .any ops L = [] ∧ K s
  | f + 1, L, s => (Region.ready .any ops L = [] → K s) ∧ ∀ j ∈ Region.ready .any ops L, ∀ oj, ops[j]? = some oj →
      okL P ops A L j oj s ∧ stepD P ops.toList oj s (anyT P ops A K f (L.setIfInBounds j true)) oj.guard
theorem dep_plain {op : Op} (hp : plainR (tOp P s op)) (h : ∀ x ∈ op.operands, ev s x = ev z x) (hk : ∀ k ∈ addrL s op, lkH s.hp k = lkH z.hp k) (hM : Mem.le s.M z.M) : tOp P s op = tOp P z op := by
  rcases tOp_dep (P := P) h hk hM with e | e
  · rw [e] at hp; exact hp.elim
  · exact e
theorem step_closed {o : Oper} (hK : Closed K) (e : Eqv s z) (hp : plainR (tOp P s o.op)) (h : stepD P ops.toList o s K o.guard) : stepD P ops.toList o z K o.guard := by
  obtain ⟨E, hE, kE⟩ := step_eff h
  have h1 : ∀ t ∈ o.looksAt ops, lk s.env t = lk z.env t := fun t _ => e.env t
  refine eff_step (E := E) ?_ (effK_eqv hK e kE)
  rw [← dep_plain hp (ev_same h1) (fun k _ => e.hp k) (by rw [e.M]; exact Mem.le.refl _), ← guard_same h1]
  exact hE
theorem step_mono {o : Oper} {K K' : St → Prop} (hK : ∀ s' : St, (∀ t, o.dst ≠ some t → (lk s.env t).ment = [] → (lk s'.env t).ment = []) → K s' → K' s') (h : stepD P ops.toList o s K o.guard) : stepD P ops.toList o s K' o.guard := by
  obtain ⟨E, hE, kE⟩ := step_eff h
  exact eff_step hE (effK_mono hK kE)
theorem noClash_of {oi : Op} {r : Res} (h1 : ∀ x ∈ oi.operands, ev s x = ev z x) (h2 : ∀ k ∈ addrL s oi, lkH z.hp k = lkH s.hp k) (h3 : touchR z r = touchR s r) (h : NoClash s oi r) : NoClash z oi r := by
  have ha := addr_same h1
  refine ⟨fun k hk => by rw [h3]; exact h.1 k (by rw [ha]; exact hk), fun k hk => ?_⟩
  obtain ⟨g1, g2⟩ := h.2 k hk
  exact ⟨fun x hx => by rw [← h1 x hx]; exact g1 x hx, fun j hj T cs hl => g2 j (by rw [ha]; exact hj) T cs (by rw [← h2 j (by rw [ha]; exact hj)]; exact hl)⟩
theorem okL_eqv {L : Array Bool} {j : Nat} {oj : Oper} (e : Eqv s z) (h : okL P ops A L j oj s) : okL P ops A L j oj z := by
  have h1 : ∀ (o : Oper), ∀ t ∈ o.looksAt ops, lk s.env t = lk z.env t := fun o t _ => e.env t
  have h2 := dep_plain h.1 (ev_same (h1 oj)) (fun k _ => e.hp k) (by rw [e.M]; exact Mem.le.refl _)
  refine ⟨by rw [← h2]; exact h.1, fun i oi hi hl ha => ?_⟩
  rw [← h2]
  refine noClash_of (ev_same (h1 oi)) (fun k _ => (e.hp k).symm) ?_ (h.2 i oi hi hl ha)
  cases tOp P s oj.op with
  | call f args => simp only [touchR]; exact (reach_agree fun k _ => e.hp k).symm
  | _ => rfl
theorem anyT_closed (hK : Closed K) : ∀ f L, Closed (anyT P ops A K f L)
  | 0, L => fun s z e h => ⟨h.1, hK _ _ e h.2⟩
  | f + 1, L => fun s z e h => ⟨fun h0 => hK _ _ e (h.1 h0), fun j hj oj hoj =>
      ⟨okL_eqv e (h.2 j hj oj hoj).1, step_closed (anyT_closed hK f _) e (h.2 j hj oj hoj).1.1 (h.2 j hj oj hoj).2⟩⟩
def Fresh (ops : Array Oper) (A : List (List Nat)) (L : Array Bool) (s : St) : Prop := ∀ j oj d, ops[j]? = some oj → L.getD j false = false → oj.dst = some d → Tot ops A j ∨ (lk s.env d).ment = []
theorem getD_lt {L : Array Bool} {i : Nat} (h : i < L.size) (d e : Bool) : L.getD i d = L.getD i e := by simp [h]
theorem set_size (L : Array Bool) (i : Nat) : (L.setIfInBounds i true).size = L.size := by simp
theorem set_self {L : Array Bool} {i : Nat} (h : i < L.size) : (L.setIfInBounds i true).getD i false = true := by simp [h]
theorem dn_set {L : Array Bool} {j : Nat} (D : Dn ops L) (hL : L.size = ops.size) (hj : j ∈ Region.ready .any ops L) : Dn ops (L.setIfInBounds j true) := by
  intro k ok hk hl e he hb
  refine getD_set_true ?_
  by_cases hkj : j = k
  · subst hkj
    obtain ⟨_, o, ho, hall⟩ := mem_ready.1 hj
    rw [hk] at ho; cases ho
    exact hall e he hb
  · rw [getD_set_ne false hkj] at hl
    exact D k ok hk hl e he hb
theorem anyT_first (S : SepA ops A) (hK : Closed K) {i : Nat} {oi : Oper} (hi : ops[i]? = some oi) :
    ∀ (f : Nat) (L : Array Bool) (s : St), L.size = ops.size → Dn ops L → Fresh ops A L s →
      (∀ k ok, ops[k]? = some ok → k ≠ i → L.getD k false = false → i ∉ anc A k → softOp oi.op = true) →
      i ∈ Region.ready .any ops L → okL P ops A L i oi s →
      stepD P ops.toList oi s (anyT P ops A K f (L.setIfInBounds i true)) oi.guard → anyT P ops A K (f + 1) L s := by
  intro f
  induction f with
  | zero =>
    intro L s hL D F hsoft hr hok H
    refine ⟨fun h => (by rw [h] at hr; cases hr), fun j hj oj hoj => ?_⟩
    by_cases hji : j = i
    · subst hji; rw [hi] at hoj; cases hoj; exact ⟨hok, H⟩
    · have hjlt : j < ops.size := (Array.getElem?_eq_some_iff.1 hoj).1
      have hilt : i < ops.size := (Array.getElem?_eq_some_iff.1 hi).1
      obtain ⟨hj0, oj', hoj', hall⟩ := mem_ready.1 hj
      rw [hoj] at hoj'; cases hoj'
      have hi0 := (mem_ready.1 hr).1
      rw [getD_lt (by omega) true false] at hj0 hi0
      have hna : i ∉ anc A j := fun ha => by
        have := dn_anc S hL D j (fun o ho e he hb => by rw [hoj] at ho; cases ho; exact hall e he hb) hjlt ha
        rw [hi0] at this; cases this
      have hs := hsoft j oj hoj hji hj0 hna
      obtain ⟨E, hE, kE⟩ := step_eff H
      have hno : ¬ (Region.ready .any ops (L.setIfInBounds i true) = []) := fun h0 => by
        have := ready_mono hj hji
        rw [h0] at this; cases this
      rcases soft_put hs hE with ⟨v, rfl⟩ | ⟨T, cs, rfl, _⟩
      · exact absurd kE.1 hno
      · obtain ⟨t, _, _, k1⟩ := newE_of kE; exact absurd k1.1 hno
  | succ f ih =>
    intro L s hL D F hsoft hr hok H
    refine ⟨fun h => (by rw [h] at hr; cases hr), fun j hj oj hoj => ?_⟩
    by_cases hji : j = i
    · subst hji; rw [hi] at hoj; cases hoj; exact ⟨hok, H⟩
    · have hjlt : j < ops.size := (Array.getElem?_eq_some_iff.1 hoj).1
      have hilt : i < ops.size := (Array.getElem?_eq_some_iff.1 hi).1
      obtain ⟨hj0, oj', hoj', hall⟩ := mem_ready.1 hj
      rw [hoj] at hoj'; cases hoj'
      obtain ⟨hi0, oi', hoi', halli⟩ := mem_ready.1 hr
      rw [hi] at hoi'; cases hoi'
      rw [getD_lt (by omega) true false] at hj0 hi0
      have hna : i ∉ anc A j := fun ha => by
        have := dn_anc S hL D j (fun o ho e he hb => by rw [hoj] at ho; cases ho; exact hall e he hb) hjlt ha
        rw [hi0] at this; cases this
      have hnb : j ∉ anc A i := fun ha => by
        have := dn_anc S hL D i (fun o ho e he hb => by rw [hi] at ho; cases ho; exact halli e he hb) hilt ha
        rw [hj0] at this; cases this
      have hnt : ¬ Tot ops A i := fun ht => (ht j hjlt hji).elim hnb hna
      have hs := hsoft j oj hoj hji hj0 hna
      have hset : (L.setIfInBounds i true).getD i false = true := set_self (by omega)
      have H2 : stepD P ops.toList oi s (fun s1 => (plainR (tOp P s1 oj.op) ∧ NoClash s1 oi.op (tOp P s1 oj.op)) ∧
          stepD P ops.toList oj s1 (anyT P ops A K f ((L.setIfInBounds i true).setIfInBounds j true)) oj.guard) oi.guard := by
        refine step_mono (fun s1 _ hk => ?_) H
        obtain ⟨h5, h6⟩ := hk.2 j (ready_mono hj hji) oj hoj
        exact ⟨⟨h5.1, h5.2 i oi hi hset hna⟩, h6⟩
      have q1 : ∀ d, oi.dst = some d → d ∉ oj.looksAt ops := fun d hd hl => (S.look i j oi oj d hi hoj hd hl).2.elim hna fun h => hnb h.1
      have q2 : ∀ d, oi.dst = some d → oj.dst ≠ some d := fun d hd => S.one i j oi oj d hi hoj hd (Ne.symm hji)
      have q3 : ∀ d, oj.dst = some d → d ∉ oi.looksAt ops := fun d hd hl => (S.look j i oj oi d hoj hi hd hl).2.elim hnb fun h => hna h.1
      have q4 : ∀ d, oi.dst = some d → d ∉ oi.looksAt ops := fun d hd hl => (S.look i i oi oi d hi hi hd hl).1 rfl
      obtain ⟨H3, hplj⟩ := swap (anyT_closed hK f _) q1 q2 q3 q4 (fun d hd => (F i oi d hi hi0 hd).resolve_left hnt) hs hok.1 H2
      -- the conflicts at oj
      have hokj : okL P ops A L j oj s := by
        obtain ⟨E, hE, kE⟩ := step_eff (step_mono (fun s1 _ hk => hk.2 j (ready_mono hj hji) oj hoj) H)
        have conc : ∀ s1, (∀ t, oi.dst ≠ some t → lk s1.env t = lk s.env t) → (∀ k, (∃ x, k ∈ (ev s x).ment) → lkH s1.hp k = lkH s.hp k) → s.M = s1.M → touchR s (tOp P s oj.op) = touchR s1 (tOp P s oj.op) →
            okL P ops A (L.setIfInBounds i true) j oj s1 → okL P ops A L j oj s := fun s1 he hh hM ht h5 => by
          have hl : ∀ t ∈ oj.looksAt ops, lk s.env t = lk s1.env t := fun t ht => (he t fun e => q1 t e ht).symm
          have e1 := dep_plain hplj (ev_same hl) (fun k hk => (hh k (by obtain ⟨x, _, hx⟩ := addr_ment hk; exact ⟨x, hx⟩)).symm) (by rw [hM]; exact Mem.le.refl _)
          refine ⟨hplj, fun i' oi' hi' hl' ha' => ?_⟩
          have hlt' : i' < ops.size := (Array.getElem?_eq_some_iff.1 hi').1
          by_cases hqt : Quiet ops oi'
          · exact quiet_noClash hqt hoj
          have h6 := h5.2 i' oi' hi' (getD_set_true hl') ha'
          rw [← e1] at h6
          have hsame : ∀ x ∈ oi'.op.operands, ev s1 x = ev s x := ev_same (ops := ops) fun t ht => by
            refine he t fun e => ?_
            have := dn_anc S hL D i' (fun o ho e he hb => D i' o ho hl' e he hb) hlt' ((S.look i i' oi oi' t hi hi' e ht).2.resolve_right fun h => h.2.elim hnt hqt)
            rw [hi0] at this; cases this
          refine noClash_of hsame (fun k hk => (hh k ?_).symm) ht h6
          rw [addr_same hsame] at hk
          obtain ⟨x, _, hx⟩ := addr_ment hk
          exact ⟨x, hx⟩
        rcases soft_put hs hE with ⟨v, rfl⟩ | ⟨T, cs, rfl, _⟩
        · refine conc _ (fun t ht => put_lk ht) (fun k _ => by rw [put_hp]) put_M.symm ?_ kE.1
          cases tOp P s oj.op <;> simp only [touchR, put_hp]
        · obtain ⟨t, hd, ⟨_, a1⟩, k1⟩ := newE_of kE
          refine conc (newSt s t (s.kb + t) T cs) (fun j hj => ?_) (fun k hk => ?_) rfl ?_ k1.1
          · simp only [newSt, lk]; rw [if_neg fun e => hj (by rw [hd, e])]
          · obtain ⟨x, hx⟩ := hk
            simp only [newSt, lkH]; rw [if_neg fun e => away_ev a1.env x (by rw [e]; exact hx)]
          · have hra := tOp_away (P := P) (a1.op oj.op)
            generalize tOp P s oj.op = r at hra
            cases r with
            | call f args =>
              have hra : s.kb + t ∉ mentL args := hra
              simp only [touchR]
              refine reach_agree fun k hk => ?_
              simp only [newSt, lkH]; rw [if_neg fun e => hra (by rw [e]; exact hk)]
            | _ => rfl
      refine ⟨hokj, step_mono (fun s2 he hk => ?_) H3⟩
      rw [Array.setIfInBounds_comm _ _ (Ne.symm hji)] at hk
      refine ih (L.setIfInBounds j true) s2 (by rw [set_size]; exact hL) (dn_set D hL hj) (fun k ok d hk0 hl0 hd => ?_) (fun k ok hk0 hki hl0 ha => ?_) (ready_mono hr (Ne.symm hji)) ⟨hk.1, fun i' oi' _ _ _ => ?_⟩ hk.2
      · have hkj : j ≠ k := fun e => by subst e; rw [set_self (by omega)] at hl0; cases hl0
        rw [getD_set_ne false hkj] at hl0
        exact (F k ok d hk0 hl0 hd).imp id (he d (fun e => S.one k j ok oj d hk0 hoj hd (Ne.symm hkj) e))
      · have hkj : j ≠ k := fun e => by subst e; rw [set_self (by omega)] at hl0; cases hl0
        rw [getD_set_ne false hkj] at hl0
        exact hsoft k ok hk0 hki hl0 ha
      · have := soft_ra (P := P) (s := s2) hs
        generalize tOp P s2 oi.op = r at this
        cases r <;> first | exact this.elim | exact ⟨fun k _ => by simp [touchR], fun k hk => by simp [killR] at hk⟩
def keysOf (ops : List Oper) (s : St) : List Nat → List Nat
  | [] => []
  | i :: r => match opAt ops i with
    | some o => addrL s o.op ++ keysOf ops s r
    | none => keysOf ops s r
def looksK (s : St) (op : Op) : List Nat := mentL (op.operands.toList.map (ev s)) ++ cellsK s.hp (addrL s op)
def looksL (ops : List Oper) (s : St) : List Nat → List Nat
  | [] => []
  | i :: r => match opAt ops i with
    | some o => looksK s o.op ++ looksL ops s r
    | none => looksL ops s r
def disj : List Nat → List Nat → Bool
  | [], _ => true
  | k :: r, ms => !hasK k ms && disj r ms
def okR (ops : List Oper) (s : St) (chk : List Nat) : Res → Prop
  | .ask => False
  | .bad => False
  | .sto _ k _ => disj (keysOf ops s chk) [k] = true
  | .call _ args => disj (keysOf ops s chk) (reachK s.hp (mentL args)) = true
  | .gen (.app _ (x :: _)) => disj x.ment (looksL ops s chk) = true
  | _ => True
def runD (P : Program) (ops : List Oper) : List (Nat × List Nat) → (St → Prop) → St → Prop
  | [], K, s => K s
  | (j, chk) :: r, K, s => match opAt ops j with
    | none => False
    | some o => obl (okR ops s chk (tOp P s o.op)) (stepD P ops o s (runD P ops r K) o.guard)
theorem runD_congr (P : Program) (ops : List Oper) (plan : List (Nat × List Nat)) (K : St → Prop) (s s' : St) (h : hold s = s') : runD P ops plan K s = runD P ops plan K s' := by subst h; rfl
theorem okR_congr (ops : List Oper) (s s' : St) (chk : List Nat) (r r' : Res) (hs : hold s = s') (h : hold r = r') : okR ops s chk r = okR ops s' chk r' := by subst hs; subst h; rfl
def planB (ops : Array Oper) (A : List (List Nat)) : List (Nat × List Nat) → Array Bool → Bool
  | [], L => (List.range ops.size).all fun j => L.getD j false
  | (j, chk) :: r, L => match ops[j]? with
    | none => false
    | some oj => !(L.getD j false) && (oj.after.all (fun e => !(Region.binds .any e) || L.getD e.on false) &&
        (((List.range ops.size).all fun i => match ops[i]? with
          | some oi => !(L.getD i false) || ((anc A j).contains i || (chk.contains i || (!(isAddr oi.op) && !(isApp oi.op) && !(isApp oj.op))))
          | none => true) &&
        (((List.range ops.size).all fun k => k == j || (L.getD k false || ((anc A k).contains j || softOp oj.op))) && planB ops A r (L.setIfInBounds j true))))
def sepB (ops : Array Oper) (A : List (List Nat)) : Bool :=
  (List.range ops.size).all fun j => match ops[j]? with
    | none => false
    | some oj => ((anc A j).all fun i => oj.after.any fun e => Region.binds .any e && ((e.on == i || (anc A e.on).contains i) && decide (e.on < j))) &&
      (List.range ops.size).all fun i => match ops[i]? with
        | none => false
        | some oi => match oi.dst with
          | none => true
          | some d => (i == j || oj.dst != some d) && (!((oj.looksAt ops).contains d) || (i != j && ((anc A j).contains i || ((anc A i).contains j && (totB ops A i || quietB ops oj)))))
theorem sep_of (h : sepB ops A = true) : SepA ops A := by
  simp only [sepB, List.all_eq_true, List.mem_range] at h
  refine ⟨fun j oj i hj hi => ?_, fun i j oi oj d hi hj hd hne => ?_, fun i j oi oj d hi hj hd hl => ?_⟩
  · have h1 := h j (Array.getElem?_eq_some_iff.1 hj).1
    simp only [hj, Bool.and_eq_true, List.all_eq_true] at h1
    have h2 := h1.1 i hi
    obtain ⟨e, he, hb⟩ := Array.any_eq_true'.1 h2
    simp only [Bool.and_eq_true, Bool.or_eq_true, beq_iff_eq, decide_eq_true_eq, List.contains_iff_mem] at hb
    exact ⟨e, he, hb.1, hb.2.1, hb.2.2⟩
  all_goals
    have h1 := h j (Array.getElem?_eq_some_iff.1 hj).1
    simp only [hj, Bool.and_eq_true, List.all_eq_true, List.mem_range] at h1
    have h2 := h1.2 i (Array.getElem?_eq_some_iff.1 hi).1
    simp only [hi, hd, Bool.and_eq_true, Bool.or_eq_true, beq_iff_eq, bne_iff_ne, List.contains_iff_mem, Bool.not_eq_true'] at h2
  · exact h2.1.resolve_left hne
  · rcases h2.2 with h3 | h3
    · have : (oj.looksAt ops).contains d = true := by simpa using hl
      rw [this] at h3; cases h3
    · exact ⟨h3.1, h3.2.imp id fun h => ⟨h.1, h.2.imp totB_ok quietB_ok⟩⟩
theorem disj_ok {k : Nat} : ∀ {ks ms : List Nat}, disj ks ms = true → k ∈ ks → k ∉ ms
  | j :: r, ms, h, hk => by
    simp only [disj, Bool.and_eq_true, Bool.not_eq_true'] at h
    rcases List.mem_cons.1 hk with rfl | hk
    · exact hasK_no.1 h.1
    · exact disj_ok h.2 hk
theorem keys_mem {l : List Oper} {i : Nat} {o : Oper} {k : Nat} (hi : l[i]? = some o) (hk : k ∈ addrL s o.op) : ∀ chk : List Nat, i ∈ chk → k ∈ keysOf l s chk
  | [], h => by cases h
  | j :: r, h => by
    simp only [keysOf, opAt_eq]
    rcases List.mem_cons.1 h with rfl | h
    · rw [hi]; exact List.mem_append_left _ hk
    · have := keys_mem hi hk r h
      split
      · exact List.mem_append_right _ this
      · exact this
theorem looks_mem {l : List Oper} {i : Nat} {o : Oper} {k : Nat} (hi : l[i]? = some o) (hk : k ∈ looksK s o.op) : ∀ chk : List Nat, i ∈ chk → k ∈ looksL l s chk
  | [], h => by cases h
  | j :: r, h => by
    simp only [looksL, opAt_eq]
    rcases List.mem_cons.1 h with rfl | h
    · rw [hi]; exact List.mem_append_left _ hk
    · have := looks_mem hi hk r h
      split
      · exact List.mem_append_right _ this
      · exact this
theorem cellsK_of {hp : Hp} {k j : Nat} {T : TypeId} {cs : List AV} (hj : lkH hp j = some (T, cs)) (hk : k ∈ mentL cs) : ∀ {ks : List Nat}, j ∈ ks → k ∈ cellsK hp ks
  | i :: r, h => by
    simp only [cellsK]
    rcases List.mem_cons.1 h with rfl | h
    · rw [hj]; exact List.mem_append_left _ hk
    · exact List.mem_append_right _ (cellsK_of hj hk h)
theorem awayOp_of {k : Nat} {op : Op} (h : k ∉ looksK s op) : AwayOp k s op := by
  unfold looksK at h
  simp only [List.mem_append, not_or] at h
  exact ⟨fun x hx hm => h.1 (mentL_of (List.mem_map.2 ⟨x, by simpa using hx, rfl⟩) hm), fun j hj T cs hl hm => h.2 (cellsK_of hl hm hj)⟩
theorem okR_plain {l : List Oper} {chk : List Nat} {r : Res} (h : okR l s chk r) : plainR r := by
  cases r with
  | ask => exact h.elim
  | bad => exact h.elim
  | _ => trivial
theorem runD_any (S : SepA ops A) {K K' : St → Prop} (hK : Closed K') (hKK : ∀ s, K s → K' s) : ∀ (plan : List (Nat × List Nat)) (L : Array Bool) (s : St), L.size = ops.size → Dn ops L → Fresh ops A L s →
    planB ops A plan L = true → runD P ops.toList plan K s → anyT P ops A K' plan.length L s
  | [], L, s, hL, D, F, hp, h => by
    refine ⟨?_, hKK _ h⟩
    refine List.eq_nil_iff_forall_not_mem.2 fun j hj => ?_
    obtain ⟨h0, oj, hoj, _⟩ := mem_ready.1 hj
    have hlt : j < ops.size := (Array.getElem?_eq_some_iff.1 hoj).1
    simp only [planB, List.all_eq_true, List.mem_range] at hp
    have := hp j hlt
    rw [getD_lt (by omega) false true, h0] at this
    cases this
  | (j, chk) :: r, L, s, hL, D, F, hp, h => by
    simp only [planB] at hp
    simp only [runD, opAt_eq, Array.getElem?_toList] at h
    cases hoj : ops[j]? with
    | none => rw [hoj] at hp; cases hp
    | some oj =>
      rw [hoj] at hp h
      simp only [Bool.and_eq_true, Bool.not_eq_true', List.all_eq_true, List.mem_range, Bool.or_eq_true, beq_iff_eq, List.contains_iff_mem] at hp
      obtain ⟨p0, p1, p2, p3, p4⟩ := hp
      have o1 := okR_plain h.1
      have hlt : j < ops.size := (Array.getElem?_eq_some_iff.1 hoj).1
      have hready : j ∈ Region.ready .any ops L := by
        refine mem_ready.2 ⟨by rw [getD_lt (by omega) true false]; exact p0, oj, hoj, fun e he hb => ?_⟩
        have := Array.all_eq_true_iff_forall_mem.1 p1 e he
        simpa [hb] using this
      have hokj : okL P ops A L j oj s := by
        refine ⟨o1, fun i oi hi hl ha => ?_⟩
        have hilt : i < ops.size := (Array.getElem?_eq_some_iff.1 hi).1
        have h3 := p2 i hilt
        simp only [hi, hl, Bool.or_eq_true, Bool.not_eq_true', List.contains_iff_mem, Bool.true_eq_false, false_or, ha, Bool.and_eq_true] at h3
        have hi' : ops.toList[i]? = some oi := by rw [Array.getElem?_toList]; exact hi
        have hok := h.1
        have hchk : ∀ k ∈ addrL s oi.op, i ∈ chk := fun k hk => by
          rcases h3 with h3 | h3
          · exact h3
          · rcases addr_isAddr hk with h4 | h4
            · rw [h3.1.1] at h4; cases h4
            · rw [h3.1.2] at h4; cases h4
        constructor
        · intro k hk
          have h5 := keys_mem (s := s) hi' hk chk (hchk k hk)
          generalize tOp P s oj.op = r at hok
          cases r with
          | sto ob j cs => exact disj_ok hok h5
          | call f args => exact disj_ok hok h5
          | _ => simp [touchR]
        · intro k hk
          cases hr : tOp P s oj.op with
          | gen G =>
            obtain ⟨ts, args⟩ := G
            cases args with
            | nil => rw [hr] at hk; simp [killR] at hk
            | cons x q =>
              rw [hr] at hk hok
              have hin : i ∈ chk := by
                rcases h3 with h3 | h3
                · exact h3
                · have := app_isApp hr; rw [h3.2] at this; cases this
              exact awayOp_of fun hm => disj_ok hok hk (looks_mem hi' hm chk hin)
          | _ => rw [hr] at hk; simp [killR] at hk
      refine anyT_first S hK hoj r.length L s hL D F (fun k ok hk hkj hl ha => ?_) hready hokj ?_
      · have hklt : k < ops.size := (Array.getElem?_eq_some_iff.1 hk).1
        have h4 := p3 k hklt
        rcases h4 with h4 | h4 | h4 | h4
        · exact absurd h4 hkj
        · rw [hl] at h4; cases h4
        · exact absurd h4 ha
        · exact h4
      · refine step_mono (fun s' he hk => ?_) h.2
        refine runD_any S hK hKK r (L.setIfInBounds j true) s' (by rw [set_size]; exact hL) (dn_set D hL hready) (fun k ok d hk0 hl0 hd => ?_) p4 hk
        have hkj : j ≠ k := fun e => by subst e; rw [set_self (by omega)] at hl0; cases hl0
        rw [getD_set_ne false hkj] at hl0
        exact (F k ok d hk0 hl0 hd).imp id (he d (fun e => S.one k j ok oj d hk0 hoj hd (Ne.symm hkj) e))
theorem anyT_ok {Q : Exit → Act → World → Prop} (hd : ∀ o ∈ ops.toList, dOK n o.dst) (hK : ∀ s a w, K s → Ga c n s a w → Q .normal a w) :
    ∀ (f : Nat) (L : Array Bool) (s : St) (a : Act) (w : World), anyT P ops A K f L s → Ga c n s a w → wpAny P .any ops Q f L a w
  | 0, L, s, a, w, h, g => ⟨h.1, hK _ _ _ h.2 g⟩
  | f + 1, L, s, a, w, h, ⟨ρ, g⟩ => by
    refine ⟨fun h0 => hK _ _ _ (h.1 h0) ⟨ρ, g⟩, fun j hj => ?_⟩
    unfold wpOp
    cases hoj : ops[j]? with
    | none => obtain ⟨_, o, ho, _⟩ := mem_ready.1 hj; rw [hoj] at ho; cases ho
    | some oj =>
      have h1 := step1_ok (ops := ops) (Kc := wpAny P .any ops Q f (L.setIfInBounds j true)) (Q := Q) (hd oj (by simpa using Array.mem_of_getElem? hoj)) g
        (fun s' a' w' hk hg => anyT_ok hd hK f _ s' a' w' hk hg) (stepD_step (h.2 j hj oj hoj).2)
      simp only []
      split
      · rename_i hw; rw [if_pos hw] at h1; exact .inl h1
      · rename_i hw; rw [if_neg hw] at h1; exact h1
def forgetD : List Nat → Env → Env
  | [], e => e
  | d :: r, e => (d, .unk) :: forgetD r e
def dstsB (ds qs : List Nat) (A : List (List Nat)) (ops : Array Oper) : Bool := (List.range ops.size).all fun j => match ops[j]? with
  | some o => (match o.dst with | some d => hasK d ds || (totB ops A j || hasK d qs) | none => true)
  | none => true
theorem forgetD_lk : ∀ (l : List Nat) (e : Env) (t : Nat), lk (forgetD l e) t = .unk ∨ lk (forgetD l e) t = lk e t
  | [], e, t => .inr rfl
  | d :: r, e, t => by
    simp only [forgetD, lk]
    split
    · exact .inl rfl
    · exact forgetD_lk r e t
theorem forgetD_dst : ∀ (l : List Nat) (e : Env) (d : Nat), d ∈ l → lk (forgetD l e) d = .unk
  | x :: r, e, d, h => by
    simp only [forgetD, lk]
    split
    · rfl
    · rename_i hne
      exact forgetD_dst r e d (by rcases List.mem_cons.1 h with h | h; exact absurd h.symm hne; exact h)
theorem dstsB_ok {ds qs : List Nat} (h : dstsB ds qs A ops = true) {j : Nat} {o : Oper} {d : Nat} (ho : ops[j]? = some o) (hd : o.dst = some d) : d ∈ ds ∨ (Tot ops A j ∨ d ∈ qs) := by
  simp only [dstsB, List.all_eq_true, List.mem_range] at h
  have := h j (Array.getElem?_eq_some_iff.1 ho).1
  simp only [ho, hd, Bool.or_eq_true] at this
  exact this.imp hasK_iff.1 fun h => h.imp totB_ok hasK_iff.1
def noMent (e : Env) : List Nat → Prop
  | [] => True
  | d :: r => (lk e d).ment = [] ∧ noMent e r
theorem noMent_at {e : Env} {d : Nat} : ∀ {l : List Nat}, noMent e l → d ∈ l → (lk e d).ment = []
  | x :: r, h, hd => by
    rcases List.mem_cons.1 hd with rfl | hd
    · exact h.1
    · exact noMent_at h.2 hd
theorem draw_rule (plan : List (Nat × List Nat)) (A : List (List Nat)) (ds qs : List Nat) (h1 : sepB ops A = true) (h2 : planB ops A plan (Array.replicate ops.size false) = true) (h3 : plan.length = ops.size) (h4 : dstsB ds qs A ops = true) (h5 : noMent s.env qs)
    (h : runD P ops.toList plan K { env := forgetD ds s.env, hp := s.hp, M := s.M, kb := s.kb, fx := s.fx, fr := s.fr }) : DrawK P ops s K := by
  intro c n a w Q hd ⟨ρ, g⟩ hQ
  have S := sep_of h1
  have g' : Gam c n { env := forgetD ds s.env, hp := s.hp, M := s.M, kb := s.kb, fx := s.fx, fr := s.fr } ρ a w := by
    refine { g with env := fun t => ?_ }
    rcases forgetD_lk ds s.env t with e | e
    · rw [e]; exact trivial
    · rw [e]; exact g.env t
  have hget : ∀ (j : Nat), (Array.replicate ops.size false).getD j false = false := fun j => by
    by_cases hj : j < ops.size <;> simp [hj]
  have e : ∀ L, wpAny P .any ops Q plan.length L a w → wpAny P .any ops Q ops.size L a w := fun L h => by rw [← h3]; exact h
  refine e _ (anyT_ok (A := A) (K := fun s => ∃ z, Eqv z s ∧ K z) hd (fun s a w hk hg => ?_) plan.length _ _ a w ?_ ⟨ρ, g'⟩)
  · obtain ⟨z, e, hz⟩ := hk
    obtain ⟨ρ, hg⟩ := hg
    exact hQ z a w hz ⟨ρ, hg.eqv e.symm⟩
  · refine runD_any S (K := K) (fun s z e hk => ?_) (fun s hs => ⟨s, .refl s, hs⟩) plan _ _ (by simp) (fun j oj _ hl => ?_) (fun j oj d hj _ hd => ?_) h2 h
    · obtain ⟨y, e', hy⟩ := hk
      exact ⟨y, e'.trans e, hy⟩
    · rw [hget] at hl; cases hl
    · rcases dstsB_ok h4 hj hd with h6 | h6 | h6
      · right
        rw [forgetD_dst _ _ d h6]; rfl
      · exact .inl h6
      · right
        rcases forgetD_lk ds s.env d with e | e
        · show (lk (forgetD ds s.env) d).ment = []
          rw [e]; rfl
        · show (lk (forgetD ds s.env) d).ment = []
          rw [e]; exact noMent_at h5 h6
end
end Go.Proofs.YtamghpnjdohnjaaDoor.Sx
namespace Go.Proofs.YtamghpnjdohnjaaDoor.Sx
open Go Go.RowKit
set_option linter.unusedVariables false
set_option linter.unusedSimpArgs false
structure Go1 (p : Prop) : Prop where
  intro ::
  get : p
theorem Go1.mk {p : Prop} (h : Go1 p) : p := h.get
theorem Go1.go {p : Prop} (h : p) : Go1 p := ⟨h⟩
def vcX (P : Program) (R : St → Prop) (id : Nat) (k : List Item) (s : St) : Prop := obl (hasBlk id k = true) (vc P R (popTo id k) s)
theorem vc_exit (P : Program) (R : St → Prop) (id : Nat) (k : List Item) (s : St) : vc P R (.code (.exit id) :: k) s = vcX P R id k s := by rw [vc.eq_6, vcX]
theorem vcX_blk (P : Program) (R : St → Prop) (id i : Nat) (k : List Item) (s : St) : vcX P R id (.blk i :: k) s = if i = id then vc P R k s else vcX P R id k s := by
  unfold vcX; simp only [hasBlk, popTo]
  by_cases e : i = id <;> simp [e, obl]
theorem vcX_code (P : Program) (R : St → Prop) (id : Nat) (c : Code) (k : List Item) (s : St) : vcX P R id (.code c :: k) s = vcX P R id k s := rfl
theorem vcX_stop (P : Program) (R : St → Prop) (id : Nat) (J : St → Prop) (k : List Item) (s : St) : vcX P R id (.stop J :: k) s = vcX P R id k s := rfl
theorem vcX_marks (P : Program) (R : St → Prop) (id : Nat) (l : List Nat) (k : List Item) (s : St) : vcX P R id (.marks l :: k) s = vcX P R id k s := rfl
theorem vcX_congr (P : Program) (R : St → Prop) (id : Nat) (k : List Item) (s s' : St) (h : hold s = s') : vcX P R id k s = vcX P R id k s' := by subst h; rfl
theorem aggA_nil : aggA [] = .ext (.agg #[]) := rfl
theorem aggA_cons (v : AV) (r : List AV) : aggA (v :: r) = match vals (v :: r) with | some vs => .ext (.agg vs.toArray) | none => .ag false (v :: r) := rfl
theorem isSl_s (a : Option Addr) (n c : Nat) : isSl (.slice a n c) = true := rfl
theorem slen_s (a : Option Addr) (n c : Nat) : slen (.slice a n c) = n := rfl
theorem scap_s (a : Option Addr) (n c : Nat) : scap (.slice a n c) = c := rfl
theorem nilS_s (a : Option Addr) (n c : Nat) : nilS (.slice a n c) = a.isNone := rfl
theorem one_bool (b : Bool) : (Value.bool b).oneCell' = true := rfl
theorem one_int (k : IntKind) (n : Int) : (Value.int k n).oneCell' = true := rfl
theorem one_str (s : ByteArray) : (Value.string s).oneCell' = true := rfl
theorem one_ptr (a : Option Addr) : (Value.pointer a).oneCell' = true := rfl
theorem one_sli (a : Option Addr) (n c : Nat) : (Value.slice a n c).oneCell' = true := rfl
theorem one_map (r : Option Nat) : (Value.map r).oneCell' = true := rfl
theorem one_fun (f : Fn) (x y : Array Value) : (Value.func f x y).oneCell' = true := rfl
theorem one_nf : Value.nilFunc.oneCell' = true := rfl
theorem one_ni : Value.nilIface.oneCell' = true := rfl
theorem one_if (t : TypeId) (v : Value) : (Value.iface t v).oneCell' = true := rfl
theorem one_agg (c : Array Value) : (Value.agg c).oneCell' = false := rfl
theorem one_tup (c : Array Value) : (Value.tuple c).oneCell' = false := rfl
theorem one_sl {u : Value} (h : isSl u = true) : u.oneCell' = true := by cases u <;> first | rfl | cases h
theorem lookM_tup (P : Program) (T : TypeId) (M : Mem) (a : Array Value) : lookM P T M (.tuple a) = none := rfl
theorem isPt_p (a : Addr) : isPt (.pointer (some a)) = true := rfl
theorem addP_p (a : Addr) (k : Nat) : addP (.pointer (some a)) k = .pointer (some (a.add k)) := rfl
theorem gsplitD {P : Program} {ops : List Oper} {s s' : St} {chk : List Nat} {T : TypeId} {g : Bool} {u : Value} {B : Prop} (h1 : g = true → okR ops s chk (loadX P s' T (.gd g u)) ∧ B) (h2 : g = false → okR ops s chk (loadX P s' T (.gd g u)) ∧ B) : okR ops s chk (loadX P s' T (.gd g u)) ∧ B := by
  cases g with
  | true => exact h1 rfl
  | false => exact h2 rfl
theorem gsplitG {P : Program} {o : Oper} {s s' : St} {K : St → Prop} {T : TypeId} {g g' : Bool} {u : Value} (h1 : g = true → finG P o s K g' (loadX P s' T (.gd g u))) (h2 : g = false → finG P o s K g' (loadX P s' T (.gd g u))) : finG P o s K g' (loadX P s' T (.gd g u)) := by
  cases g with
  | true => exact h1 rfl
  | false => exact h2 rfl
theorem Le.trans {s z y : St} (h : Le s z) (k : Le z y) : Le s y := fun c n ρ a w g => by
  obtain ⟨ρ', g'⟩ := h c n ρ a w g
  exact k c n ρ' a w g'
def subE : Env → Env → Prop
  | [], _ => True
  | (t, v) :: r, e => lk e t = v ∧ subE r e
def subHp : Hp → Hp → Prop
  | [], _ => True
  | (k, x) :: r, h => lkH h k = some x ∧ subHp r h
def keepLt (kb : Nat) (z : Hp) : Hp → Prop
  | [] => True
  | (k, _) :: r => (kb ≤ k ∨ (lkH z k).isSome = true) ∧ keepLt kb z r
theorem subE_lk : ∀ {z e : Env}, subE z e → ∀ t, lk z t = .unk ∨ lk z t = lk e t
  | [], _, _, t => .inl rfl
  | (d, v) :: r, e, h, t => by
    simp only [lk]
    split
    · rename_i hd; subst hd; exact .inr h.1.symm
    · exact subE_lk h.2 t
theorem subHp_lk : ∀ {z h : Hp}, subHp z h → ∀ k x, lkH z k = some x → lkH h k = some x
  | [], _, _, k, x, hx => by simp [lkH] at hx
  | (j, y) :: r, h, hs, k, x, hx => by
    simp only [lkH] at hx
    split at hx
    · rename_i e; subst e; cases hx; exact hs.1
    · exact subHp_lk hs.2 k x hx
theorem keepLt_ok {kb : Nat} {z : Hp} : ∀ {h : Hp}, keepLt kb z h → ∀ k, k < kb → (lkH h k).isSome = true → (lkH z k).isSome = true
  | [], _, k, _, hk => by simp [lkH] at hk
  | (j, y) :: r, hs, k, hlt, hk => by
    simp only [lkH] at hk
    split at hk
    · rename_i e; subst e; exact hs.1.resolve_left (by omega)
    · exact keepLt_ok hs.2 k hlt hk
theorem le_sub {s z : St} (h1 : subE z.env s.env) (h2 : subHp z.hp s.hp) (h3 : z.M = s.M) (h4 : z.kb = s.kb) (h5 : z.fx = s.fx) (h6 : keepLt s.kb z.hp s.hp) (h7 : ∀ b, b ∈ z.fr → b ∈ s.fr := by first | exact fun _ h => h | exact fun _ h => (List.not_mem_nil h).elim) : Le s z := fun c n ρ a w g => by
  have hS : ∀ k, (lkH z.hp k).isSome = true → (lkH s.hp k).isSome = true := fun k hk => by
    obtain ⟨x, hx⟩ := Option.isSome_iff_exists.1 hk
    rw [subHp_lk h2 k x hx]; rfl
  refine ⟨ρ, { df := g.df, sz := g.sz, env := fun t => ?_, hp := fun k T cs b hk hb => ?_, no := fun k T cs hk hb => g.no k T cs (subHp_lk h2 k _ hk) hb, inj := fun k k' b b' hk hk' => g.inj k k' b b' (hS k hk) (hS k' hk'), os := g.os, tape := g.tape, output := g.output, size := g.size, block := g.block, sub := by rw [h3]; exact g.sub, le := by rw [h3]; exact g.le, mf := by rw [h3]; exact g.mf, fix := fun k hk => keepLt_ok h6 k (g.kl k hk) (g.fix k hk), fx := by rw [h5]; exact g.fx, kl := by rw [h4]; exact g.kl, fr := fun b hb => g.fr b (h7 b hb) }⟩
  · rcases subE_lk h1 t with e | e
    · rw [e]; trivial
    · rw [e]; exact g.env t
  · rw [h3]; exact g.hp k T cs b (subHp_lk h2 k _ hk) hb
theorem le_nil {s : St} (t k : Nat) (T : TypeId) (zz : Nat) (h1 : lk s.env t = .ext (.slice none 0 0)) (h2 : awayP k s) : Le s { env := (t, .slo k 0 0 zz) :: s.env, hp := (k, T, []) :: s.hp, M := s.M, kb := s.kb, fx := s.fx, fr := s.fr } := fun c n ρ av w g => by
  have hlk : ∀ j x, lkH ((k, T, []) :: s.hp) j = some x → (j = k ∧ x = (T, [])) ∨ (j ≠ k ∧ lkH s.hp j = some x) := fun j x hj => by
    by_cases e : k = j
    · subst e; simp [lkH] at hj; exact .inl ⟨rfl, hj.symm⟩
    · simp [lkH, e] at hj; exact .inr ⟨fun e2 => e e2.symm, hj⟩
  refine ⟨upd ρ k none, { df := g.df, sz := g.sz, env := fun t' => ?_, hp := fun j T' cs b hj hb => ?_, no := fun j T' cs hj hb => ?_, inj := fun j j' b b' hj hj' hb hb' e => ?_, os := g.os, tape := g.tape, output := g.output, size := g.size, block := g.block, sub := g.sub, le := g.le, mf := g.mf, fix := fun j hj => ?_, fx := fun j hj => ?_, kl := g.kl, fr := g.fr }⟩
  · simp only [lk]
    split
    · rename_i e
      subst e
      have := g.env t
      rw [h1] at this
      exact .inr ⟨rfl, none, (fun x e => by cases e), this⟩
    · exact is_upd (awayP_env h2 t') (g.env t')
  · rcases hlk j _ hj with ⟨rfl, hx⟩ | ⟨hne, hx⟩
    · rw [upd_self] at hb; cases hb
    · rw [upd_ne _ _ hne] at hb
      obtain ⟨⟨arr, f1⟩, f2⟩ := g.hp j T' cs b hx hb
      exact ⟨⟨arr, f1.there, f1.size, f1.le, fun i v hv => is_upd (fun hm => (awayP_hp h2 j T' cs hx).2 (mentL_get hv hm)) (f1.is i v hv)⟩, f2⟩
  · rcases hlk j _ hj with ⟨rfl, hx⟩ | ⟨hne, hx⟩
    · cases hx; rfl
    · rw [upd_ne _ _ hne] at hb; exact g.no j T' cs hx hb
  · obtain ⟨x, hx⟩ := Option.isSome_iff_exists.1 hj
    obtain ⟨x', hx'⟩ := Option.isSome_iff_exists.1 hj'
    rcases hlk j x hx with ⟨rfl, _⟩ | ⟨hne, hx1⟩
    · rw [upd_self] at hb; cases hb
    · rcases hlk j' x' hx' with ⟨rfl, _⟩ | ⟨hne', hx2⟩
      · rw [upd_self] at hb'; cases hb'
      · rw [upd_ne _ _ hne] at hb
        rw [upd_ne _ _ hne'] at hb'
        exact g.inj j j' b b' (by rw [hx1]; rfl) (by rw [hx2]; rfl) hb hb' e
  · simp only [lkH]
    split
    · rfl
    · exact g.fix j hj
  · rw [upd_ne _ _ fun e => awayP_fx h2 (by rw [← e]; exact hj)]; exact g.fx j hj
structure SlM (M : Mem) (z : Nat) (u : Value) (n : Nat) (cs : List Value) : Prop where
  sl : isSl u = true
  len : slen u = n
  cap : n ≤ scap u
  size : cs.length = n * z
  row : rowS M z u = some cs
theorem rowS_le {M M' : Mem} (h : Mem.le M M') {z : Nat} {u : Value} {l : List Value} (hr : rowS M z u = some l) : rowS M' z u = some l := by
  unfold rowS at hr ⊢
  split at hr
  · exact hr
  · exact rowM_le h hr
  · cases hr
theorem SlM.le {M M' : Mem} {z n : Nat} {u : Value} {cs : List Value} (h : SlM M z u n cs) (hM : Mem.le M M') : SlM M' z u n cs := ⟨h.sl, h.len, h.cap, h.size, rowS_le hM h.row⟩
theorem SlM.cases {M : Mem} {z n : Nat} {u : Value} {cs : List Value} (h : SlM M z u n cs) : (n = 0 ∧ cs = [] ∧ ∃ c, u = .slice none 0 c) ∨ ∃ b off c, u = .slice (some ⟨b, off, none⟩) n c ∧ n ≤ c ∧ rowM M b off (n * z) = some cs := by
  obtain ⟨h1, h2, h3, h4, h5⟩ := h
  unfold rowS at h5
  split at h5
  · left; simp only [slen] at h2; cases h5; exact ⟨h2.symm, rfl, _, rfl⟩
  · right; simp only [slen] at h2; subst h2; exact ⟨_, _, _, rfl, h3, h5⟩
  · cases h5
theorem SlM.nn {M : Mem} {z n : Nat} {u : Value} {cs : List Value} (h : SlM M z u n cs) (h0 : 0 < n) : nilS u = false := by
  rcases h.cases with ⟨h1, _⟩ | ⟨b, off, c, rfl, _⟩
  · omega
  · rfl
theorem rowM_get {M : Mem} {b : Nat} : ∀ {m off : Nat} {l : List Value}, rowM M b off m = some l → l.length = m ∧ ∀ i v, l[i]? = some v → cellM M b (off + i) = some v
  | 0, off, l, h => by simp only [rowM, Option.some.injEq] at h; subst h; simp
  | m + 1, off, l, h => by
    simp only [rowM] at h
    split at h
    · rename_i v r h1 h2
      simp only [Option.some.injEq] at h
      subst h
      obtain ⟨h3, h4⟩ := rowM_get h2
      refine ⟨by simp [h3], fun i u hi => ?_⟩
      cases i with
      | zero => simp at hi; subst hi; exact h1
      | succ i => have := h4 i u (by simpa using hi); rw [show off + (i + 1) = off + 1 + i by omega]; exact this
    · cases h
theorem rowM_of {M : Mem} {b : Nat} : ∀ {m off : Nat} {l : List Value}, l.length = m → (∀ i v, l[i]? = some v → cellM M b (off + i) = some v) → rowM M b off m = some l
  | 0, off, l, h, _ => by have : l = [] := List.eq_nil_of_length_eq_zero h; subst this; rfl
  | m + 1, off, [], h, _ => by simp at h
  | m + 1, off, v :: l, h, hc => by
    simp only [rowM]
    rw [show cellM M b off = some v from hc 0 v rfl, rowM_of (l := l) (by simpa using h) fun i u hi => by have := hc (i + 1) u (by simpa using hi); rw [show off + (i + 1) = off + 1 + i by omega] at this; exact this]
theorem SlM.at1 {P : Program} {T : TypeId} {M : Mem} {n : Nat} {u : Value} {cs : List Value} (h : SlM M 1 u n cs) (hk : kindT P T = some false) (hz : szO P T = some 1) {i : Nat} {v : Value} (hi : cs[i]? = some v) : lookM P T M (elemP u 1 i) = some v := by
  rcases h.cases with ⟨_, rfl, _⟩ | ⟨b, off, c, rfl, _, hr⟩
  · simp at hi
  · obtain ⟨_, h2⟩ := rowM_get hr
    simp only [elemP, addr_add, lookM, hk, hz, Nat.mul_one]
    exact h2 i v hi
theorem SlM.atS {P : Program} {T : TypeId} {M : Mem} {n z : Nat} {u : Value} {cs : List Value} (h : SlM M z u n cs) (hk : kindT P T = some true) (hz : szO P T = some z) {i : Nat} (hi : i < n) : lookM P T M (elemP u z i) = some (.agg ((cs.drop (i * z)).take z).toArray) := by
  rcases h.cases with ⟨h0, _⟩ | ⟨b, off, c, rfl, _, hr⟩
  · omega
  · obtain ⟨h1, h2⟩ := rowM_get hr
    have hle : (i + 1) * z ≤ n * z := Nat.mul_le_mul_right z hi
    rw [Nat.succ_mul] at hle
    simp only [elemP, addr_add, lookM, hk, hz]
    rw [rowM_of (l := (cs.drop (i * z)).take z) (by simp; omega) fun j v hj => ?_]
    · rfl
    · have hjl : j < z := by have := (List.getElem?_eq_some_iff.1 hj).1; simp at this; omega
      rw [List.getElem?_take_of_lt hjl, List.getElem?_drop] at hj
      have := h2 _ v hj
      rw [Nat.add_assoc]; exact this
def IsL {α : Type} (M : Mem) (g : α → Value) (u : Value) (l : List α) : Prop := SlM M 1 u l.length (l.map g)
section
variable {α : Type} {M M' : Mem} {g : α → Value} {u : Value} {l : List α}
theorem IsL.le (h : IsL M g u l) (hM : Mem.le M M') : IsL M' g u l := SlM.le h hM
theorem IsL.sl (h : IsL M g u l) : isSl u = true := SlM.sl h
theorem IsL.one (h : IsL M g u l) : u.oneCell' = true := one_sl (SlM.sl h)
theorem IsL.len (h : IsL M g u l) : slen u = l.length := SlM.len h
theorem IsL.cap (h : IsL M g u l) : l.length ≤ scap u := SlM.cap h
theorem IsL.nn (h : IsL M g u l) {i : Nat} (hi : i < l.length) : nilS u = false := SlM.nn h (by omega)
theorem IsL.at {P : Program} {T : TypeId} (h : IsL M g u l) (hk : kindT P T = some false) (hz : szO P T = some 1) {i : Nat} (hi : i < l.length) : lookM P T M (elemP u 1 i) = some (g l[i]) := SlM.at1 h hk hz (by simp [hi])
theorem IsL.row (h : IsL M g u l) : rowS M 1 u = some (l.map g) := SlM.row h
end
def IsR {α : Type} (M : Mem) (z : Nat) (f : α → List Value) (u : Value) (l : List α) : Prop := SlM M z u l.length (l.flatMap f)
theorem flat_part {α : Type} {z : Nat} {f : α → List Value} (hf : ∀ x, (f x).length = z) : ∀ (l : List α) (i : Nat) (h : i < l.length), ((l.flatMap f).drop (i * z)).take z = f l[i]
  | [], i, h => by simp at h
  | x :: l, 0, h => by simp [List.flatMap_cons, ← hf x]
  | x :: l, i + 1, h => by
    have h1 : (f x ++ l.flatMap f).drop ((i + 1) * z) = (l.flatMap f).drop (i * z) := by
      rw [Nat.succ_mul, List.drop_append, hf x, Nat.add_sub_cancel, List.drop_eq_nil_of_le (by rw [hf x]; omega), List.nil_append]
    rw [List.flatMap_cons, h1]
    simpa using flat_part hf l i (by simpa using h)
section
variable {α : Type} {M M' : Mem} {z : Nat} {f : α → List Value} {u : Value} {l : List α}
theorem IsR.le (h : IsR M z f u l) (hM : Mem.le M M') : IsR M' z f u l := SlM.le h hM
theorem IsR.sl (h : IsR M z f u l) : isSl u = true := SlM.sl h
theorem IsR.one (h : IsR M z f u l) : u.oneCell' = true := one_sl (SlM.sl h)
theorem IsR.len (h : IsR M z f u l) : slen u = l.length := SlM.len h
theorem IsR.cap (h : IsR M z f u l) : l.length ≤ scap u := SlM.cap h
theorem IsR.nn (h : IsR M z f u l) {i : Nat} (hi : i < l.length) : nilS u = false := SlM.nn h (by omega)
theorem IsR.at {P : Program} {T : TypeId} (h : IsR M z f u l) (hf : ∀ x, (f x).length = z) (hk : kindT P T = some true) (hz : szO P T = some z) {i : Nat} (hi : i < l.length) : lookM P T M (elemP u z i) = some (.agg (f l[i]).toArray) := by
  rw [SlM.atS h hk hz hi, flat_part hf l i hi]
theorem IsR.row (h : IsR M z f u l) : rowS M z u = some (l.flatMap f) := SlM.row h
end
theorem slM_nil (M : Mem) (z c : Nat) : SlM M z (.slice none 0 c) 0 [] := ⟨rfl, rfl, Nat.zero_le _, by simp, rfl⟩
theorem isL_nil {α : Type} (M : Mem) (g : α → Value) (c : Nat) : IsL M g (.slice none 0 c) [] := slM_nil M 1 c
def Mem.set (M : Mem) (b : Nat) (o : Obj) : Mem := fun x => if x = b then some o else M x
theorem slo_SlM {ρ : Rho} {M : Mem} {w : World} {k n z : Nat} {u : Value} {T : TypeId} {cs : List Value} (hu : (AV.slo k 0 n z).is ρ u) (hl : cs.length = n * z) (hr : ∀ b, ρ k = some b → ∃ arr, M b.b = some (.cells arr T (0, 0)) ∧ Row ρ w T (cs.map .ext) b arr) : SlM M z u n cs := by
  rcases hu with ⟨b, cap, hb, rfl, h1, h2⟩ | ⟨rfl, a, ha, rfl⟩
  · obtain ⟨arr, h3, h4⟩ := hr b hb
    refine ⟨rfl, rfl, h1, hl, ?_⟩
    simp only [rowS]
    refine rowM_of hl fun i v hi => ?_
    have h5 := h4.is i (.ext v) (by simp [hi])
    have h5 : arr.getD i undef = v := h5
    have h6 : i < arr.size := by
      have := (List.getElem?_eq_some_iff.1 hi).1
      have := h4.le
      have := h4.size
      simp at *; omega
    simp only [cellM, h3, Nat.zero_add]
    simp [Array.getD, h6] at h5
    simp [h6, h5]
  · have : cs = [] := List.eq_nil_of_length_eq_zero (by simpa using hl)
    subst this
    refine ⟨rfl, rfl, Nat.zero_le _, hl, ?_⟩
    cases a with
    | none => rfl
    | some a =>
      obtain ⟨b, off, sp⟩ := a
      cases sp with
      | none => simp [rowS, rowM]
      | some x => cases ha _ rfl
theorem isL_mid {ρ : Rho} : ∀ {l1 l2 : List AV} {v : AV} {us : List Value}, isL ρ (l1 ++ v :: l2) us → ∃ u1 u u2, us = u1 ++ u :: u2 ∧ isL ρ l1 u1 ∧ v.is ρ u ∧ isL ρ l2 u2
  | [], l2, v, us, h => by obtain ⟨u, r, rfl, h1, h2⟩ := h; exact ⟨[], u, r, rfl, rfl, h1, h2⟩
  | x :: l1, l2, v, us, h => by
    obtain ⟨u, r, rfl, h1, h2⟩ := h
    obtain ⟨u1, u', u2, rfl, h3, h4, h5⟩ := isL_mid h2
    exact ⟨u :: u1, u', u2, rfl, ⟨u, u1, rfl, h1, h3⟩, h4, h5⟩
theorem Mem.le_set {M : Mem} {b : Nat} {o : Obj} (h : M b = none) : Mem.le M (Mem.set M b o) := fun x p hx => by
  unfold Mem.set; split
  · rename_i e; rw [e, h] at hx; cases hx
  · exact hx
theorem HeapIs.frz {ρ : Rho} {k : Nat} {T : TypeId} {cs : List Value} {H : Hp} {M : Mem} {w : World} (h : HeapIs ρ ((k, T, cs.map .ext) :: H) M w) (hk : lkH H k = none) :
    ∃ M', Mem.le M M' ∧ (∀ b, M' b ≠ none → M b ≠ none ∨ ∃ x, ρ k = some x ∧ x.b = b) ∧ HeapIs ρ H M' w ∧ ∀ b, ρ k = some b → ∃ arr, M' b.b = some (.cells arr T (0, 0)) ∧ Row ρ w T (cs.map .ext) b arr := by
  have hlk : ∀ j x, lkH H j = some x → j ≠ k ∧ lkH ((k, T, cs.map .ext) :: H) j = some x := fun j x hj => by
    have hne : j ≠ k := fun e => by rw [e, hk] at hj; cases hj
    exact ⟨hne, by simp only [lkH]; rw [if_neg (Ne.symm hne)]; exact hj⟩
  have hself : lkH ((k, T, cs.map .ext) :: H) k = some (T, cs.map .ext) := by simp [lkH]
  have inj : ∀ j j' b b', (lkH H j).isSome = true → (lkH H j').isSome = true → ρ j = some b → ρ j' = some b' → b.b = b'.b → j = j' := fun j j' b b' hj hj' => by
    obtain ⟨x, hx⟩ := Option.isSome_iff_exists.1 hj
    obtain ⟨x', hx'⟩ := Option.isSome_iff_exists.1 hj'
    exact h.inj j j' b b' (by rw [(hlk j x hx).2]; rfl) (by rw [(hlk j' x' hx').2]; rfl)
  cases hb : ρ k with
  | none =>
    refine ⟨M, Mem.le.refl _, fun b hb => .inl hb, ⟨fun j T' ds b hj => h.hp j T' ds b (hlk j _ hj).2, fun j T' ds hj => h.no j T' ds (hlk j _ hj).2, inj, h.sub⟩, fun b hb' => by cases hb'⟩
  | some b =>
    obtain ⟨⟨arr, h1⟩, h2⟩ := h.hp k T _ b hself hb
    refine ⟨Mem.set M b.b (.cells arr T (0, 0)), Mem.le_set h2, fun x hx => ?_, ⟨fun j T' ds b' hj hb' => ?_, fun j T' ds hj => h.no j T' ds (hlk j _ hj).2, inj, fun x o hx => ?_⟩, fun b' hb' => ?_⟩
    · unfold Mem.set at hx
      split at hx
      · rename_i e; exact .inr ⟨b, rfl, e.symm⟩
      · exact .inl hx
    · obtain ⟨hne, hj2⟩ := hlk j _ hj
      obtain ⟨g1, g2⟩ := h.hp j T' ds b' hj2 hb'
      refine ⟨g1, ?_⟩
      unfold Mem.set
      rw [if_neg fun e => hne (h.inj j k b' b (by rw [hj2]; rfl) (by rw [hself]; rfl) hb' hb e)]
      exact g2
    · unfold Mem.set at hx
      split at hx
      · rename_i e; cases hx; rw [e]; exact h1.there
      · exact h.sub x o hx
    · injection hb' with hb'
      subst hb'
      exact ⟨arr, by simp [Mem.set], h1⟩
def putMid (t : Option Bool) (l1 : List AV) (v : AV) (l2 : List AV) : AV :=
  match t with
  | none => v
  | some t => .ag t (l1 ++ v :: l2)
def putMidV (t : Option Bool) (l1 : List AV) (v : AV) (l2 : List AV) : AV :=
  match t with
  | none => v
  | some true => tupA (l1 ++ v :: l2)
  | some false => aggA (l1 ++ v :: l2)
theorem putMid_ok {ρ : Rho} {t : Option Bool} {l1 l2 : List AV} {v : AV} {x : Value} (h : (putMid t l1 v l2).is ρ x) : ∃ u, v.is ρ u ∧ (putMidV t l1 (.ext u) l2).is ρ x := by
  cases t with
  | none => exact ⟨x, h, rfl⟩
  | some t =>
    obtain ⟨us, h1, rfl⟩ := h
    obtain ⟨u1, u, u2, rfl, h2, h3, h4⟩ := isL_mid h1
    have h5 : isL ρ (l1 ++ .ext u :: l2) (u1 ++ u :: u2) := isL_append h2 ⟨u, u2, rfl, rfl, h4⟩
    refine ⟨u, h3, ?_⟩
    cases t
    · exact aggA_ok h5
    · exact tupA_ok h5
theorem tupA_ment (l : List AV) : (tupA l).ment = mentL l := by
  unfold tupA; split
  · rename_i vs h; rw [vals_ment h]; rfl
  · simp [AV.ment]
theorem putMidV_ment {t : Option Bool} {l1 l2 : List AV} {u : Value} {j : Nat} (h : j ∈ (putMidV t l1 (.ext u) l2).ment) : ∀ v, j ∈ (putMid t l1 v l2).ment := fun v => by
  have e : mentL (l1 ++ AV.ext u :: l2) = mentL l1 ++ mentL l2 := by rw [mentL_append]; simp [mentL, AV.ment]
  cases t with
  | none => simp [putMidV, AV.ment] at h
  | some t =>
    have h2 : j ∈ mentL l1 ++ mentL l2 := by
      cases t <;> simp only [putMidV] at h
      · rw [aggA_ment, e] at h; exact h
      · rw [tupA_ment, e] at h; exact h
    simp only [putMid, AV.ment, mentL_append, mentL, List.mem_append] at h2 ⊢
    rcases h2 with h2 | h2
    · exact .inl h2
    · exact .inr (.inr h2)
def FrzK (K : AV → Hp → Mem → Prop) (H : Hp) (v : AV) (H' : Hp) (M' : Mem) : Prop := K v H' M' ∨ ∃ t l1 l2 k n z T cs H2, v = putMid t l1 (.slo k 0 n z) l2 ∧ H' = (k, T, cs.map .ext) :: H2 ∧ lkH H2 k = none ∧ lkH H k = none ∧ cs.length = n * z ∧
      hasK k (mentL l1 ++ (mentL l2 ++ mentH H2)) = false ∧ ∀ u M'', Mem.le M' M'' → SlM M'' z u n cs → K (putMidV t l1 (.ext u) l2) H2 M''
theorem FrzK.one {K : AV → Hp → Mem → Prop} {H : Hp} {M' : Mem} {k n z : Nat} {T : TypeId} (cs : List Value) (h1 : lkH H k = none) (h2 : cs.length = n * z) (h : ∀ u M'', Mem.le M' M'' → SlM M'' z u n cs → K (.ext u) [] M'') : FrzK K H (.slo k 0 n z) [(k, T, cs.map .ext)] M' :=
  .inr ⟨none, [], [], k, n, z, T, cs, [], rfl, rfl, rfl, h1, h2, rfl, h⟩
theorem FrzK.tup {K : AV → Hp → Mem → Prop} {H : Hp} {M' : Mem} {k n z : Nat} {T : TypeId} (vs1 vs2 : List Value) (cs : List Value) (h1 : lkH H k = none) (h2 : cs.length = n * z) (h : ∀ u M'', Mem.le M' M'' → SlM M'' z u n cs → K (.ext (.tuple (vs1 ++ u :: vs2).toArray)) [] M'') : FrzK K H (.ag true (vs1.map .ext ++ .slo k 0 n z :: vs2.map .ext)) [(k, T, cs.map .ext)] M' := by
  have hv : ∀ l : List Value, vals (l.map .ext) = some l := fun l => by
    induction l with
    | nil => rfl
    | cons x r ih => simp [vals, ih]
  refine .inr ⟨some true, vs1.map .ext, vs2.map .ext, k, n, z, T, cs, [], rfl, rfl, rfl, h1, h2, by simp [mentL_ext, mentH, hasK], fun u M'' hM hs => ?_⟩
  have : putMidV (some true) (vs1.map .ext) (.ext u) (vs2.map .ext) = .ext (.tuple (vs1 ++ u :: vs2).toArray) := by
    have e : (vs1.map AV.ext) ++ AV.ext u :: vs2.map .ext = (vs1 ++ u :: vs2).map .ext := by simp
    simp only [putMidV, tupA, e, hv]
  rw [this]; exact h u M'' hM hs
theorem CallS.frz {P : Program} {f : FuncId} {args : List AV} {H : Hp} {M : Mem} {K : AV → Hp → Mem → Prop} (h : CallS P f args H M [] (FrzK K H)) : CallS P f args H M [] K := by
  intro ρ w us hh he
  refine (h ρ w us hh he).mono fun e w' hall => ?_
  obtain ⟨x, v, H', M', ρ', e1, hor, hl⟩ := hall
  rcases hor with hor | ⟨t, l1, l2, k, n, z, T, cs, H2, rfl, rfl, g1, g2, g3, g4, g5⟩
  · exact ⟨x, v, H', M', ρ', e1, hor, hl⟩
  obtain ⟨u, hu, hx⟩ := putMid_ok hl.is
  obtain ⟨M'', h1, h2, h3, h4⟩ := hl.heap.frz g1
  have hsl := slo_SlM hu g3 h4
  have hK := g5 u M'' h1 hsl
  have hoff := hasK_no.1 g4
  simp only [List.mem_append, not_or] at hoff
  have hlk : ∀ j, lkH H2 j = none → j ≠ k → lkH ((k, T, cs.map .ext) :: H2) j = none := fun j hj hne => by simp only [lkH]; rw [if_neg (Ne.symm hne)]; exact hj
  have hlk2 : ∀ j x, lkH H2 j = some x → lkH ((k, T, cs.map .ext) :: H2) j = some x := fun j x hj => by
    simp only [lkH]; rw [if_neg fun e => by rw [← e, g1] at hj; cases hj]; exact hj
  let ρ2 : Rho := fun j => if j = k then ρ k else ρ' j
  have hρ2 : ∀ j, j ≠ k → ρ' j = ρ2 j := fun j hj => by simp only [ρ2, if_neg hj]
  have hkv : k ∉ (putMidV t l1 (.ext u) l2).ment := fun hm => by
    have := putMidV_ment hm .unk
    cases t with
    | none => simp [putMid, AV.ment] at this
    | some t =>
      simp only [putMid, AV.ment, mentL_append, mentL, List.mem_append, List.not_mem_nil, false_or] at this
      rcases this with h | h
      · exact hoff.1 h
      · exact hoff.2.1 h
  have hkH : ∀ j T' ds, lkH H2 j = some (T', ds) → j ≠ k ∧ k ∉ mentL ds := fun j T' ds hj => ⟨(fun e => by rw [e, g1] at hj; cases hj), fun hm => hoff.2.2 (mentH_lk hj (.inr hm))⟩
  refine ⟨x, _, H2, M'', ρ2, e1, hK, ?_⟩
  refine { is := is_agree (fun j hj => hρ2 j fun e => hkv (e ▸ hj)) hx, heap := ⟨fun j T' ds b hj hb => ?_, fun j T' ds hj hb => ?_, fun j j' b b' hj hj' hb hb' => ?_, h3.sub⟩, keep := fun j hj => ?_, same := fun j hj hm => ?_, ment := fun j hj => ?_, fresh := fun j b hj hb => ?_, os := hl.os, tape := hl.tape, output := hl.output, size := hl.size, block := hl.block, le := hl.le.trans h1, mem := fun b hb => ?_ }
  · obtain ⟨hne, hmm⟩ := hkH j T' ds hj
    rw [← hρ2 j hne] at hb
    obtain ⟨⟨arr, f1⟩, f2⟩ := h3.hp j T' ds b hj hb
    exact ⟨⟨arr, f1.there, f1.size, f1.le, fun i v hv => is_agree (fun q hq => hρ2 q fun e => hmm (mentL_get hv (e ▸ hq))) (f1.is i v hv)⟩, f2⟩
  · rw [← hρ2 j (hkH j T' ds hj).1] at hb; exact h3.no j T' ds hj hb
  · obtain ⟨y, hy⟩ := Option.isSome_iff_exists.1 hj
    obtain ⟨y', hy'⟩ := Option.isSome_iff_exists.1 hj'
    rw [← hρ2 j (hkH j _ _ hy).1] at hb
    rw [← hρ2 j' (hkH j' _ _ hy').1] at hb'
    exact h3.inj j j' b b' hj hj' hb hb'
  · have := hl.keep j hj
    simp only [lkH] at this
    split at this
    · rename_i e; rw [e] at g2; rw [g2] at hj; cases hj
    · exact this
  · by_cases e : j = k
    · show (if j = k then ρ k else ρ' j) = ρ j
      rw [if_pos e, e]
    · rw [← hρ2 j e]
      refine hl.same j ?_ hm
      rcases hj with hj | hj
      · exact .inl hj
      · exact .inr (hlk j hj e)
  · by_cases e : j = k
    · rw [e]; exact ⟨hkv, fun i T' ds hi => (hkH i T' ds hi).2⟩
    · obtain ⟨m1, m2⟩ := hl.ment j (hlk j hj e)
      exact ⟨fun hm => m1 (putMidV_ment hm _), fun i T' ds hi => m2 i T' ds (hlk2 i _ hi)⟩
  · obtain ⟨y, hy⟩ := Option.isSome_iff_exists.1 hj
    rw [← hρ2 j (hkH j _ _ hy).1] at hb
    exact hl.fresh j b (by rw [hlk2 j y hy]; rfl) hb
  · rcases h2 b hb with h5 | ⟨y, h5, rfl⟩
    · exact hl.mem b h5
    · rcases hl.fresh k y (by simp [lkH]) h5 with h6 | ⟨j, q, h6, h7, h8⟩
      · exact .inr h6
      · exfalso
        have hj := hl.keep j h6
        have hj2 : ρ' j = some q := by rw [hl.same j (.inl h6) (by simp)]; exact h7
        have := hl.heap.inj j k q y hj (by simp [lkH]) hj2 h5 h8
        subst this
        rw [g2] at h6; cases h6
theorem isCall {P : Program} {f : FuncId} {args : List AV} {s : St} {d : Option Nat} {K : St → Prop} (h : CallK P f args s d K) : CallK P f args s d K := h
theorem isCallS {P : Program} {f : FuncId} {args : List AV} {H : Hp} {M : Mem} {mv : List Nat} {K : AV → Hp → Mem → Prop} (h : CallS P f args H M mv K) : CallS P f args H M mv K := h
theorem isCall0 {P : Program} {f : FuncId} {args : List AV} {s : St} {d : Option Nat} {K : St → Prop} (h : CallK0 P f args s d K) : CallK0 P f args s d K := h
def sigB : List Oper → List (Option Nat) → Bool
  | [], [] => true
  | o :: r, d :: q => (match o.dst, d with | some a, some b => Nat.beq a b | none, none => true | _, _ => false) && sigB r q
  | _, _ => false
theorem isDraw {P : Program} {ops : Array Oper} {s : St} {K : St → Prop} (ds : List (Option Nat)) (_ : sigB ops.toList ds = true) (h : DrawK P ops s K) : DrawK P ops s K := h
theorem CallS_congr (P : Program) (f : FuncId) (args args' : List AV) (H H' : Hp) (M : Mem) (mv : List Nat) (K : AV → Hp → Mem → Prop) (h : hold args = args') (hH : hold H = H') : CallS P f args H M mv K = CallS P f args' H' M mv K := by subst h; subst hH; rfl
def ltB (kb : Nat) : List Nat → Bool
  | [] => true
  | k :: r => Nat.blt k kb && ltB kb r
theorem ltB_mem {kb : Nat} : ∀ {l : List Nat}, ltB kb l = true → ∀ k ∈ l, k < kb
  | [], _, k, hk => by cases hk
  | j :: r, h, k, hk => by
    simp only [ltB, Bool.and_eq_true] at h
    rcases List.mem_cons.1 hk with rfl | hk
    · simpa using h.1
    · exact ltB_mem h.2 k hk
section
variable {P : Program} {f : FuncId} {fn : Func} {code : Code} {args : List AV} {s : St} {d : Option Nat} {K : St → Prop} {KS : AV → Hp → Mem → Prop} {M : Mem} {H : Hp}
theorem inlS {cs : List Nat} (hmx : P.follows .mixedOrders = true) (hf : P.funcs[f]? = some fn) (hb : fn.body = some code) (hok : codeOK fn.ntmps code = true) (kb : Nat) (hl' : Nat.ble args.length fn.ntmps = true) (hlt : ltB kb (keysH H) = true)
    (h : vc P (RetV P fn.results.toList (keysH H) H KS) [.code code, .marks cs] { env := argEnv 0 args, hp := H, M := M, kb := kb, fx := keysH H }) : CallS P f args H M [] KS :=
  callS_ok hmx hf hb hok kb [] (keysH H) cs hl' (fun k hk => .inr hk) (ltB_mem hlt) h
def afterK (s : St) (d : Option Nat) (H : Hp) (K : St → Prop) (v : AV) (H' : Hp) (M' : Mem) : Prop := obl (newKeys s H H') (K ({ env := s.env, hp := joinH s.hp H', M := M', kb := s.kb, fx := s.fx, fr := s.fr : St }.put d v))
theorem callA (h : CallS P f args (subH s.hp (reachK s.hp (mentL args))) s.M [] (afterK s d (subH s.hp (reachK s.hp (mentL args))) K)) : CallK P f args s d K := callK rfl h
theorem callA0 (h : CallS P f args (subH s.hp (reachK s.hp (mentL args))) s.M [] (afterK s d (subH s.hp (reachK s.hp (mentL args))) K)) : CallK0 P f args s d K := callK0 rfl h
theorem callA_nil (hH : subH s.hp (reachK s.hp (mentL args)) = []) (h : CallS P f args [] s.M [] (afterK s d [] K)) : CallK P f args s d K := callA (by rw [hH]; exact h)
theorem callA0_nil (hH : subH s.hp (reachK s.hp (mentL args)) = []) (h : CallS P f args [] s.M [] (afterK s d [] K)) : CallK0 P f args s d K := callA0 (by rw [hH]; exact h)
end
end Go.Proofs.YtamghpnjdohnjaaDoor.Sx
namespace Go.Proofs.YtamghpnjdohnjaaDoor.Sx
open Go
theorem _root_.Go.Proofs.Tryd.mixed : Tryd.prog.follows .mixedOrders = true := by kernel_rfl
theorem cb10 : callsB Tryd.prog 10 = true := by kernel_rfl
theorem cb100 : callsB Tryd.prog 100 = true := by kernel_rfl
theorem cb101 : callsB Tryd.prog 101 = true := by kernel_rfl
theorem cb102 : callsB Tryd.prog 102 = true := by kernel_rfl
theorem cb103 : callsB Tryd.prog 103 = true := by kernel_rfl
theorem cb104 : callsB Tryd.prog 104 = true := by kernel_rfl
theorem cb105 : callsB Tryd.prog 105 = true := by kernel_rfl
theorem cb106 : callsB Tryd.prog 106 = true := by kernel_rfl
theorem cb107 : callsB Tryd.prog 107 = true := by kernel_rfl
theorem cb108 : callsB Tryd.prog 108 = true := by kernel_rfl
theorem cb109 : callsB Tryd.prog 109 = true := by kernel_rfl
theorem cb11 : callsB Tryd.prog 11 = true := by kernel_rfl
theorem cb110 : callsB Tryd.prog 110 = true := by kernel_rfl
theorem cb111 : callsB Tryd.prog 111 = true := by kernel_rfl
theorem cb112 : callsB Tryd.prog 112 = true := by kernel_rfl
theorem cb113 : callsB Tryd.prog 113 = true := by kernel_rfl
theorem cb114 : callsB Tryd.prog 114 = true := by kernel_rfl
theorem cb115 : callsB Tryd.prog 115 = true := by kernel_rfl
theorem cb116 : callsB Tryd.prog 116 = true := by kernel_rfl
theorem cb117 : callsB Tryd.prog 117 = true := by kernel_rfl
theorem cb118 : callsB Tryd.prog 118 = true := by kernel_rfl
theorem cb119 : callsB Tryd.prog 119 = true := by kernel_rfl
theorem cb12 : callsB Tryd.prog 12 = true := by kernel_rfl
theorem cb120 : callsB Tryd.prog 120 = true := by kernel_rfl
theorem cb121 : callsB Tryd.prog 121 = true := by kernel_rfl
theorem cb123 : callsB Tryd.prog 123 = true := by kernel_rfl
theorem cb124 : callsB Tryd.prog 124 = true := by kernel_rfl
theorem cb125 : callsB Tryd.prog 125 = true := by kernel_rfl
theorem cb126 : callsB Tryd.prog 126 = true := by kernel_rfl
theorem cb127 : callsB Tryd.prog 127 = true := by kernel_rfl
theorem cb128 : callsB Tryd.prog 128 = true := by kernel_rfl
theorem cb129 : callsB Tryd.prog 129 = true := by kernel_rfl
theorem cb13 : callsB Tryd.prog 13 = true := by kernel_rfl
theorem cb130 : callsB Tryd.prog 130 = true := by kernel_rfl
theorem cb132 : callsB Tryd.prog 132 = true := by kernel_rfl
theorem cb133 : callsB Tryd.prog 133 = true := by kernel_rfl
theorem cb134 : callsB Tryd.prog 134 = true := by kernel_rfl
theorem cb135 : callsB Tryd.prog 135 = true := by kernel_rfl
theorem cb136 : callsB Tryd.prog 136 = true := by kernel_rfl
theorem cb138 : callsB Tryd.prog 138 = true := by kernel_rfl
theorem cb139 : callsB Tryd.prog 139 = true := by kernel_rfl
theorem cb14 : callsB Tryd.prog 14 = true := by kernel_rfl
theorem cb140 : callsB Tryd.prog 140 = true := by kernel_rfl
theorem cb141 : callsB Tryd.prog 141 = true := by kernel_rfl
theorem cb15 : callsB Tryd.prog 15 = true := by kernel_rfl
theorem cb16 : callsB Tryd.prog 16 = true := by kernel_rfl
theorem cb163 : callsB Tryd.prog 163 = true := by kernel_rfl
theorem cb17 : callsB Tryd.prog 17 = true := by kernel_rfl
theorem cb18 : callsB Tryd.prog 18 = true := by kernel_rfl
theorem cb19 : callsB Tryd.prog 19 = true := by kernel_rfl
theorem cb2 : callsB Tryd.prog 2 = true := by kernel_rfl
theorem cb20 : callsB Tryd.prog 20 = true := by kernel_rfl
theorem cb21 : callsB Tryd.prog 21 = true := by kernel_rfl
theorem cb22 : callsB Tryd.prog 22 = true := by kernel_rfl
theorem cb23 : callsB Tryd.prog 23 = true := by kernel_rfl
theorem cb24 : callsB Tryd.prog 24 = true := by kernel_rfl
theorem cb25 : callsB Tryd.prog 25 = true := by kernel_rfl
theorem cb26 : callsB Tryd.prog 26 = true := by kernel_rfl
theorem cb27 : callsB Tryd.prog 27 = true := by kernel_rfl
theorem cb28 : callsB Tryd.prog 28 = true := by kernel_rfl
theorem cb29 : callsB Tryd.prog 29 = true := by kernel_rfl
theorem cb3 : callsB Tryd.prog 3 = true := by kernel_rfl
theorem cb30 : callsB Tryd.prog 30 = true := by kernel_rfl
theorem cb31 : callsB Tryd.prog 31 = true := by kernel_rfl
theorem cb32 : callsB Tryd.prog 32 = true := by kernel_rfl
theorem cb33 : callsB Tryd.prog 33 = true := by kernel_rfl
theorem cb34 : callsB Tryd.prog 34 = true := by kernel_rfl
theorem cb35 : callsB Tryd.prog 35 = true := by kernel_rfl
theorem cb36 : callsB Tryd.prog 36 = true := by kernel_rfl
theorem cb37 : callsB Tryd.prog 37 = true := by kernel_rfl
theorem cb38 : callsB Tryd.prog 38 = true := by kernel_rfl
theorem cb39 : callsB Tryd.prog 39 = true := by kernel_rfl
theorem cb4 : callsB Tryd.prog 4 = true := by kernel_rfl
theorem cb40 : callsB Tryd.prog 40 = true := by kernel_rfl
theorem cb41 : callsB Tryd.prog 41 = true := by kernel_rfl
theorem cb42 : callsB Tryd.prog 42 = true := by kernel_rfl
theorem cb43 : callsB Tryd.prog 43 = true := by kernel_rfl
theorem cb44 : callsB Tryd.prog 44 = true := by kernel_rfl
theorem cb45 : callsB Tryd.prog 45 = true := by kernel_rfl
theorem cb46 : callsB Tryd.prog 46 = true := by kernel_rfl
theorem cb47 : callsB Tryd.prog 47 = true := by kernel_rfl
theorem cb48 : callsB Tryd.prog 48 = true := by kernel_rfl
theorem cb49 : callsB Tryd.prog 49 = true := by kernel_rfl
theorem cb5 : callsB Tryd.prog 5 = true := by kernel_rfl
theorem cb50 : callsB Tryd.prog 50 = true := by kernel_rfl
theorem cb51 : callsB Tryd.prog 51 = true := by kernel_rfl
theorem cb52 : callsB Tryd.prog 52 = true := by kernel_rfl
theorem cb53 : callsB Tryd.prog 53 = true := by kernel_rfl
theorem cb54 : callsB Tryd.prog 54 = true := by kernel_rfl
theorem cb55 : callsB Tryd.prog 55 = true := by kernel_rfl
theorem cb56 : callsB Tryd.prog 56 = true := by kernel_rfl
theorem cb57 : callsB Tryd.prog 57 = true := by kernel_rfl
theorem cb58 : callsB Tryd.prog 58 = true := by kernel_rfl
theorem cb59 : callsB Tryd.prog 59 = true := by kernel_rfl
theorem cb6 : callsB Tryd.prog 6 = true := by kernel_rfl
theorem cb60 : callsB Tryd.prog 60 = true := by kernel_rfl
theorem cb61 : callsB Tryd.prog 61 = true := by kernel_rfl
theorem cb62 : callsB Tryd.prog 62 = true := by kernel_rfl
theorem cb63 : callsB Tryd.prog 63 = true := by kernel_rfl
theorem cb64 : callsB Tryd.prog 64 = true := by kernel_rfl
theorem cb65 : callsB Tryd.prog 65 = true := by kernel_rfl
theorem cb66 : callsB Tryd.prog 66 = true := by kernel_rfl
theorem cb67 : callsB Tryd.prog 67 = true := by kernel_rfl
theorem cb68 : callsB Tryd.prog 68 = true := by kernel_rfl
theorem cb69 : callsB Tryd.prog 69 = true := by kernel_rfl
theorem cb7 : callsB Tryd.prog 7 = true := by kernel_rfl
theorem cb70 : callsB Tryd.prog 70 = true := by kernel_rfl
theorem cb71 : callsB Tryd.prog 71 = true := by kernel_rfl
theorem cb72 : callsB Tryd.prog 72 = true := by kernel_rfl
theorem cb73 : callsB Tryd.prog 73 = true := by kernel_rfl
theorem cb74 : callsB Tryd.prog 74 = true := by kernel_rfl
theorem cb75 : callsB Tryd.prog 75 = true := by kernel_rfl
theorem cb76 : callsB Tryd.prog 76 = true := by kernel_rfl
theorem cb77 : callsB Tryd.prog 77 = true := by kernel_rfl
theorem cb78 : callsB Tryd.prog 78 = true := by kernel_rfl
theorem cb79 : callsB Tryd.prog 79 = true := by kernel_rfl
theorem cb8 : callsB Tryd.prog 8 = true := by kernel_rfl
theorem cb80 : callsB Tryd.prog 80 = true := by kernel_rfl
theorem cb81 : callsB Tryd.prog 81 = true := by kernel_rfl
theorem cb82 : callsB Tryd.prog 82 = true := by kernel_rfl
theorem cb83 : callsB Tryd.prog 83 = true := by kernel_rfl
theorem cb84 : callsB Tryd.prog 84 = true := by kernel_rfl
theorem cb85 : callsB Tryd.prog 85 = true := by kernel_rfl
theorem cb86 : callsB Tryd.prog 86 = true := by kernel_rfl
theorem cb87 : callsB Tryd.prog 87 = true := by kernel_rfl
theorem cb88 : callsB Tryd.prog 88 = true := by kernel_rfl
theorem cb89 : callsB Tryd.prog 89 = true := by kernel_rfl
theorem cb9 : callsB Tryd.prog 9 = true := by kernel_rfl
theorem cb90 : callsB Tryd.prog 90 = true := by kernel_rfl
theorem cb91 : callsB Tryd.prog 91 = true := by kernel_rfl
theorem cb92 : callsB Tryd.prog 92 = true := by kernel_rfl
theorem cb93 : callsB Tryd.prog 93 = true := by kernel_rfl
theorem cb94 : callsB Tryd.prog 94 = true := by kernel_rfl
theorem cb95 : callsB Tryd.prog 95 = true := by kernel_rfl
theorem cb96 : callsB Tryd.prog 96 = true := by kernel_rfl
theorem cb97 : callsB Tryd.prog 97 = true := by kernel_rfl
theorem cb98 : callsB Tryd.prog 98 = true := by kernel_rfl
theorem cb99 : callsB Tryd.prog 99 = true := by kernel_rfl
theorem tA129 : arrT Tryd.prog 129 = some (256, 4) := by kernel_rfl
theorem tA144 : arrT Tryd.prog 144 = some (256, 5) := by kernel_rfl
theorem tA146 : arrT Tryd.prog 146 = none := by kernel_rfl
theorem tA147 : arrT Tryd.prog 147 = some (16, 146) := by kernel_rfl
theorem tA22 : arrT Tryd.prog 22 = none := by kernel_rfl
theorem tA23 : arrT Tryd.prog 23 = none := by kernel_rfl
theorem tA25 : arrT Tryd.prog 25 = none := by kernel_rfl
theorem tA39 : arrT Tryd.prog 39 = none := by kernel_rfl
theorem tA42 : arrT Tryd.prog 42 = none := by kernel_rfl
theorem tA49 : arrT Tryd.prog 49 = none := by kernel_rfl
theorem tA59 : arrT Tryd.prog 59 = none := by kernel_rfl
theorem tA89 : arrT Tryd.prog 89 = none := by kernel_rfl
theorem tA9 : arrT Tryd.prog 9 = none := by kernel_rfl
theorem tI105 : intT Tryd.prog 105 = some .u64 := by kernel_rfl
theorem tI134 : intT Tryd.prog 134 = none := by kernel_rfl
theorem tI21 : intT Tryd.prog 21 = some .i32 := by kernel_rfl
theorem tI3 : intT Tryd.prog 3 = some .i64 := by kernel_rfl
theorem tI5 : intT Tryd.prog 5 = some .u8 := by kernel_rfl
theorem tI68 : intT Tryd.prog 68 = some .u64 := by kernel_rfl
theorem tI70 : intT Tryd.prog 70 = some .u32 := by kernel_rfl
theorem tI88 : intT Tryd.prog 88 = none := by kernel_rfl
theorem tI89 : intT Tryd.prog 89 = none := by kernel_rfl
theorem tI9 : intT Tryd.prog 9 = none := by kernel_rfl
theorem tS129 : slcT Tryd.prog 129 = none := by kernel_rfl
theorem tS144 : slcT Tryd.prog 144 = none := by kernel_rfl
theorem tS147 : slcT Tryd.prog 147 = none := by kernel_rfl
theorem tS22 : slcT Tryd.prog 22 = some 70 := by kernel_rfl
theorem tS23 : slcT Tryd.prog 23 = some 70 := by kernel_rfl
theorem tS39 : slcT Tryd.prog 39 = some 3 := by kernel_rfl
theorem tS49 : slcT Tryd.prog 49 = some 25 := by kernel_rfl
theorem tS59 : slcT Tryd.prog 59 = some 9 := by kernel_rfl
theorem tS89 : slcT Tryd.prog 89 = some 5 := by kernel_rfl
theorem tS9 : slcT Tryd.prog 9 = none := by kernel_rfl
theorem tb4 : isBoolT Tryd.prog 4 = true := by kernel_rfl
theorem tc129 : zeroC Tryd.prog 129 = some (List.replicate 256 (.bool false)) := by kernel_rfl
theorem tc146 : zeroC Tryd.prog 146 = some [.int .u8 0, .int .u8 0] := by kernel_rfl
theorem tc147 : zeroC Tryd.prog 147 = some (List.replicate 32 (.int .u8 0)) := by kernel_rfl
theorem tc22 : zeroC Tryd.prog 22 = some [.slice none 0 0] := by kernel_rfl
theorem tc23 : zeroC Tryd.prog 23 = some [.slice none 0 0] := by kernel_rfl
theorem tc25 : zeroC Tryd.prog 25 = some [.slice none 0 0, .slice none 0 0] := by kernel_rfl
theorem tc3 : zeroC Tryd.prog 3 = some [.int .i64 0] := by kernel_rfl
theorem tc39 : zeroC Tryd.prog 39 = some [.slice none 0 0] := by kernel_rfl
theorem tc4 : zeroC Tryd.prog 4 = some [.bool false] := by kernel_rfl
theorem tc42 : zeroC Tryd.prog 42 = some [.slice none 0 0, .int .i64 0] := by kernel_rfl
theorem tc5 : zeroC Tryd.prog 5 = some [.int .u8 0] := by kernel_rfl
theorem tc70 : zeroC Tryd.prog 70 = some [.int .u32 0] := by kernel_rfl
theorem tc88 : zeroC Tryd.prog 88 = some [.pointer none] := by kernel_rfl
theorem tc89 : zeroC Tryd.prog 89 = some [.slice none 0 0] := by kernel_rfl
theorem tc9 : zeroC Tryd.prog 9 = some [.string ⟨#[]⟩] := by kernel_rfl
theorem tc91 : zeroC Tryd.prog 91 = some [.pointer none, .slice none 0 0] := by kernel_rfl
theorem tf146_0 : fOff Tryd.prog 146 0 = some (0, 5) := by kernel_rfl
theorem tf146_1 : fOff Tryd.prog 146 1 = some (1, 5) := by kernel_rfl
theorem tf25_0 : fOff Tryd.prog 25 0 = some (0, 23) := by kernel_rfl
theorem tf25_1 : fOff Tryd.prog 25 1 = some (1, 23) := by kernel_rfl
theorem tf42_0 : fOff Tryd.prog 42 0 = some (0, 39) := by kernel_rfl
theorem tf42_1 : fOff Tryd.prog 42 1 = some (1, 3) := by kernel_rfl
theorem tf91_0 : fOff Tryd.prog 91 0 = some (0, 88) := by kernel_rfl
theorem tf91_1 : fOff Tryd.prog 91 1 = some (1, 89) := by kernel_rfl
theorem tk129 : kindT Tryd.prog 129 = some true := by kernel_rfl
theorem tk146 : kindT Tryd.prog 146 = some true := by kernel_rfl
theorem tk147 : kindT Tryd.prog 147 = some true := by kernel_rfl
theorem tk22 : kindT Tryd.prog 22 = some false := by kernel_rfl
theorem tk23 : kindT Tryd.prog 23 = some false := by kernel_rfl
theorem tk25 : kindT Tryd.prog 25 = some true := by kernel_rfl
theorem tk3 : kindT Tryd.prog 3 = some false := by kernel_rfl
theorem tk39 : kindT Tryd.prog 39 = some false := by kernel_rfl
theorem tk4 : kindT Tryd.prog 4 = some false := by kernel_rfl
theorem tk42 : kindT Tryd.prog 42 = some true := by kernel_rfl
theorem tk5 : kindT Tryd.prog 5 = some false := by kernel_rfl
theorem tk70 : kindT Tryd.prog 70 = some false := by kernel_rfl
theorem tk88 : kindT Tryd.prog 88 = some false := by kernel_rfl
theorem tk89 : kindT Tryd.prog 89 = some false := by kernel_rfl
theorem tk9 : kindT Tryd.prog 9 = some false := by kernel_rfl
theorem tk91 : kindT Tryd.prog 91 = some true := by kernel_rfl
theorem tl22 : isSliceT Tryd.prog 22 = true := by kernel_rfl
theorem tl23 : isSliceT Tryd.prog 23 = true := by kernel_rfl
theorem tl39 : isSliceT Tryd.prog 39 = true := by kernel_rfl
theorem tl49 : isSliceT Tryd.prog 49 = true := by kernel_rfl
theorem tl59 : isSliceT Tryd.prog 59 = true := by kernel_rfl
theorem tl89 : isSliceT Tryd.prog 89 = true := by kernel_rfl
theorem tl9 : isSliceT Tryd.prog 9 = false := by kernel_rfl
theorem tp146 : placesT Tryd.prog 146 = some [(0, 1, false), (1, 1, false)] := by kernel_rfl
theorem tp25 : placesT Tryd.prog 25 = some [(0, 1, false), (1, 1, false)] := by kernel_rfl
theorem tp42 : placesT Tryd.prog 42 = some [(0, 1, false), (1, 1, false)] := by kernel_rfl
theorem ts105 : isStrT Tryd.prog 105 = false := by kernel_rfl
theorem ts129 : isStrT Tryd.prog 129 = false := by kernel_rfl
theorem ts134 : isStrT Tryd.prog 134 = false := by kernel_rfl
theorem ts144 : isStrT Tryd.prog 144 = false := by kernel_rfl
theorem ts147 : isStrT Tryd.prog 147 = false := by kernel_rfl
theorem ts21 : isStrT Tryd.prog 21 = false := by kernel_rfl
theorem ts22 : isStrT Tryd.prog 22 = false := by kernel_rfl
theorem ts23 : isStrT Tryd.prog 23 = false := by kernel_rfl
theorem ts3 : isStrT Tryd.prog 3 = false := by kernel_rfl
theorem ts39 : isStrT Tryd.prog 39 = false := by kernel_rfl
theorem ts49 : isStrT Tryd.prog 49 = false := by kernel_rfl
theorem ts5 : isStrT Tryd.prog 5 = false := by kernel_rfl
theorem ts59 : isStrT Tryd.prog 59 = false := by kernel_rfl
theorem ts68 : isStrT Tryd.prog 68 = false := by kernel_rfl
theorem ts70 : isStrT Tryd.prog 70 = false := by kernel_rfl
theorem ts88 : isStrT Tryd.prog 88 = false := by kernel_rfl
theorem ts89 : isStrT Tryd.prog 89 = false := by kernel_rfl
theorem ts9 : isStrT Tryd.prog 9 = true := by kernel_rfl
theorem ty146 : byO Tryd.prog 146 = some 2 := by kernel_rfl
theorem ty25 : byO Tryd.prog 25 = some 48 := by kernel_rfl
theorem ty3 : byO Tryd.prog 3 = some 8 := by kernel_rfl
theorem ty4 : byO Tryd.prog 4 = some 1 := by kernel_rfl
theorem ty5 : byO Tryd.prog 5 = some 1 := by kernel_rfl
theorem ty70 : byO Tryd.prog 70 = some 4 := by kernel_rfl
theorem ty9 : byO Tryd.prog 9 = some 16 := by kernel_rfl
theorem tz129 : szO Tryd.prog 129 = some 256 := by kernel_rfl
theorem tz146 : szO Tryd.prog 146 = some 2 := by kernel_rfl
theorem tz147 : szO Tryd.prog 147 = some 32 := by kernel_rfl
theorem tz22 : szO Tryd.prog 22 = some 1 := by kernel_rfl
theorem tz23 : szO Tryd.prog 23 = some 1 := by kernel_rfl
theorem tz25 : szO Tryd.prog 25 = some 2 := by kernel_rfl
theorem tz3 : szO Tryd.prog 3 = some 1 := by kernel_rfl
theorem tz39 : szO Tryd.prog 39 = some 1 := by kernel_rfl
theorem tz4 : szO Tryd.prog 4 = some 1 := by kernel_rfl
theorem tz42 : szO Tryd.prog 42 = some 2 := by kernel_rfl
theorem tz5 : szO Tryd.prog 5 = some 1 := by kernel_rfl
theorem tz70 : szO Tryd.prog 70 = some 1 := by kernel_rfl
theorem tz88 : szO Tryd.prog 88 = some 1 := by kernel_rfl
theorem tz89 : szO Tryd.prog 89 = some 1 := by kernel_rfl
theorem tz9 : szO Tryd.prog 9 = some 1 := by kernel_rfl
theorem tz91 : szO Tryd.prog 91 = some 2 := by kernel_rfl
set_option linter.defProp false
def sxB := And.intro (And.intro (And.intro (And.intro (And.intro (And.intro (And.intro (@loadX.eq_1) (@loadX.eq_2)) (And.intro (@loadX.eq_3) (And.intro (@loadX.eq_4) (@loadX.eq_5)))) (And.intro (And.intro (@loadX.eq_6) (@fldA.eq_1)) (And.intro (@fldA.eq_2) (And.intro (@fldA.eq_3) (@isPt_p))))) (And.intro (And.intro (And.intro (@addP_p) (@List.toList_toArray.{0})) (And.intro (@stepG.eq_1) (And.intro (@stepG.eq_2) (@fin.eq_1)))) (And.intro (And.intro (@fin.eq_2) (And.intro (@fin.eq_3) (@fin.eq_4))) (And.intro (@fin.eq_5) (And.intro (@fin.eq_6) (@fin.eq_7)))))) (And.intro (And.intro (And.intro (And.intro (@finG.eq_1) (@finG.eq_2)) (And.intro (@finG.eq_3) (And.intro (@finG.eq_4) (@brv_true)))) (And.intro (And.intro (@brv_false) (And.intro (@condK.eq_1) (@rowS.eq_1))) (And.intro (@rowS.eq_2) (And.intro (@mentL_append) (@mentL_ext))))) (And.intro (And.intro (And.intro (@mentL_extf) (@one_bool)) (And.intro (@one_int) (And.intro (@one_str) (@one_ptr)))) (And.intro (And.intro (@one_sli) (And.intro (@one_map) (@one_fun))) (And.intro (@one_nf) (And.intro (@one_ni) (@one_if))))))) (And.intro (And.intro (And.intro (And.intro (And.intro (@one_agg) (@one_tup)) (And.intro (@List.getElem?_cons_zero.{0}) (And.intro (@List.getElem?_cons_succ.{0}) (@List.drop_zero.{0})))) (And.intro (And.intro (@List.drop_succ_cons.{0}) (@List.take_zero.{0})) (And.intro (@List.take_succ_cons.{0}) (And.intro (@List.take_nil.{0}) (@List.drop_nil.{0}))))) (And.intro (And.intro (And.intro (@List.map_cons.{0, 0}) (@List.map_nil.{0, 0})) (And.intro (@List.length_cons.{0}) (And.intro (@List.length_nil.{0}) (@List.append_nil.{0})))) (And.intro (And.intro (@List.cons_append.{0}) (And.intro (@List.nil_append.{0}) (@List.set_cons_zero.{0}))) (And.intro (@List.set_cons_succ.{0}) (And.intro (@List.all_cons.{0}) (@List.all_nil.{0})))))) (And.intro (And.intro (And.intro (And.intro (@List.mem_cons.{0}) (@List.not_mem_nil.{0})) (And.intro (@Option.bind_some.{0, 0}) (And.intro (@Option.map_some.{0, 0}) (@Option.map_none.{0, 0})))) (And.intro (And.intro (@true_and) (And.intro (@and_true) (@and_self))) (And.intro (@true_implies) (And.intro (@false_implies) (@imp_self))))) (And.intro (And.intro (And.intro (@Bool.cond_false_right) (@Bool.cond_true_left)) (And.intro (@beq_true) (And.intro (@beq_false) (@Bool.not_eq_true')))) (And.intro (And.intro (@Bool.not_true) (And.intro (@Bool.not_false) (@Bool.true_and))) (And.intro (@Bool.and_true) (And.intro (@Bool.false_and) (@Bool.and_false)))))))) (And.intro (And.intro (And.intro (And.intro (And.intro (And.intro (@Bool.or_false) (@Bool.false_or)) (And.intro (@Bool.or_true) (And.intro (@Bool.true_or) (@decide_true)))) (And.intro (And.intro (@decide_false) (@Bool.false_eq_true)) (And.intro (@Bool.true_eq_false) (And.intro (@false_or) (@true_or))))) (And.intro (And.intro (And.intro (@or_true) (@or_false)) (And.intro (@or_self) (And.intro (@List.contains_nil.{0}) (@List.contains_cons.{0})))) (And.intro (And.intro (@List.size_toArray.{0}) (And.intro (@List.getElem?_toArray.{0}) (@Option.isSome_some.{0}))) (And.intro (@Option.isSome_none.{0}) (And.intro (@Nat.zero_add) (@Nat.add_zero)))))) (And.intro (And.intro (And.intro (And.intro (@Int.toNat_natCast) (@okR.eq_1)) (And.intro (@okR.eq_2) (And.intro (@okR.eq_3) (@okR.eq_4)))) (And.intro (And.intro (@okR.eq_5) (And.intro (@okR.eq_6) (@finD.eq_1))) (And.intro (@finD.eq_2) (And.intro (@finD.eq_3) (@finD.eq_4))))) (And.intro (And.intro (And.intro (@finD.eq_5) (@finD.eq_6)) (And.intro (@finD.eq_7) (And.intro (@finGD.eq_1) (@finGD.eq_2)))) (And.intro (And.intro (@finGD.eq_3) (And.intro (@finGD.eq_4) (@stepGD.eq_1))) (And.intro (@stepGD.eq_2) (And.intro (@isSl_s) (@slen_s))))))) (And.intro (And.intro (And.intro (And.intro (And.intro (@scap_s) (@nilS_s)) (And.intro (@Option.isNone_none.{0}) (And.intro (@Option.isNone_some.{0}) (@vc.eq_1)))) (And.intro (And.intro (@vc.eq_2) (@vc.eq_3)) (And.intro (@vc.eq_4) (And.intro (@vc.eq_5) (@vc.eq_7))))) (And.intro (And.intro (And.intro (@vc.eq_8) (@vc.eq_9)) (And.intro (@vc.eq_10) (And.intro (@vc.eq_11) (@vc.eq_12)))) (And.intro (And.intro (@vc.eq_13) (And.intro (@seqK_false) (@seqK_true))) (And.intro (@vcX_marks) (And.intro (@vc_exit) (@vcX_blk)))))) (And.intro (And.intro (And.intro (And.intro (@vcX_code) (@vcX_stop)) (And.intro (@aggA_nil) (And.intro (@aggA_cons) (@slcG_gd)))) (And.intro (And.intro (@slcG_ext) (And.intro (@slcG_slo) (@cellsG.eq_1))) (And.intro (@cellsG.eq_2) (And.intro (@putA.eq_1) (@putA.eq_2))))) (And.intro (And.intro (And.intro (@hold_eq.{1}) (@vc.eq_14)) (And.intro (@lookM_tup) (And.intro (@eq_self.{1}) (@forall_eq.{1})))) (And.intro (And.intro (@forall_eq_or_imp.{1}) (And.intro (@implies_true.{1}) (@implies_true.{0}))) (And.intro (@beq_self_eq_true.{0}) (And.intro (@forall_const.{1}) (@forall_const.{0}))))))))
def sxD := And.intro (And.intro (And.intro (And.intro (And.intro (And.intro (@dstO.eq_def) (@normA.eq_def)) (And.intro (@normG.eq_def) (And.intro (@normP.eq_def) (@nilR.eq_def)))) (And.intro (And.intro (@fieldR.eq_def) (@addOb.eq_def)) (And.intro (@loadH.eq_def) (And.intro (@storeH.eq_def) (@zeroR.eq_def))))) (And.intro (And.intro (And.intro (@fldV.eq_def) (@storeX.eq_def)) (And.intro (@loadV.eq_def) (And.intro (@AV.ptr?.eq_def) (@tOp.eq_def)))) (And.intro (And.intro (@put1.eq_def) (@put2.eq_def)) (And.intro (@pickV.eq_def) (And.intro (@binV.eq_def) (@binW.eq_def)))))) (And.intro (And.intro (And.intro (And.intro (@intV.eq_def) (@strV.eq_def)) (And.intro (@boolV.eq_def) (And.intro (@nilV.eq_def) (@unV1.eq_def)))) (And.intro (And.intro (@unV.eq_def) (@selV.eq_def)) (And.intro (@extR.eq_def) (And.intro (@ev.eq_def) (@evC.eq_def))))) (And.intro (And.intro (And.intro (@callR.eq_def) (@bltR.eq_def)) (And.intro (@srcA.eq_def) (And.intro (@lenR.eq_def) (@lenV.eq_def)))) (And.intro (And.intro (@minV.eq_def) (@maxV.eq_def)) (And.intro (@St.put.eq_def) (And.intro (@AV.val.eq_def) (@unG.eq_def))))))) (And.intro (And.intro (And.intro (And.intro (And.intro (@guardB.eq_def) (@gslot.eq_def)) (And.intro (@loadR.eq_def) (And.intro (@storeR.eq_def) (@oneC.eq_def)))) (And.intro (And.intro (@tupA.eq_def) (@cellsA.eq_def)) (And.intro (@mkF.eq_def) (And.intro (@boxR.eq_def) (@plT.eq_def))))) (And.intro (And.intro (And.intro (@buildSR.eq_def) (@partC.eq_def)) (And.intro (@makeR.eq_def) (And.intro (@fieldX.eq_def) (@fieldO.eq_def)))) (And.intro (And.intro (@idxR.eq_def) (@idxA.eq_def)) (And.intro (@indV.eq_def) (And.intro (@slcR.eq_def) (@bndO.eq_def)))))) (And.intro (And.intro (And.intro (And.intro (@conV.eq_def) (@joinH.eq_def)) (And.intro (@reachK.eq_def) (And.intro (@mentO.eq_def) (@tupR.eq_def)))) (And.intro (And.intro (@NewD.av.eq_def) (@eqV.eq_def)) (And.intro (@eqC.eq_def) (And.intro (@looksK.eq_def) (@addrL.eq_def))))) (And.intro (And.intro (And.intro (@ptrK.eq_def) (@Op.operands.eq_def)) (And.intro (@Call.operands.eq_def) (And.intro (@awayB.eq_def) (@cutO.eq_def)))) (And.intro (And.intro (@selV_true) (@selV_false)) (And.intro (@opAt_arr) (And.intro (@opAt_0) (@opAt_S)))))))
def sxE := And.intro (And.intro (And.intro (And.intro (And.intro (And.intro (@normL.eq_1) (And.intro (@normL.eq_2) (@lk.eq_1))) (And.intro (@lk.eq_2) (And.intro (@lkH.eq_1) (@lkH.eq_2)))) (And.intro (And.intro (@upH.eq_1) (And.intro (@upH.eq_2) (@allOne.eq_1))) (And.intro (@allOne.eq_2) (And.intro (@vals.eq_1) (@vals.eq_2))))) (And.intro (And.intro (And.intro (@vals.eq_3) (And.intro (@buildL.eq_1) (@buildL.eq_2))) (And.intro (@plN.eq_1) (And.intro (@plN.eq_2) (@repN.eq_1)))) (And.intro (And.intro (@repN.eq_2) (And.intro (@AV.ment.eq_1) (@AV.ment.eq_2))) (And.intro (@AV.ment.eq_3) (And.intro (@AV.ment.eq_4) (@AV.ment.eq_5)))))) (And.intro (And.intro (And.intro (And.intro (@AV.ment.eq_6) (And.intro (@AV.ment.eq_7) (@AV.ment.eq_8))) (And.intro (@mentL.eq_1) (And.intro (@mentL.eq_2) (@mentE.eq_1)))) (And.intro (And.intro (@mentE.eq_2) (And.intro (@mentH.eq_1) (@mentH.eq_2))) (And.intro (@hasK.eq_1) (And.intro (@hasK.eq_2) (@AV.kill.eq_1))))) (And.intro (And.intro (And.intro (@AV.kill.eq_2) (And.intro (@AV.kill.eq_3) (@AV.kill.eq_4))) (And.intro (@AV.kill.eq_5) (And.intro (@AV.kill.eq_6) (@AV.kill.eq_7)))) (And.intro (And.intro (@AV.kill.eq_8) (And.intro (@killL.eq_1) (@killL.eq_2))) (And.intro (@killE.eq_1) (And.intro (@killE.eq_2) (@killH.eq_1))))))) (And.intro (And.intro (And.intro (And.intro (And.intro (@killH.eq_2) (And.intro (@killEs.eq_1) (@killEs.eq_2))) (And.intro (@killHs.eq_1) (And.intro (@killHs.eq_2) (@popTo.eq_1)))) (And.intro (And.intro (@popTo.eq_2) (And.intro (@popTo.eq_3) (@hasBlk.eq_1))) (And.intro (@hasBlk.eq_2) (And.intro (@hasBlk.eq_3) (@argEnv.eq_1))))) (And.intro (And.intro (And.intro (@argEnv.eq_2) (And.intro (@subH.eq_1) (@subH.eq_2))) (And.intro (@dropH.eq_1) (And.intro (@dropH.eq_2) (@cellsK.eq_1)))) (And.intro (And.intro (@cellsK.eq_2) (And.intro (@newKeys.eq_1) (@newKeys.eq_2))) (And.intro (@keysH.eq_1) (And.intro (@keysH.eq_2) (@inB.eq_1)))))) (And.intro (And.intro (And.intro (And.intro (@inB.eq_2) (And.intro (@eqL.eq_1) (@eqL.eq_2))) (And.intro (@keysOf.eq_1) (And.intro (@keysOf.eq_2) (@looksL.eq_1)))) (And.intro (And.intro (@looksL.eq_2) (And.intro (@disj.eq_1) (@disj.eq_2))) (And.intro (@subE.eq_1) (And.intro (@subE.eq_2) (@subHp.eq_1))))) (And.intro (And.intro (And.intro (@subHp.eq_2) (And.intro (@keepLt.eq_1) (@keepLt.eq_2))) (And.intro (@forgetD.eq_1) (And.intro (@forgetD.eq_2) (@marksOf.eq_1)))) (And.intro (And.intro (@marksOf.eq_2) (And.intro (@marksOf.eq_3) (@headId.eq_1))) (And.intro (And.intro (@headId.eq_2) (@headId.eq_3)) (And.intro (@headId.eq_4) (@headId.eq_5)))))))
def sxO := And.intro (And.intro (And.intro (@decide_eq_true_eq) (@decide_eq_false_iff_not)) (And.intro (@Bool.or_eq_true) (And.intro (@Bool.or_eq_false_iff) (@Bool.and_eq_true)))) (And.intro (And.intro (@Bool.and_eq_false_iff) (@Bool.not_eq_true)) (And.intro (@Bool.not_eq_true') (And.intro (@Bool.not_eq_false') (@Int.toNat_natCast))))
def sxTab := And.intro (And.intro (And.intro (And.intro (And.intro (And.intro (And.intro (And.intro (@cb10) (@cb100)) (And.intro (@cb101) (@cb102))) (And.intro (And.intro (@cb103) (@cb104)) (And.intro (@cb105) (@cb106)))) (And.intro (And.intro (And.intro (@cb107) (@cb108)) (And.intro (@cb109) (@cb11))) (And.intro (And.intro (@cb110) (@cb111)) (And.intro (@cb112) (@cb113))))) (And.intro (And.intro (And.intro (And.intro (@cb114) (@cb115)) (And.intro (@cb116) (@cb117))) (And.intro (And.intro (@cb118) (@cb119)) (And.intro (@cb12) (@cb120)))) (And.intro (And.intro (And.intro (@cb121) (@cb123)) (And.intro (@cb124) (@cb125))) (And.intro (And.intro (@cb126) (@cb127)) (And.intro (@cb128) (@cb129)))))) (And.intro (And.intro (And.intro (And.intro (And.intro (@cb13) (@cb130)) (And.intro (@cb132) (@cb133))) (And.intro (And.intro (@cb134) (@cb135)) (And.intro (@cb136) (@cb138)))) (And.intro (And.intro (And.intro (@cb139) (@cb14)) (And.intro (@cb140) (@cb141))) (And.intro (And.intro (@cb15) (@cb16)) (And.intro (@cb163) (@cb17))))) (And.intro (And.intro (And.intro (And.intro (@cb18) (@cb19)) (And.intro (@cb2) (@cb20))) (And.intro (And.intro (@cb21) (@cb22)) (And.intro (@cb23) (@cb24)))) (And.intro (And.intro (And.intro (@cb25) (@cb26)) (And.intro (@cb27) (@cb28))) (And.intro (And.intro (@cb29) (@cb3)) (And.intro (@cb30) (And.intro (@cb31) (@cb32)))))))) (And.intro (And.intro (And.intro (And.intro (And.intro (And.intro (@cb33) (@cb34)) (And.intro (@cb35) (@cb36))) (And.intro (And.intro (@cb37) (@cb38)) (And.intro (@cb39) (@cb4)))) (And.intro (And.intro (And.intro (@cb40) (@cb41)) (And.intro (@cb42) (@cb43))) (And.intro (And.intro (@cb44) (@cb45)) (And.intro (@cb46) (@cb47))))) (And.intro (And.intro (And.intro (And.intro (@cb48) (@cb49)) (And.intro (@cb5) (@cb50))) (And.intro (And.intro (@cb51) (@cb52)) (And.intro (@cb53) (@cb54)))) (And.intro (And.intro (And.intro (@cb55) (@cb56)) (And.intro (@cb57) (@cb58))) (And.intro (And.intro (@cb59) (@cb6)) (And.intro (@cb60) (And.intro (@cb61) (@cb62))))))) (And.intro (And.intro (And.intro (And.intro (And.intro (@cb63) (@cb64)) (And.intro (@cb65) (@cb66))) (And.intro (And.intro (@cb67) (@cb68)) (And.intro (@cb69) (@cb7)))) (And.intro (And.intro (And.intro (@cb70) (@cb71)) (And.intro (@cb72) (@cb73))) (And.intro (And.intro (@cb74) (@cb75)) (And.intro (@cb76) (@cb77))))) (And.intro (And.intro (And.intro (And.intro (@cb78) (@cb79)) (And.intro (@cb8) (@cb80))) (And.intro (And.intro (@cb81) (@cb82)) (And.intro (@cb83) (@cb84)))) (And.intro (And.intro (And.intro (@cb85) (@cb86)) (And.intro (@cb87) (@cb88))) (And.intro (And.intro (@cb89) (@cb9)) (And.intro (@cb90) (And.intro (@cb91) (@cb92))))))))) (And.intro (And.intro (And.intro (And.intro (And.intro (And.intro (And.intro (@cb93) (@cb94)) (And.intro (@cb95) (@cb96))) (And.intro (And.intro (@cb97) (@cb98)) (And.intro (@cb99) (@tA129)))) (And.intro (And.intro (And.intro (@tA144) (@tA146)) (And.intro (@tA147) (@tA22))) (And.intro (And.intro (@tA23) (@tA25)) (And.intro (@tA39) (@tA42))))) (And.intro (And.intro (And.intro (And.intro (@tA49) (@tA59)) (And.intro (@tA89) (@tA9))) (And.intro (And.intro (@tI105) (@tI134)) (And.intro (@tI21) (@tI3)))) (And.intro (And.intro (And.intro (@tI5) (@tI68)) (And.intro (@tI70) (@tI88))) (And.intro (And.intro (@tI89) (@tI9)) (And.intro (@tS129) (And.intro (@tS144) (@tS147))))))) (And.intro (And.intro (And.intro (And.intro (And.intro (@tS22) (@tS23)) (And.intro (@tS39) (@tS49))) (And.intro (And.intro (@tS59) (@tS89)) (And.intro (@tS9) (@tb4)))) (And.intro (And.intro (And.intro (@tc129) (@tc146)) (And.intro (@tc147) (@tc22))) (And.intro (And.intro (@tc23) (@tc25)) (And.intro (@tc3) (@tc39))))) (And.intro (And.intro (And.intro (And.intro (@tc4) (@tc42)) (And.intro (@tc5) (@tc70))) (And.intro (And.intro (@tc88) (@tc89)) (And.intro (@tc9) (@tc91)))) (And.intro (And.intro (And.intro (@tf146_0) (@tf146_1)) (And.intro (@tf25_0) (@tf25_1))) (And.intro (And.intro (@tf42_0) (@tf42_1)) (And.intro (@tf91_0) (And.intro (@tf91_1) (@tk129)))))))) (And.intro (And.intro (And.intro (And.intro (And.intro (And.intro (@tk146) (@tk147)) (And.intro (@tk22) (@tk23))) (And.intro (And.intro (@tk25) (@tk3)) (And.intro (@tk39) (@tk4)))) (And.intro (And.intro (And.intro (@tk42) (@tk5)) (And.intro (@tk70) (@tk88))) (And.intro (And.intro (@tk89) (@tk9)) (And.intro (@tk91) (@tl22))))) (And.intro (And.intro (And.intro (And.intro (@tl23) (@tl39)) (And.intro (@tl49) (@tl59))) (And.intro (And.intro (@tl89) (@tl9)) (And.intro (@tp146) (@tp25)))) (And.intro (And.intro (And.intro (@tp42) (@ts105)) (And.intro (@ts129) (@ts134))) (And.intro (And.intro (@ts144) (@ts147)) (And.intro (@ts21) (And.intro (@ts22) (@ts23))))))) (And.intro (And.intro (And.intro (And.intro (And.intro (@ts3) (@ts39)) (And.intro (@ts49) (@ts5))) (And.intro (And.intro (@ts59) (@ts68)) (And.intro (@ts70) (@ts88)))) (And.intro (And.intro (And.intro (@ts89) (@ts9)) (And.intro (@ty146) (@ty25))) (And.intro (And.intro (@ty3) (@ty4)) (And.intro (@ty5) (@ty70))))) (And.intro (And.intro (And.intro (And.intro (@ty9) (@tz129)) (And.intro (@tz146) (@tz147))) (And.intro (And.intro (@tz22) (@tz23)) (And.intro (@tz25) (@tz3)))) (And.intro (And.intro (And.intro (@tz39) (@tz4)) (And.intro (@tz42) (@tz5))) (And.intro (And.intro (@tz70) (@tz88)) (And.intro (@tz89) (And.intro (@tz9) (@tz91)))))))))
end Go.Proofs.YtamghpnjdohnjaaDoor.Sx
namespace Go.Proofs.YtamghpnjdohnjaaDoor.Sx
open Go Go.RowKit
set_option linter.unusedVariables false
set_option linter.unusedSimpArgs false
def pureH : Hp → Prop
  | [] => True
  | (_, _, cs) :: r => (∃ vs : List Value, cs = vs.map .ext) ∧ pureH r
mutual
def BorV (M : Mem) (H : Hp) : AV → Value → Prop
  | .ext v, u => u = v
  | .slo k off n z, u => ∀ T (cs : List Value), lkH H k = some (T, cs.map .ext) → off + n * z ≤ cs.length → SlM M z u n ((cs.drop off).take (n * z))
  | .ag t l, u => ∃ us, BorL M H l us ∧ u = aggV t us
  | .own _ _, _ => True
  | .gd _ _, _ => True
  | .gown _ _ _, _ => True
  | .fn _ _, _ => True
  | .unk, _ => True
def BorL (M : Mem) (H : Hp) : List AV → List Value → Prop
  | [], us => us = []
  | v :: l, us => ∃ u r, us = u :: r ∧ BorV M H v u ∧ BorL M H l r
end
theorem slo_SlMo {ρ : Rho} {M : Mem} {w : World} {k off n z : Nat} {u : Value} {T : TypeId} {cs : List Value} (hu : (AV.slo k off n z).is ρ u) (hl : off + n * z ≤ cs.length) (hr : ∀ b, ρ k = some b → ∃ arr, M b.b = some (.cells arr T (0, 0)) ∧ Row ρ w T (cs.map .ext) b arr) : SlM M z u n ((cs.drop off).take (n * z)) := by
  have hlen : ((cs.drop off).take (n * z)).length = n * z := by rw [List.length_take, List.length_drop]; omega
  rcases hu with ⟨b, cap, hb, rfl, h1, h2⟩ | ⟨rfl, a, ha, rfl⟩
  · obtain ⟨arr, h3, h4⟩ := hr b hb
    refine ⟨rfl, rfl, h1, hlen, ?_⟩
    simp only [rowS]
    refine rowM_of hlen fun i v hi => ?_
    have hin : i < n * z := by have := (List.getElem?_eq_some_iff.1 hi).1; omega
    rw [List.getElem?_take_of_lt hin, List.getElem?_drop] at hi
    have h5 := h4.is (off + i) (.ext v) (by simp [hi])
    have h5 : arr.getD (off + i) undef = v := h5
    have h6 : off + i < arr.size := by
      have := (List.getElem?_eq_some_iff.1 hi).1
      have := h4.le
      have := h4.size
      simp at *; omega
    simp only [cellM, h3]
    simp [Array.getD, h6] at h5
    simp [h6, h5]
  · have : ((cs.drop off).take (0 * z)) = [] := by simp
    rw [this]
    refine ⟨rfl, rfl, Nat.zero_le _, by simp, ?_⟩
    cases a with
    | none => rfl
    | some a =>
      obtain ⟨b, off, sp⟩ := a
      cases sp with
      | none => simp [rowS, rowM]
      | some x => cases ha _ rfl
section
variable {ρ : Rho} {M : Mem} {H : Hp} {w : World}
mutual
theorem borV_is (hM : ∀ k T cs b, lkH H k = some (T, cs) → ρ k = some b → ∃ arr, M b.b = some (.cells arr T (0, 0)) ∧ Row ρ w T cs b arr) : ∀ (v : AV) (u : Value), v.is ρ u → BorV M H v u
  | .ext _, _, h => h
  | .slo k off n z, u, h => fun T cs hk hl => slo_SlMo h hl fun b hb => hM k T _ b hk hb
  | .ag t l, u, h => by
    obtain ⟨us, h1, h2⟩ := h
    exact ⟨us, borL_is hM l us h1, h2⟩
  | .own _ _, _, _ => trivial
  | .gd _ _, _, _ => trivial
  | .gown _ _ _, _, _ => trivial
  | .fn _ _, _, _ => trivial
  | .unk, _, _ => trivial
theorem borL_is (hM : ∀ k T cs b, lkH H k = some (T, cs) → ρ k = some b → ∃ arr, M b.b = some (.cells arr T (0, 0)) ∧ Row ρ w T cs b arr) : ∀ (l : List AV) (us : List Value), isL ρ l us → BorL M H l us
  | [], us, h => h
  | v :: l, us, h => by
    obtain ⟨u, r, h0, h1, h2⟩ := h
    exact ⟨u, r, h0, borV_is hM v u h1, borL_is hM l r h2⟩
end
end
theorem pureH_lk : ∀ {H : Hp}, pureH H → ∀ {k T cs}, lkH H k = some (T, cs) → ∃ vs : List Value, cs = vs.map .ext
  | [], _, k, T, cs, h => by simp [lkH] at h
  | (j, T', cs') :: r, hp, k, T, cs, h => by
    simp only [lkH] at h
    split at h
    · cases h; exact hp.1
    · exact pureH_lk hp.2 h
theorem lkH_append : ∀ (H' H : Hp) (k : Nat), lkH (H' ++ H) k = match lkH H' k with | some x => some x | none => lkH H k
  | [], H, k => rfl
  | (j, x) :: r, H, k => by
    simp only [List.cons_append, lkH]
    split
    · rfl
    · exact lkH_append r H k
def BorK (H : Hp) (M M' : Mem) (K : AV → Hp → Mem → Prop) (v : AV) (H' : Hp) (M'' : Mem) : Prop := (∀ k, (lkH H k).isSome = true → lkH H' k = none) ∧ ∀ M3, Mem.le M M3 → (∀ b, M' b = none → M3 b = M'' b) → (M'' = M' → M3 = M) → K v (H' ++ H) M3
open Classical in
theorem CallS.bor {P : Program} {f : FuncId} {args : List AV} {H : Hp} {M : Mem} {K : AV → Hp → Mem → Prop} (hp : pureH H)
    (h : ∀ us M', Mem.le M M' → BorL M' H args us → CallS P f (us.map .ext) [] M' [] (BorK H M M' K)) : CallS P f args H M [] K := by
  intro ρ w us hh he
  let B : Nat → Prop := fun b => ∃ k x, (lkH H k).isSome = true ∧ ρ k = some x ∧ x.b = b
  let M' : Mem := fun b => if B b then w.heap[b]? else M b
  have hMB : ∀ b, B b → M b = none := fun b ⟨k, x, hk, hx, e⟩ => by
    obtain ⟨y, hy⟩ := Option.isSome_iff_exists.1 hk
    rw [← e]; exact (hh.hp k y.1 y.2 x hy hx).2
  have hle : Mem.le M M' := fun b o hb => by
    by_cases hB : B b
    · rw [hMB b hB] at hb; cases hb
    · simp only [M', if_neg hB]; exact hb
  have hsub : Sub M' w := fun b o hb => by
    by_cases hB : B b
    · simp only [M', if_pos hB] at hb; exact hb
    · simp only [M', if_neg hB] at hb; exact hh.sub b o hb
  have hheap : HeapIs ρ [] M' w := ⟨fun k T cs b hk => by simp [lkH] at hk, fun k T cs hk => by simp [lkH] at hk, fun k k' b b' hk => by simp [lkH] at hk, hsub⟩
  have hbor : BorL M' H args us := borL_is (w := w) (fun k T cs b hk hb => by
    obtain ⟨⟨arr, h1⟩, h2⟩ := hh.hp k T cs b hk hb
    have hB : B b.b := ⟨k, b, by rw [hk]; rfl, hb, rfl⟩
    exact ⟨arr, by simp only [M', if_pos hB]; exact h1.there, h1⟩) args us he
  refine (h us M' hle hbor ρ w us hheap (isL_ext us)).mono fun e w' hall => ?_
  obtain ⟨r, v, H', M'', ρ', e1, ⟨hK1, hK2⟩, hL⟩ := hall
  let M3 : Mem := fun b => if B b then none else M'' b
  let ρ2 : Rho := fun k => if (lkH H k).isSome = true then ρ k else ρ' k
  have hB3 : ∀ b, ¬ B b → M3 b = M'' b := fun b hb => by simp only [M3, if_neg hb]
  have hle3 : Mem.le M M3 := fun b o hb => by
    have hB : ¬ B b := fun hB => by rw [hMB b hB] at hb; cases hb
    rw [hB3 b hB]; exact hL.le b o (hle b o hb)
  have hk2 : ∀ k, lkH H k = none → ρ2 k = ρ' k := fun k hk => by simp only [ρ2, hk]; simp
  have hk1 : ∀ k, (lkH H k).isSome = true → ρ2 k = ρ k := fun k hk => by simp only [ρ2, if_pos hk]
  have hmv : ∀ k, (lkH H k).isSome = true → k ∉ v.ment ∧ ∀ j T cs, lkH H' j = some (T, cs) → k ∉ mentL cs := fun k hk => hL.ment k (hK1 k hk)
  have hag : ∀ k, k ∈ v.ment → ρ' k = ρ2 k := fun k hk => by
    refine (hk2 k ?_).symm
    cases e : lkH H k with
    | none => rfl
    | some x => exact absurd hk (hmv k (by rw [e]; rfl)).1
  have hlow : ∀ k x, (lkH H k).isSome = true → ρ k = some x → x.b < w.heap.size := fun k x hk hx => by
    obtain ⟨y, hy⟩ := Option.isSome_iff_exists.1 hk
    obtain ⟨⟨arr, h1⟩, _⟩ := hh.hp k y.1 y.2 x hy hx
    exact (Array.getElem?_eq_some_iff.1 h1.there).1
  have hblk : ∀ b, b < w.heap.size → w'.heap[b]? = w.heap[b]? := fun b hb => hL.block b hb fun j y hj => by simp [lkH] at hj
  have hfr : ∀ k b, (lkH H' k).isSome = true → ρ' k = some b → w.heap.size ≤ b.b := fun k b hk hb => by
    rcases hL.fresh k b hk hb with h1 | ⟨j, x, h1, _⟩
    · exact h1
    · simp [lkH] at h1
  have hnB : ∀ k b, (lkH H' k).isSome = true → ρ' k = some b → ¬ B b.b := fun k b hk hb ⟨j, x, hj, hx, e⟩ => by
    have := hfr k b hk hb
    have := hlow j x hj hx
    omega
  have hsplit : ∀ k x, lkH (H' ++ H) k = some x → (lkH H' k = some x ∧ lkH H k = none) ∨ (lkH H' k = none ∧ lkH H k = some x) := fun k x hx => by
    rw [lkH_append] at hx
    cases e : lkH H' k with
    | none => rw [e] at hx; exact .inr ⟨rfl, hx⟩
    | some y =>
      rw [e] at hx
      refine .inl ⟨hx, ?_⟩
      cases e2 : lkH H k with
      | none => rfl
      | some z => have := hK1 k (by rw [e2]; rfl); rw [e] at this; cases this
  have hpm : ∀ k T cs j, lkH H k = some (T, cs) → j ∉ mentL cs := fun k T cs j hk => by
    obtain ⟨vs, rfl⟩ := pureH_lk hp hk
    rw [mentL_ext]; simp
  have hag3 : ∀ b, M' b = none → M3 b = M'' b := fun b hb => by
    refine hB3 b fun hB => ?_
    obtain ⟨k, x, hk, hx, e⟩ := hB
    obtain ⟨y, hy⟩ := Option.isSome_iff_exists.1 hk
    obtain ⟨⟨arr, h1⟩, _⟩ := hh.hp k y.1 y.2 x hy hx
    have hB : B b := ⟨k, x, hk, hx, e⟩
    simp only [M', if_pos hB] at hb
    rw [← e, h1.there] at hb
    cases hb
  have hsame : M'' = M' → M3 = M := fun e => funext fun b => by
    by_cases hB : B b
    · simp only [M3, if_pos hB, hMB b hB]
    · simp only [M3, if_neg hB, e, M']
  refine ⟨r, v, H' ++ H, M3, ρ2, e1, hK2 M3 hle3 hag3 hsame, ?_⟩
  refine { is := is_agree hag hL.is, heap := ⟨fun k T cs b hk hb => ?_, fun k T cs hk hb => ?_, fun k k' b b' hk hk' hb hb' e => ?_, fun b o hb => ?_⟩, keep := fun k hk => ?_, same := fun k hk _ => ?_, ment := fun k hk => ?_, fresh := fun k b hk hb => ?_, os := hL.os, tape := hL.tape, output := hL.output, size := hL.size, block := fun b hb _ => hblk b hb, le := hle3, mem := fun b hb => ?_ }
  · rcases hsplit k _ hk with ⟨h1, h2⟩ | ⟨h1, h2⟩
    · rw [hk2 k h2] at hb
      obtain ⟨⟨arr, f1⟩, f2⟩ := hL.heap.hp k T cs b h1 hb
      refine ⟨⟨arr, f1.there, f1.size, f1.le, fun i x hx => is_agree (fun q hq => (hk2 q ?_).symm) (f1.is i x hx)⟩, ?_⟩
      · cases e : lkH H q with
        | none => rfl
        | some y => exact absurd (mentL_get hx hq) ((hmv q (by rw [e]; rfl)).2 k T cs h1)
      · rw [hB3 b.b (hnB k b (by rw [h1]; rfl) hb)]; exact f2
    · rw [hk1 k (by rw [h2]; rfl)] at hb
      obtain ⟨⟨arr, f1⟩, f2⟩ := hh.hp k T cs b h2 hb
      have hB : B b.b := ⟨k, b, by rw [h2]; rfl, hb, rfl⟩
      refine ⟨⟨arr, ?_, f1.size, f1.le, fun i x hx => is_agree (fun q hq => absurd (mentL_get hx hq) (hpm k T cs q h2)) (f1.is i x hx)⟩, by simp only [M3, if_pos hB]⟩
      rw [hblk b.b (hlow k b (by rw [h2]; rfl) hb)]; exact f1.there
  · rcases hsplit k _ hk with ⟨h1, h2⟩ | ⟨h1, h2⟩
    · rw [hk2 k h2] at hb; exact hL.heap.no k T cs h1 hb
    · rw [hk1 k (by rw [h2]; rfl)] at hb; exact hh.no k T cs h2 hb
  · obtain ⟨x, hx⟩ := Option.isSome_iff_exists.1 hk
    obtain ⟨x', hx'⟩ := Option.isSome_iff_exists.1 hk'
    rcases hsplit k _ hx with ⟨h1, h2⟩ | ⟨h1, h2⟩ <;> rcases hsplit k' _ hx' with ⟨h3, h4⟩ | ⟨h3, h4⟩
    · rw [hk2 k h2] at hb; rw [hk2 k' h4] at hb'
      exact hL.heap.inj k k' b b' (by rw [h1]; rfl) (by rw [h3]; rfl) hb hb' e
    · rw [hk2 k h2] at hb; rw [hk1 k' (by rw [h4]; rfl)] at hb'
      have := hfr k b (by rw [h1]; rfl) hb
      have := hlow k' b' (by rw [h4]; rfl) hb'
      omega
    · rw [hk1 k (by rw [h2]; rfl)] at hb; rw [hk2 k' h4] at hb'
      have := hlow k b (by rw [h2]; rfl) hb
      have := hfr k' b' (by rw [h3]; rfl) hb'
      omega
    · rw [hk1 k (by rw [h2]; rfl)] at hb; rw [hk1 k' (by rw [h4]; rfl)] at hb'
      exact hh.inj k k' b b' (by rw [h2]; rfl) (by rw [h4]; rfl) hb hb' e
  · by_cases hB : B b
    · simp only [M3, if_pos hB] at hb; cases hb
    · rw [hB3 b hB] at hb; exact hL.heap.sub b o hb
  · obtain ⟨x, hx⟩ := Option.isSome_iff_exists.1 hk
    rw [lkH_append, hK1 k hk]; exact hk
  · rcases hk with hk | hk
    · exact hk1 k hk
    · have h1 : lkH H' k = none := by
        rw [lkH_append] at hk
        cases e : lkH H' k with
        | none => rfl
        | some y => rw [e] at hk; cases hk
      have h2 : lkH H k = none := by rw [lkH_append, h1] at hk; exact hk
      rw [hk2 k h2]
      exact hL.same k (.inr h1) (by simp)
  · have h1 : lkH H' k = none := by
      rw [lkH_append] at hk
      cases e : lkH H' k with
      | none => rfl
      | some y => rw [e] at hk; cases hk
    obtain ⟨m1, m2⟩ := hL.ment k h1
    refine ⟨m1, fun j T cs hj => ?_⟩
    rcases hsplit j _ hj with ⟨h3, h4⟩ | ⟨h3, h4⟩
    · exact m2 j T cs h3
    · exact hpm j T cs k h4
  · obtain ⟨x, hx⟩ := Option.isSome_iff_exists.1 hk
    rcases hsplit k _ hx with ⟨h1, h2⟩ | ⟨h1, h2⟩
    · rw [hk2 k h2] at hb
      exact .inl (hfr k b (by rw [h1]; rfl) hb)
    · rw [hk1 k (by rw [h2]; rfl)] at hb
      exact .inr ⟨k, b, by rw [h2]; rfl, hb, rfl⟩
  · have hB : ¬ B b := fun hB => hb (by simp only [M3, if_pos hB])
    rw [hB3 b hB] at hb
    rcases hL.mem b hb with h1 | h1
    · simp only [M', if_neg hB] at h1; exact .inl h1
    · exact .inr h1
def FreshS (M : Mem) (u : Value) : Prop := slen u = 0 ∨ ∀ b off n c, u = .slice (some ⟨b, off, none⟩) n c → M b = none
theorem FreshS.le {M M' : Mem} {u : Value} (h : FreshS M' u) (hM : Mem.le M M') : FreshS M u := h.imp id fun h b off n c e => by
  have := h b off n c e
  cases hb : M b with
  | none => rfl
  | some o => rw [hM b o hb] at this; cases this
theorem freshS_nil (M : Mem) (c : Nat) : FreshS M (.slice none 0 c) := .inl rfl
theorem SlM.move {M' M'' M3 : Mem} {z n : Nat} {u : Value} {cs : List Value} (h : SlM M'' z u n cs) (hf : FreshS M' u) (h3 : ∀ b, M' b = none → M3 b = M'' b) : SlM M3 z u n cs := by
  rcases h.cases with ⟨rfl, rfl, c, rfl⟩ | ⟨b, off, c, rfl, hc, hr⟩
  · exact slM_nil M3 z c
  · refine ⟨rfl, rfl, hc, h.size, ?_⟩
    rcases hf with hf | hf
    · simp only [slen] at hf
      subst hf
      simp only [rowS, Nat.zero_mul, rowM] at hr ⊢
      exact hr
    · have e := h3 b (hf b off n c rfl)
      obtain ⟨h1, h2⟩ := rowM_get hr
      simp only [rowS]
      refine rowM_of h1 fun i v hi => ?_
      have := h2 i v hi
      unfold cellM at this ⊢
      rw [e]; exact this
theorem IsL.move {α : Type} {g : α → Value} {M' M'' M3 : Mem} {u : Value} {l : List α} (h : IsL M'' g u l) (hf : FreshS M' u) (h3 : ∀ b, M' b = none → M3 b = M'' b) : IsL M3 g u l := SlM.move h hf h3
def FrzF (K : AV → Hp → Mem → Prop) (H : Hp) (v : AV) (H' : Hp) (M' : Mem) : Prop := K v H' M' ∨ ∃ t l1 l2 k n z T cs H2, v = putMid t l1 (.slo k 0 n z) l2 ∧ H' = (k, T, cs.map .ext) :: H2 ∧ lkH H2 k = none ∧ lkH H k = none ∧ cs.length = n * z ∧
      hasK k (mentL l1 ++ (mentL l2 ++ mentH H2)) = false ∧ ∀ u M'', Mem.le M' M'' → SlM M'' z u n cs → FreshS M' u → K (putMidV t l1 (.ext u) l2) H2 M''
theorem FrzF.one {K : AV → Hp → Mem → Prop} {H : Hp} {M' : Mem} {k n z : Nat} {T : TypeId} (cs : List Value) (h1 : lkH H k = none) (h2 : cs.length = n * z) (h : ∀ u M'', Mem.le M' M'' → SlM M'' z u n cs → FreshS M' u → K (.ext u) [] M'') : FrzF K H (.slo k 0 n z) [(k, T, cs.map .ext)] M' :=
  .inr ⟨none, [], [], k, n, z, T, cs, [], rfl, rfl, rfl, h1, h2, rfl, h⟩
theorem FrzF.tup {K : AV → Hp → Mem → Prop} {H : Hp} {M' : Mem} {k n z : Nat} {T : TypeId} (vs1 vs2 : List Value) (cs : List Value) (h1 : lkH H k = none) (h2 : cs.length = n * z) (h : ∀ u M'', Mem.le M' M'' → SlM M'' z u n cs → FreshS M' u → K (.ext (.tuple (vs1 ++ u :: vs2).toArray)) [] M'') : FrzF K H (.ag true (vs1.map .ext ++ .slo k 0 n z :: vs2.map .ext)) [(k, T, cs.map .ext)] M' := by
  have hv : ∀ l : List Value, vals (l.map .ext) = some l := fun l => by
    induction l with
    | nil => rfl
    | cons x r ih => simp [vals, ih]
  refine .inr ⟨some true, vs1.map .ext, vs2.map .ext, k, n, z, T, cs, [], rfl, rfl, rfl, h1, h2, by simp [mentL_ext, mentH, hasK], fun u M'' hM hs hf => ?_⟩
  have : putMidV (some true) (vs1.map .ext) (.ext u) (vs2.map .ext) = .ext (.tuple (vs1 ++ u :: vs2).toArray) := by
    have e : (vs1.map AV.ext) ++ AV.ext u :: vs2.map .ext = (vs1 ++ u :: vs2).map .ext := by simp
    simp only [putMidV, tupA, e, hv]
  rw [this]; exact h u M'' hM hs hf
theorem CallS.frzF {P : Program} {f : FuncId} {args : List AV} {H : Hp} {M : Mem} {K : AV → Hp → Mem → Prop} (h : CallS P f args H M [] (FrzF K H)) : CallS P f args H M [] K := by
  intro ρ w us hh he
  refine (h ρ w us hh he).mono fun e w' hall => ?_
  obtain ⟨x, v, H', M', ρ', e1, hor, hl⟩ := hall
  rcases hor with hor | ⟨t, l1, l2, k, n, z, T, cs, H2, rfl, rfl, g1, g2, g3, g4, g5⟩
  · exact ⟨x, v, H', M', ρ', e1, hor, hl⟩
  obtain ⟨u, hu, hx⟩ := putMid_ok hl.is
  obtain ⟨M'', h1, h2, h3, h4⟩ := hl.heap.frz g1
  have hsl := slo_SlM hu g3 h4
  have hfr : FreshS M' u := by
    rcases hu with ⟨b, cap, hb, e, h5, h6⟩ | ⟨e, a, ha, e2⟩
    · refine .inr fun b' off n' c e' => ?_
      rw [e] at e'
      cases e'
      exact (hl.heap.hp k T (cs.map .ext) b (by simp [lkH]) hb).2
    · refine .inl ?_
      rw [e2]; rfl
  have hK := g5 u M'' h1 hsl hfr
  have hoff := hasK_no.1 g4
  simp only [List.mem_append, not_or] at hoff
  have hlk : ∀ j, lkH H2 j = none → j ≠ k → lkH ((k, T, cs.map .ext) :: H2) j = none := fun j hj hne => by simp only [lkH]; rw [if_neg (Ne.symm hne)]; exact hj
  have hlk2 : ∀ j x, lkH H2 j = some x → lkH ((k, T, cs.map .ext) :: H2) j = some x := fun j x hj => by
    simp only [lkH]; rw [if_neg fun e => by rw [← e, g1] at hj; cases hj]; exact hj
  let ρ2 : Rho := fun j => if j = k then ρ k else ρ' j
  have hρ2 : ∀ j, j ≠ k → ρ' j = ρ2 j := fun j hj => by simp only [ρ2, if_neg hj]
  have hkv : k ∉ (putMidV t l1 (.ext u) l2).ment := fun hm => by
    have := putMidV_ment hm .unk
    cases t with
    | none => simp [putMid, AV.ment] at this
    | some t =>
      simp only [putMid, AV.ment, mentL_append, mentL, List.mem_append, List.not_mem_nil, false_or] at this
      rcases this with h | h
      · exact hoff.1 h
      · exact hoff.2.1 h
  have hkH : ∀ j T' ds, lkH H2 j = some (T', ds) → j ≠ k ∧ k ∉ mentL ds := fun j T' ds hj => ⟨(fun e => by rw [e, g1] at hj; cases hj), fun hm => hoff.2.2 (mentH_lk hj (.inr hm))⟩
  refine ⟨x, _, H2, M'', ρ2, e1, hK, ?_⟩
  refine { is := is_agree (fun j hj => hρ2 j fun e => hkv (e ▸ hj)) hx, heap := ⟨fun j T' ds b hj hb => ?_, fun j T' ds hj hb => ?_, fun j j' b b' hj hj' hb hb' => ?_, h3.sub⟩, keep := fun j hj => ?_, same := fun j hj hm => ?_, ment := fun j hj => ?_, fresh := fun j b hj hb => ?_, os := hl.os, tape := hl.tape, output := hl.output, size := hl.size, block := hl.block, le := hl.le.trans h1, mem := fun b hb => ?_ }
  · obtain ⟨hne, hmm⟩ := hkH j T' ds hj
    rw [← hρ2 j hne] at hb
    obtain ⟨⟨arr, f1⟩, f2⟩ := h3.hp j T' ds b hj hb
    exact ⟨⟨arr, f1.there, f1.size, f1.le, fun i v hv => is_agree (fun q hq => hρ2 q fun e => hmm (mentL_get hv (e ▸ hq))) (f1.is i v hv)⟩, f2⟩
  · rw [← hρ2 j (hkH j T' ds hj).1] at hb; exact h3.no j T' ds hj hb
  · obtain ⟨y, hy⟩ := Option.isSome_iff_exists.1 hj
    obtain ⟨y', hy'⟩ := Option.isSome_iff_exists.1 hj'
    rw [← hρ2 j (hkH j _ _ hy).1] at hb
    rw [← hρ2 j' (hkH j' _ _ hy').1] at hb'
    exact h3.inj j j' b b' hj hj' hb hb'
  · have := hl.keep j hj
    simp only [lkH] at this
    split at this
    · rename_i e; rw [e] at g2; rw [g2] at hj; cases hj
    · exact this
  · by_cases e : j = k
    · show (if j = k then ρ k else ρ' j) = ρ j
      rw [if_pos e, e]
    · rw [← hρ2 j e]
      refine hl.same j ?_ hm
      rcases hj with hj | hj
      · exact .inl hj
      · exact .inr (hlk j hj e)
  · by_cases e : j = k
    · rw [e]; exact ⟨hkv, fun i T' ds hi => (hkH i T' ds hi).2⟩
    · obtain ⟨m1, m2⟩ := hl.ment j (hlk j hj e)
      exact ⟨fun hm => m1 (putMidV_ment hm _), fun i T' ds hi => m2 i T' ds (hlk2 i _ hi)⟩
  · obtain ⟨y, hy⟩ := Option.isSome_iff_exists.1 hj
    rw [← hρ2 j (hkH j _ _ hy).1] at hb
    exact hl.fresh j b (by rw [hlk2 j y hy]; rfl) hb
  · rcases h2 b hb with h5 | ⟨y, h5, rfl⟩
    · exact hl.mem b h5
    · rcases hl.fresh k y (by simp [lkH]) h5 with h6 | ⟨j, q, h6, h7, h8⟩
      · exact .inr h6
      · exfalso
        have hj := hl.keep j h6
        have hj2 : ρ' j = some q := by rw [hl.same j (.inl h6) (by simp)]; exact h7
        have := hl.heap.inj j k q y hj (by simp [lkH]) hj2 h5 h8
        subst this
        rw [g2] at h6; cases h6
end Go.Proofs.YtamghpnjdohnjaaDoor.Sx
namespace Go.Proofs.YtamghpnjdohnjaaDoor.Sx
open Go Go.RowKit
set_option linter.unusedVariables false
set_option linter.unusedSimpArgs false
set_option maxRecDepth 100000
set_option maxHeartbeats 8000000
attribute [local congr] fin_congr finG_congr stepG_congr step1_congr runOps_congr brv_congr obl_congr condK_congr LoopK_congr seqK_congr CutK_congr vc_congr DrawK_congr regK_congr CallK_congr AskK_congr newK_congr retC_congr ret1_congr retK_congr outV_congr closeK_congr genR_congr appR_congr finD_congr finGD_congr stepGD_congr stepD_congr CallK0_congr runD_congr okR_congr CallS_congr vcX_congr
structure Stop (p : Prop) : Prop where
  intro ::
  get : p
theorem Stop_congr (p : Prop) : Stop p = Stop p := rfl
theorem Stop.mk {p : Prop} (h : Stop p) : p := h.get
theorem Stop.go {p : Prop} (h : p) : Stop p := ⟨h⟩
theorem keepLt0 {z : Hp} : ∀ h : Hp, keepLt 0 z h
  | [] => trivial
  | (_, _) :: r => ⟨.inl (Nat.zero_le _), keepLt0 r⟩
def cE {α : Type} (g : α → Value) (l : List α) : List AV := (l.map g).map .ext
theorem cE_len {α : Type} (g : α → Value) (l : List α) : (cE g l).length = l.length := by simp [cE]
theorem cE_ment {α : Type} (g : α → Value) (l : List α) : mentL (cE g l) = [] := mentL_ext _
theorem cE_snoc {α : Type} (g : α → Value) (l : List α) (x : α) : cE g l ++ [.ext (g x)] = cE g (l ++ [x]) := by simp [cE]
theorem hasK_nil (k : Nat) : hasK k [] = false := rfl
theorem wrap_id {x : Int} (h1 : -9223372036854775808 ≤ x) (h2 : x ≤ 9223372036854775807) : IntKind.i64.wrap x = x := IntWalk.i64_in _ ⟨h1, h2⟩
section
variable {M : Mem} {K : AV → Hp → Mem → Prop}
end
end Go.Proofs.YtamghpnjdohnjaaDoor.Sx
namespace Go.Proofs.YtamghpnjdohnjaaDoor.Sx
open Go Go.RowKit
set_option linter.unusedVariables false
set_option linter.unusedSimpArgs false
set_option maxRecDepth 100000
set_option maxHeartbeats 8000000
attribute [local congr] fin_congr finG_congr stepG_congr step1_congr runOps_congr brv_congr obl_congr condK_congr LoopK_congr seqK_congr CutK_congr vc_congr DrawK_congr regK_congr CallK_congr AskK_congr newK_congr retC_congr ret1_congr retK_congr outV_congr closeK_congr genR_congr appR_congr finD_congr finGD_congr stepGD_congr stepD_congr CallK0_congr runD_congr okR_congr CallS_congr vcX_congr
def bs (l : List UInt8) : ByteArray := ⟨l.toArray⟩
theorem bs_mk (l : List UInt8) : ByteArray.mk l.toArray = bs l := rfl
theorem bs_size (l : List UInt8) : (bs l).size = l.length := rfl
theorem bs_toList (l : List UInt8) : (bs l).toList = l := by rw [ByteArray.toList_eq]; rfl
theorem bs_app (a b : List UInt8) : bs a ++ bs b = bs (a ++ b) := by
  apply ByteArray.ext
  rw [ByteArray.data_append]
  simp [bs]
theorem bs_ext (l : List UInt8) (i j : Nat) : (bs l).extract i j = bs ((l.take j).drop i) := by
  apply ByteArray.ext
  rw [ByteArray.data_extract]
  apply Array.ext'
  simp [bs, Array.toList_extract, List.extract, List.drop_take]
theorem bs_at (l : List UInt8) (i : Nat) : byteAt (bs l) i = ((l.getD i 0).toNat : Int) := rfl
theorem bs_cells (l : List UInt8) : (bs l).data.toList = l := rfl
theorem imp_ga (a b : Prop) : (a → a ∧ b) = (a → b) := propext ⟨fun h x => (h x).2, fun h x => ⟨x, h x⟩⟩
theorem guard_pk (x y : Bool) : (x = false → y = true → (!x && y) = true) = True := by cases x <;> cases y <;> simp
theorem guard_pk2 (x y : Bool) : (x = true → y = false → (x && !y) = true) = True := by cases x <;> cases y <;> simp
theorem cE_kill {α : Type} (k : Nat) (g : α → Value) (l : List α) : killL k (cE g l) = cE g l := by
  unfold cE
  generalize l.map g = vs
  induction vs with
  | nil => rfl
  | cons v r ih => simp only [List.map_cons, killL, AV.kill, ih]
end Go.Proofs.YtamghpnjdohnjaaDoor.Sx
namespace Go.Proofs.YtamghpnjdohnjaaDoor.Sx
open Go Go.RowKit
set_option linter.unusedVariables false
set_option linter.unusedSimpArgs false
set_option maxRecDepth 100000
set_option maxHeartbeats 8000000
attribute [local congr] fin_congr finG_congr stepG_congr step1_congr runOps_congr brv_congr obl_congr condK_congr LoopK_congr seqK_congr CutK_congr vc_congr DrawK_congr regK_congr CallK_congr AskK_congr newK_congr retC_congr ret1_congr retK_congr outV_congr closeK_congr genR_congr appR_congr finD_congr finGD_congr stepGD_congr stepD_congr CallK0_congr runD_congr okR_congr CallS_congr vcX_congr
theorem IsL.idx {α : Type} {P : Program} {T : TypeId} {M : Mem} {g : α → Value} {u : Value} {l : List α} (h : IsL M g u l) (hk : kindT P T = some false) (hz : szO P T = some 1) (hb : l.length < 4000000000000000000) {i : Nat} (hi : i < l.length) :
    lookM P T M (elemP u 1 i) = some (g l[i]) ∧ nilS u = false ∧ isSl u = true ∧ slen u = l.length ∧ decide ((i : Int) < (l.length : Int)) = true ∧ (i : Int) < (l.length : Int) ∧ (0 : Int) ≤ (i : Int) ∧ IntKind.i64.wrap ((i : Int) + 1) = ((i + 1 : Nat) : Int) :=
  ⟨h.at hk hz hi, h.nn hi, h.sl, h.len, by simp; omega, by omega, by omega, by rw [wrap_id (by omega) (by omega)]; omega⟩
theorem IsL.fin {α : Type} {M : Mem} {g : α → Value} {u : Value} {l : List α} (h : IsL M g u l) {i : Nat} (hi : ¬ i < l.length) : isSl u = true ∧ slen u = l.length ∧ decide ((i : Int) < (l.length : Int)) = false :=
  ⟨h.sl, h.len, by simp; omega⟩
theorem BorK.same {H : Hp} {M M' : Mem} {K : AV → Hp → Mem → Prop} {v : AV} (hK : K v H M) : BorK H M M' K v [] M' := ⟨fun _ _ => rfl, fun M3 _ _ h => by rw [h rfl]; exact hK⟩
theorem BorV.part {α : Type} {M : Mem} {H : Hp} {k off n : Nat} {g : α → Value} {L : List α} {u : Value} {T : TypeId} (h : BorV M H (.slo k off n 1) u) (hk : lkH H k = some (T, cE g L)) (hn : off + n ≤ L.length) : IsL M g u ((L.drop off).take n) := by
  have h := h T (L.map g) hk (by simpa using hn)
  have hl : ((L.drop off).take n).length = n := by rw [List.length_take, List.length_drop]; omega
  unfold IsL
  rw [hl, List.map_take, List.map_drop]
  simpa using h
theorem BorV.isL {α : Type} {M : Mem} {H : Hp} {k n : Nat} {g : α → Value} {L : List α} {u : Value} {T : TypeId} (h : BorV M H (.slo k 0 n 1) u) (hk : lkH H k = some (T, cE g L)) (hn : n = L.length) : IsL M g u L := by
  have := BorV.part h hk (by omega)
  rwa [List.drop_zero, List.take_of_length_le (by omega)] at this
theorem allOne_cE {α : Type} (g : α → Value) (hg : ∀ x, oneC (.ext (g x))) : ∀ l : List α, allOne (cE g l)
  | [] => trivial
  | x :: r => ⟨hg x, allOne_cE g hg r⟩
theorem le_take {s : St} (k m : Nat) (T : TypeId) (cs : List AV) (h0 : lkH s.hp k = some (T, cs)) : Le s { env := s.env, hp := upH s.hp k (cs.take m), M := s.M, kb := s.kb, fx := s.fx, fr := s.fr } := fun c n ρ av w g => by
  have hlk : ∀ j x, lkH (upH s.hp k (cs.take m)) j = some x → (j ≠ k ∧ lkH s.hp j = some x) ∨ (j = k ∧ x = (T, cs.take m)) := fun j x hj => by
    rw [lkH_upH] at hj
    by_cases e2 : k = j
    · rw [if_pos e2, h0] at hj
      exact .inr ⟨e2.symm, (Option.some.inj hj).symm⟩
    · rw [if_neg e2] at hj
      exact .inl ⟨fun h => e2 h.symm, hj⟩
  have hsome : ∀ j, (lkH (upH s.hp k (cs.take m)) j).isSome = true → (lkH s.hp j).isSome = true := fun j h => by
    obtain ⟨x, hx⟩ := Option.isSome_iff_exists.1 h
    rcases hlk j x hx with ⟨_, h⟩ | ⟨h, _⟩
    · rw [h]; rfl
    · rw [h, h0]; rfl
  refine ⟨ρ, { df := g.df, sz := g.sz, env := g.env, hp := fun j T' cs' b hj hb => ?_, no := fun j T' cs' hj hb => ?_, inj := fun j j' b b' hj hj' hb hb' e => g.inj j j' b b' (hsome j hj) (hsome j' hj') hb hb' e, os := g.os, tape := g.tape, output := g.output, size := g.size, block := g.block, sub := g.sub, le := g.le, mf := g.mf, fix := fun j hj => ?_, fx := g.fx, kl := g.kl, fr := g.fr }⟩
  · rcases hlk j _ hj with ⟨_, hx⟩ | ⟨rfl, hx⟩
    · exact g.hp j T' cs' b hx hb
    · cases hx
      obtain ⟨⟨arr, f1⟩, f2⟩ := g.hp j T cs b h0 hb
      exact ⟨⟨arr, f1.there, f1.size, by rw [List.length_take]; have := f1.le; omega, fun i v hv => f1.is i v (by
        rw [List.getElem?_take] at hv
        split at hv
        · exact hv
        · cases hv)⟩, f2⟩
  · rcases hlk j _ hj with ⟨_, hx⟩ | ⟨rfl, hx⟩
    · exact g.no j T' cs' hx hb
    · cases hx
      rw [g.no j T cs h0 hb]; simp
  · have := g.fix j hj
    rw [lkH_upH]
    split
    · rename_i e; rw [e]; simpa using this
    · exact this
theorem cE_take {α : Type} (g : α → Value) (l : List α) (m : Nat) : (cE g l).take m = cE g (l.take m) := by simp [cE]
theorem cE_set {α : Type} (g : α → Value) (l : List α) (i : Nat) (x : α) : (cE g l).set i (.ext (g x)) = cE g (l.set i x) := by simp [cE, List.map_set]
theorem cE_at {α : Type} (g : α → Value) {l : List α} {i : Nat} (h : i < l.length) : (cE g l)[i]? = some (.ext (g l[i])) := by simp [cE, h]
theorem cE_rep {α : Type} (g : α → Value) (n : Nat) (x : α) : (repN [g x] n).map AV.ext = cE g (List.replicate n x) := by
  induction n with
  | zero => rfl
  | succ n ih => simp only [repN, List.map_append, ih, List.replicate_succ, cE, List.map_cons]; rfl
theorem CallS.cut {P : Program} {f : FuncId} {args : List AV} {H : Hp} {M : Mem} {mv : List Nat} {K : AV → Hp → Mem → Prop}
    (h : CallS P f args H M mv fun v H' M' => ∃ k T cs m H2, H' = (k, T, cs) :: H2 ∧ K v ((k, T, cs.take m) :: H2) M') : CallS P f args H M mv K := by
  intro ρ w us hh he
  refine (h ρ w us hh he).mono fun e w' hall => ?_
  obtain ⟨x, v, H', M', ρ', e1, ⟨k, T, cs, m, H2, rfl, hK⟩, hl⟩ := hall
  have hs : ∀ j, (lkH ((k, T, cs.take m) :: H2) j).isSome = (lkH ((k, T, cs) :: H2) j).isSome := fun j => by
    simp only [lkH]; split <;> rfl
  have hn : ∀ j, lkH ((k, T, cs.take m) :: H2) j = none → lkH ((k, T, cs) :: H2) j = none := fun j hj => by
    have := hs j
    rw [hj] at this
    simpa using this.symm
  have hlk : ∀ j T' ds, lkH ((k, T, cs.take m) :: H2) j = some (T', ds) → ∃ ds', lkH ((k, T, cs) :: H2) j = some (T', ds') ∧ (ds = ds' ∨ ds = ds'.take m) := fun j T' ds hj => by
    simp only [lkH] at hj ⊢
    split at hj
    · rename_i e; cases hj; exact ⟨cs, by simp [e], .inr rfl⟩
    · rename_i e; exact ⟨ds, by simp [e, hj], .inl rfl⟩
  refine ⟨x, v, _, M', ρ', e1, hK, ?_⟩
  refine { is := hl.is, heap := ⟨fun j T' ds b hj hb => ?_, fun j T' ds hj hb => ?_, fun j j' b b' hj hj' => hl.heap.inj j j' b b' (by rw [← hs]; exact hj) (by rw [← hs]; exact hj'), hl.heap.sub⟩, keep := fun j hj => by rw [hs]; exact hl.keep j hj, same := fun j hj hm => hl.same j (hj.imp id (hn j)) hm, ment := fun j hj => ?_, fresh := fun j b hj => hl.fresh j b (by rw [← hs]; exact hj), os := hl.os, tape := hl.tape, output := hl.output, size := hl.size, block := hl.block, le := hl.le, mem := hl.mem }
  · obtain ⟨ds', h1, h2⟩ := hlk j T' ds hj
    obtain ⟨⟨arr, f1⟩, f2⟩ := hl.heap.hp j T' ds' b h1 hb
    refine ⟨⟨arr, f1.there, f1.size, ?_, fun i v hv => f1.is i v ?_⟩, f2⟩
    · rcases h2 with rfl | rfl
      · exact f1.le
      · rw [List.length_take]; have := f1.le; omega
    · rcases h2 with rfl | rfl
      · exact hv
      · rw [List.getElem?_take] at hv
        split at hv
        · exact hv
        · cases hv
  · obtain ⟨ds', h1, h2⟩ := hlk j T' ds hj
    have := hl.heap.no j T' ds' h1 hb
    subst this
    rcases h2 with rfl | rfl <;> simp
  · obtain ⟨m1, m2⟩ := hl.ment j (hn j hj)
    refine ⟨m1, fun i T' ds hi => ?_⟩
    obtain ⟨ds', h1, h2⟩ := hlk i T' ds hi
    have := m2 i T' ds' h1
    rcases h2 with rfl | rfl
    · exact this
    · intro hm
      obtain ⟨v, hv, hv2⟩ := mentL_mem hm
      exact this (mentL_of (List.mem_of_mem_take hv) hv2)
theorem FrzF.rest {K : AV → Hp → Mem → Prop} {H H2 : Hp} {M' : Mem} {k n : Nat} {T : TypeId} (cs : List Value) (h1 : lkH H k = none) (h2 : cs.length = n) (h3 : hasK k (mentH H2) = false) (h4 : lkH H2 k = none) (h : ∀ u M'', Mem.le M' M'' → SlM M'' 1 u n cs → FreshS M' u → K (.ext u) H2 M'') : FrzF K H (.slo k 0 n 1) ((k, T, cs.map .ext) :: H2) M' :=
  .inr ⟨none, [], [], k, n, 1, T, cs, H2, rfl, rfl, h4, h1, by omega, by simpa [mentL] using h3, h⟩
theorem SlM.sub {M : Mem} {n : Nat} {u : Value} {cs : List Value} (h : SlM M 1 u n cs) {i j : Nat} (hij : i ≤ j) (hj : j ≤ n) : SlM M 1 (subS u 1 i j) (j - i) ((cs.drop i).take (j - i)) := by
  rcases h.cases with ⟨rfl, rfl, c, rfl⟩ | ⟨b, off, c, rfl, hc, hr⟩
  · obtain rfl : j = 0 := by omega
    obtain rfl : i = 0 := by omega
    have : subS (.slice none 0 c) 1 0 0 = .slice none 0 c := by simp [subS]
    rw [this]; exact slM_nil M 1 c
  · have hs := h.size
    obtain ⟨h1, h2⟩ := rowM_get hr
    have hlen : ((cs.drop i).take (j - i)).length = j - i := by rw [List.length_take, List.length_drop]; omega
    refine ⟨rfl, rfl, ?_, by rw [hlen]; omega, ?_⟩
    · simp only [subS, scap]; omega
    · by_cases e : c = i
      · subst e
        obtain rfl : j = c := by omega
        simp [subS, rowS, rowM]
      · have ea : subS (.slice (some ⟨b, off, none⟩) n c) 1 i j = .slice (some ⟨b, off + i, none⟩) (j - i) (c - i) := by
          simp only [subS, if_neg e, Option.map_some, Nat.mul_one, Addr.add]
          by_cases h0 : i = 0
          · subst h0; rfl
          · simp only [if_neg h0]
        rw [ea]
        simp only [rowS, Nat.mul_one]
        refine rowM_of hlen fun q v hq => ?_
        have hql : q < j - i := by
          have := (List.getElem?_eq_some_iff.1 hq).1
          omega
        rw [List.getElem?_take_of_lt hql, List.getElem?_drop] at hq
        have := h2 (i + q) v hq
        rw [show off + i + q = off + (i + q) by omega]
        exact this
theorem IsL.sub {α : Type} {M : Mem} {g : α → Value} {u : Value} {l : List α} (h : IsL M g u l) {i j : Nat} (hij : i ≤ j) (hj : j ≤ l.length) : IsL M g (subS u 1 i j) ((l.drop i).take (j - i)) := by
  have := SlM.sub h hij hj
  unfold IsL
  rw [← List.map_drop, ← List.map_take] at this
  rw [show ((l.drop i).take (j - i)).length = j - i by rw [List.length_take, List.length_drop]; omega]
  exact this
end Go.Proofs.YtamghpnjdohnjaaDoor.Sx
set_option linter.unusedVariables false
namespace Go.Proofs.YtamghpnjdohnjaaDoor.Sx
def valN : List Nat → Nat
  | [] => 0
  | x :: r => x + 4294967296 * valN r
def okN (l : List Nat) : Prop := ∀ x ∈ l, x < 4294967296
def ofN (n : Nat) : List Nat := if h : n = 0 then [] else n % 4294967296 :: ofN (n / 4294967296)
termination_by n
decreasing_by exact Nat.div_lt_self (by omega) (by decide)
theorem ofN_zero : ofN 0 = [] := by rw [ofN]; simp
theorem ofN_pos {n : Nat} (h : n ≠ 0) : ofN n = n % 4294967296 :: ofN (n / 4294967296) := by rw [ofN]; simp [h]
theorem okN_cons {x : Nat} {l : List Nat} : okN (x :: l) ↔ x < 4294967296 ∧ okN l := by simp [okN]
theorem okN_app {a b : List Nat} : okN (a ++ b) ↔ okN a ∧ okN b := by
  simp only [okN, List.mem_append]
  exact ⟨fun h => ⟨fun x hx => h x (.inl hx), fun x hx => h x (.inr hx)⟩, fun h x hx => hx.elim (h.1 x) (h.2 x)⟩
theorem okN_take {l : List Nat} (h : okN l) (i : Nat) : okN (l.take i) := fun x hx => h x (List.mem_of_mem_take hx)
theorem okN_drop {l : List Nat} (h : okN l) (i : Nat) : okN (l.drop i) := fun x hx => h x (List.mem_of_mem_drop hx)
theorem okN_at {l : List Nat} (h : okN l) {i : Nat} (hi : i < l.length) : l[i] < 4294967296 := h _ (List.getElem_mem hi)
def wN (i : Nat) : Nat := 4294967296 ^ i
theorem wN_succ (i : Nat) : wN (i + 1) = 4294967296 * wN i := by unfold wN; rw [Nat.pow_succ, Nat.mul_comm]
theorem wN_zero : wN 0 = 1 := rfl
theorem wN_pos (i : Nat) : 0 < wN i := Nat.pos_pow_of_pos (by decide)
  where Nat.pos_pow_of_pos {b n : Nat} (h : 0 < b) : 0 < b ^ n := Nat.pow_pos h
theorem wN_add (i j : Nat) : wN (i + j) = wN i * wN j := Nat.pow_add _ _ _
theorem wN_mono {i j : Nat} (h : i ≤ j) : wN i ≤ wN j := Nat.pow_le_pow_right (by decide) h
theorem valN_app (a b : List Nat) : valN (a ++ b) = valN a + wN a.length * valN b := by
  induction a with
  | nil => simp [valN, wN]
  | cons x r ih =>
    rw [List.cons_append, valN, valN, ih, List.length_cons, wN_succ, Nat.mul_add, Nat.mul_assoc]
    omega
theorem valN_lt {l : List Nat} (h : okN l) : valN l < wN l.length := by
  induction l with
  | nil => simp [valN, wN]
  | cons x r ih =>
    obtain ⟨h1, h2⟩ := okN_cons.1 h
    have := ih h2
    rw [valN, List.length_cons, wN_succ]
    omega
theorem valN_snoc (l : List Nat) (x : Nat) : valN (l ++ [x]) = valN l + wN l.length * x := by rw [valN_app]; simp [valN]
theorem valN_take_succ {l : List Nat} {i : Nat} (h : i < l.length) : valN (l.take (i + 1)) = valN (l.take i) + wN i * l[i] := by
  rw [List.take_succ_eq_append_getElem h, valN_snoc, List.length_take, Nat.min_eq_left (by omega)]
theorem valN_split (l : List Nat) (i : Nat) : valN l = valN (l.take i) + wN (min i l.length) * valN (l.drop i) := by
  conv => lhs; rw [← List.take_append_drop i l]
  rw [valN_app, List.length_take]
theorem valN_zero {l : List Nat} (h : ∀ x ∈ l, x = 0) : valN l = 0 := by
  induction l with
  | nil => rfl
  | cons x r ih =>
    rw [valN, ih (fun y hy => h y (List.mem_cons_of_mem _ hy)), h x List.mem_cons_self]
theorem valN_ofN : ∀ n, valN (ofN n) = n := fun n => by
  induction n using Nat.strongRecOn with
  | _ n ih =>
    by_cases h : n = 0
    · subst h; rw [ofN_zero]; rfl
    · rw [ofN_pos h, valN, ih _ (Nat.div_lt_self (by omega) (by decide))]; omega
theorem okN_ofN : ∀ n, okN (ofN n) := fun n => by
  induction n using Nat.strongRecOn with
  | _ n ih =>
    by_cases h : n = 0
    · subst h; rw [ofN_zero]; simp [okN]
    · rw [ofN_pos h, okN_cons]; exact ⟨Nat.mod_lt _ (by decide), ih _ (Nat.div_lt_self (by omega) (by decide))⟩
theorem ofN_nil {n : Nat} : ofN n = [] ↔ n = 0 := by
  constructor
  · intro h; have := valN_ofN n; rw [h] at this; exact this.symm
  · intro h; subst h; exact ofN_zero
def trimmed (l : List Nat) : Prop := ∀ h : 0 < l.length, l[l.length - 1] ≠ 0
theorem trimmed_cons {x : Nat} {r : List Nat} (h : trimmed (x :: r)) : trimmed r := fun hr => by
  have := h (by simp)
  have e : (x :: r)[(x :: r).length - 1]'(by simp) = r[r.length - 1] := by
    rw [List.getElem_cons]
    rw [dif_neg (by simp; intro h; rw [h] at hr; simp at hr)]
    congr 1
  rw [← e]; exact this
theorem canon : ∀ {l : List Nat}, okN l → trimmed l → l = ofN (valN l)
  | [], _, _ => by rw [valN, ofN_zero]
  | x :: r, ho, ht => by
    obtain ⟨h1, h2⟩ := okN_cons.1 ho
    have ih := canon h2 (trimmed_cons ht)
    have hne : valN (x :: r) ≠ 0 := by
      rw [valN]
      intro h
      have hx : x = 0 := by omega
      have hr : valN r = 0 := by omega
      rw [hr, ofN_zero] at ih
      subst ih
      exact ht (by simp) (by simp [hx])
    rw [ofN_pos hne, valN]
    have e1 : (x + 4294967296 * valN r) % 4294967296 = x := by omega
    have e2 : (x + 4294967296 * valN r) / 4294967296 = valN r := by omega
    rw [e1, e2, ← ih]
theorem trimmed_ofN (n : Nat) : trimmed (ofN n) := by
  induction n using Nat.strongRecOn with
  | _ n ih =>
    by_cases h : n = 0
    · subst h; rw [ofN_zero]; intro h; simp at h
    · intro hl
      have hd := ih _ (Nat.div_lt_self (show 0 < n by omega) (show 1 < 4294967296 by decide))
      have key : ∀ (q : List Nat), q = ofN n → ∀ hq : 0 < q.length, q[q.length - 1] ≠ 0 := by
        intro q hq
        rw [ofN_pos h] at hq
        subst hq
        intro hq
        rw [List.getElem_cons]
        split
        · rename_i h0
          have : (ofN (n / 4294967296)).length = 0 := by simp at h0; rw [h0]; rfl
          have := ofN_nil.1 (List.length_eq_zero_iff.1 this)
          omega
        · rename_i h0
          have hpos : 0 < (ofN (n / 4294967296)).length := by simp at h0; exact List.length_pos_iff.2 h0
          have := hd hpos
          simpa using this
      exact key _ rfl hl
theorem take_canon {l : List Nat} {m : Nat} (ho : okN l) (hm : m ≤ l.length) (hz : ∀ j (h : j < l.length), m ≤ j → l[j] = 0) (ht : ∀ h : 0 < m, l[m - 1] ≠ 0) : l.take m = ofN (valN l) := by
  have h1 : valN l = valN (l.take m) := by
    rw [valN_split l m, valN_zero (l := l.drop m) fun x hx => by
      obtain ⟨j, hj, rfl⟩ := List.mem_iff_getElem.1 hx
      rw [List.getElem_drop]
      exact hz _ _ (by omega)]
    simp
  rw [h1]
  refine canon (okN_take ho m) fun h => ?_
  rw [List.length_take, Nat.min_eq_left hm] at h
  have : (l.take m)[(l.take m).length - 1]'(by omega) = l[m - 1]'(by omega) := by
    rw [List.getElem_take]
    congr 1
    rw [List.length_take, Nat.min_eq_left hm]
  rw [this]; exact ht h
theorem ofN_len_le {n k : Nat} (h : n < wN k) : (ofN n).length ≤ k := by
  have h1 := valN_ofN n
  by_cases hl : (ofN n).length ≤ k
  · exact hl
  · exfalso
    have ht := trimmed_ofN n
    generalize ofN n = l at h1 hl ht
    have ht := ht (by omega)
    have h2 : valN l = valN (l.take (l.length - 1)) + wN (l.length - 1) * l[l.length - 1]'(by omega) := by
      conv => lhs; rw [show l = l.take (l.length - 1 + 1) by rw [List.take_of_length_le (by omega)]]
      exact valN_take_succ (by omega)
    have h3 := wN_mono (show k ≤ l.length - 1 by omega)
    have h4 : wN (l.length - 1) ≤ wN (l.length - 1) * l[l.length - 1]'(by omega) := Nat.le_mul_of_pos_right _ (by omega)
    omega
theorem ofN_len_lt {n k : Nat} (h : (ofN n).length ≤ k) : n < wN k := by
  have h1 := valN_lt (okN_ofN n)
  rw [valN_ofN] at h1
  exact Nat.lt_of_lt_of_le h1 (wN_mono h)
end Go.Proofs.YtamghpnjdohnjaaDoor.Sx
set_option linter.unusedVariables false
namespace Go.Proofs.YtamghpnjdohnjaaDoor.Sx
theorem valN_set : ∀ {l : List Nat} {i v : Nat} (h : i < l.length), valN (l.set i v) + wN i * l[i] = valN l + wN i * v
  | [], i, v, h => by simp at h
  | x :: r, 0, v, h => by simp only [List.set_cons_zero, valN, wN_zero, List.getElem_cons_zero]; omega
  | x :: r, i + 1, v, h => by
    have ih := valN_set (l := r) (i := i) (v := v) (by simpa using h)
    simp only [List.set_cons_succ, valN, wN_succ, List.getElem_cons_succ]
    generalize r[i]'(by simpa using h) = y at *
    rw [Nat.mul_assoc, Nat.mul_assoc]
    omega
theorem okN_set {l : List Nat} (h : okN l) {i v : Nat} (hv : v < 4294967296) : okN (l.set i v) := fun x hx => by
  rcases List.mem_or_eq_of_mem_set hx with h1 | h1
  · exact h x h1
  · omega
theorem okN_rep (n : Nat) : okN (List.replicate n 0) := fun x hx => by rw [List.eq_of_mem_replicate hx]; decide
theorem valN_rep (n : Nat) : valN (List.replicate n 0) = 0 := valN_zero fun x hx => List.eq_of_mem_replicate hx
theorem valN_drop {l : List Nat} {i : Nat} (h : i < l.length) : valN (l.drop i) = l[i] + 4294967296 * valN (l.drop (i + 1)) := by
  rw [List.drop_eq_getElem_cons h, valN]
theorem valN_cut (l : List Nat) {i : Nat} (h : i ≤ l.length) : valN l = valN (l.take i) + wN i * valN (l.drop i) := by
  have := valN_split l i
  rwa [Nat.min_eq_left h] at this
theorem okN_mod (l : List Nat) (n : Nat) (h : okN l) : okN (l ++ [n % 4294967296]) := okN_app.2 ⟨h, okN_cons.2 ⟨Nat.mod_lt _ (by decide), by simp [okN]⟩⟩
theorem okN_one {n : Nat} (h : n < 4294967296) : okN [n] := okN_cons.2 ⟨h, by simp [okN]⟩
theorem add_step {out : List Nat} {c A B x y : Nat} (h : valN out + wN out.length * c = A + B) : valN (out ++ [(x + c + y) % 4294967296]) + wN (out.length + 1) * ((x + c + y) / 4294967296) = (A + wN out.length * x) + (B + wN out.length * y) := by
  rw [valN_snoc, wN_succ]
  have e := Nat.div_add_mod (x + c + y) 4294967296
  generalize (x + c + y) / 4294967296 = d at *
  generalize (x + c + y) % 4294967296 = r at *
  generalize wN out.length = p at *
  have e2 : p * (4294967296 * d + r) = p * (x + c + y) := by rw [e]
  grind
theorem take_val {l : List Nat} {i : Nat} : valN (l.take (i + 1)) = valN (l.take i) + wN i * l.getD i 0 := by
  by_cases h : i < l.length
  · rw [valN_take_succ h]; simp [List.getD, h]
  · rw [List.take_of_length_le (by omega), List.take_of_length_le (by omega)]
    simp [List.getD, List.getElem?_eq_none (show l.length ≤ i by omega)]
theorem take_all {l : List Nat} {i : Nat} (h : l.length ≤ i) : valN (l.take i) = valN l := by rw [List.take_of_length_le h]
theorem sub_step {out : List Nat} {b b' A B x y r : Nat} (h : valN out + B = A + wN out.length * b) (hr : r + y + b = x + 4294967296 * b') : valN (out ++ [r]) + (B + wN out.length * y) = (A + wN out.length * x) + wN (out.length + 1) * b' := by
  rw [valN_snoc, wN_succ]
  generalize wN out.length = p at *
  have e2 : p * (r + y + b) = p * (x + 4294967296 * b') := by rw [hr]
  grind
theorem sub_end {out : List Nat} {b A B : Nat} (ho : okN out) (h : valN out + B = A + wN out.length * b) (hle : B ≤ A) : valN out = A - B := by
  have h1 := valN_lt ho
  have : b = 0 := by
    rcases Nat.eq_zero_or_pos b with h0 | h0
    · exact h0
    · have := Nat.le_mul_of_pos_right (wN out.length) h0
      omega
  subst this
  omega
theorem mul_step {o : List Nat} {i k c V x y Bk : Nat} (hk : i + k < o.length) (h : valN o + wN (i + k) * c = V + wN i * (x * Bk)) :
    valN (o.set (i + k) ((x * y + o[i + k] + c) % 4294967296)) + wN (i + (k + 1)) * ((x * y + o[i + k] + c) / 4294967296) = V + wN i * (x * (Bk + wN k * y)) := by
  have h1 := valN_set (v := (x * y + o[i + k] + c) % 4294967296) hk
  have e := Nat.div_add_mod (x * y + o[i + k] + c) 4294967296
  rw [show i + (k + 1) = (i + k) + 1 by omega, wN_succ]
  generalize (x * y + o[i + k] + c) / 4294967296 = d at *
  generalize (x * y + o[i + k] + c) % 4294967296 = r at *
  generalize valN (o.set (i + k) r) = V2 at *
  generalize o[i + k] = z at *
  have e2 : wN (i + k) * (4294967296 * d + r) = wN (i + k) * (x * y + z + c) := by rw [e]
  have e3 : wN (i + k) = wN i * wN k := wN_add i k
  have e4 : wN i * (x * (Bk + wN k * y)) = wN i * (x * Bk) + wN (i + k) * (x * y) := by rw [e3]; grind
  rw [e4]
  generalize wN (i + k) = p at *
  grind
theorem mul_lt {x y z c : Nat} (hx : x < 4294967296) (hy : y < 4294967296) (hz : z < 4294967296) (hc : c < 4294967296) : x * y + z + c < 18446744073709551616 := by
  have := Nat.mul_le_mul (show x ≤ 4294967295 by omega) (show y ≤ 4294967295 by omega)
  omega
theorem mul_le {x y : Nat} (hx : x < 4294967296) (hy : y < 4294967296) : x * y ≤ 18446744065119617025 := Nat.mul_le_mul (show x ≤ 4294967295 by omega) (show y ≤ 4294967295 by omega)
theorem small_step {d rest x : Nat} (hd : 0 < d) {A Q : Nat} (h : A = d * Q + rest) : x + 4294967296 * A = d * ((rest * 4294967296 + x) / d + 4294967296 * Q) + (rest * 4294967296 + x) % d := by
  have e := Nat.div_add_mod (rest * 4294967296 + x) d
  generalize (rest * 4294967296 + x) / d = q at *
  generalize (rest * 4294967296 + x) % d = r at *
  subst h
  rw [Nat.mul_add, Nat.mul_add, ← Nat.mul_assoc, ← Nat.mul_assoc, Nat.mul_comm d 4294967296]
  rw [Nat.mul_comm d q] at *
  omega
theorem small_lt {d rest x : Nat} (hr : rest < d) (hx : x < 4294967296) : (rest * 4294967296 + x) / d < 4294967296 := by
  have hd : 0 < d := by omega
  rw [Nat.div_lt_iff_lt_mul hd]
  have := Nat.mul_le_mul_right 4294967296 (show rest + 1 ≤ d by omega)
  rw [Nat.mul_comm 4294967296 d]
  omega
theorem shl_step {out : List Nat} {c A x p2 : Nat} (h : valN out + wN out.length * c = A * p2) : valN (out ++ [(x * p2 + c) % 4294967296]) + wN (out.length + 1) * ((x * p2 + c) / 4294967296) = (A + wN out.length * x) * p2 := by
  rw [valN_snoc, wN_succ]
  have e := Nat.div_add_mod (x * p2 + c) 4294967296
  generalize (x * p2 + c) / 4294967296 = d at *
  generalize (x * p2 + c) % 4294967296 = r at *
  generalize wN out.length = p at *
  have e2 : p * (4294967296 * d + r) = p * (x * p2 + c) := by rw [e]
  grind
theorem shl_carry {x c n : Nat} (hx : x < 4294967296) (hc : c < 2 ^ n) : (x * 2 ^ n + c) / 4294967296 < 2 ^ n := by
  rw [Nat.div_lt_iff_lt_mul (by decide)]
  have := Nat.mul_le_mul_right (2 ^ n) (show x + 1 ≤ 4294967296 by omega)
  rw [Nat.add_mul, Nat.one_mul] at this
  rw [Nat.mul_comm (2 ^ n)]
  omega
theorem pow32 {n : Nat} (h : n < 32) : 2 ^ n * 2 ^ (32 - n) = 4294967296 := by
  rw [← Nat.pow_add, show n + (32 - n) = 32 by omega]
theorem shr_digit {x y R n : Nat} (h : n < 32) : ((x + 4294967296 * (y + 4294967296 * R)) / 2 ^ n) % 4294967296 = ((x + 4294967296 * y) / 2 ^ n) % 4294967296 := by
  have h1 := pow32 h
  have h2 : x + 4294967296 * (y + 4294967296 * R) = (x + 4294967296 * y) + 2 ^ n * (2 ^ (32 - n) * (4294967296 * R)) := by
    rw [← Nat.mul_assoc (2 ^ n), h1]; omega
  rw [h2, Nat.add_mul_div_left _ _ (Nat.two_pow_pos n), Nat.mul_comm (2 ^ (32 - n)), Nat.mul_assoc]
  omega
theorem wN_div (A i : Nat) {n : Nat} : A / 2 ^ n % wN (i + 1) = A / 2 ^ n % wN i + wN i * (A / wN i / 2 ^ n % 4294967296) := by
  rw [Nat.div_div_eq_div_mul, Nat.mul_comm (wN i) (2 ^ n), ← Nat.div_div_eq_div_mul, wN_succ, Nat.mul_comm 4294967296, Nat.mod_mul]
theorem valN_drop_div {l : List Nat} (h : okN l) {i : Nat} (hi : i ≤ l.length) : valN (l.drop i) = valN l / wN i := by
  have h1 := valN_cut l hi
  have h2 := valN_lt (okN_take h i)
  rw [List.length_take, Nat.min_eq_left hi] at h2
  rw [h1, Nat.add_mul_div_left _ _ (wN_pos i), Nat.div_eq_of_lt h2, Nat.zero_add]
theorem valN_take_mod {l : List Nat} (h : okN l) {i : Nat} (hi : i ≤ l.length) : valN (l.take i) = valN l % wN i := by
  have h1 := valN_cut l hi
  have h2 := valN_lt (okN_take h i)
  rw [List.length_take, Nat.min_eq_left hi] at h2
  rw [h1, Nat.add_mul_mod_self_left, Nat.mod_eq_of_lt h2]
section
variable {v1 v2 vr p V C top u2 ur q r : Nat}
theorem guess_init (hV : V = (v1 * 4294967296 + v2) * p + vr) (hC : C = (top * 4294967296 + u2) * p + ur) (hur : ur < p) (hu2 : u2 < 4294967296) (h1 : 0 < v1) : C / V ≤ top / v1 := by
  rw [Nat.le_div_iff_mul_le h1]
  have hd : C / V * V ≤ C := Nat.div_mul_le_self C V
  generalize C / V = d at *
  by_cases hlt : d * v1 ≤ top
  · exact hlt
  · exfalso
    have a1 : (top + 1) * (4294967296 * p) ≤ d * v1 * (4294967296 * p) := Nat.mul_le_mul_right _ (by omega)
    have a2 : d * V = d * v1 * (4294967296 * p) + d * v2 * p + d * vr := by rw [hV]; grind
    have a3 : (top * 4294967296 + u2) * p + ur < (top + 1) * (4294967296 * p) := by
      have : (u2 + 1) * p ≤ 4294967296 * p := Nat.mul_le_mul_right p (by omega)
      grind
    omega
theorem guess_dec (hV : V = (v1 * 4294967296 + v2) * p + vr) (hC : C = (top * 4294967296 + u2) * p + ur) (hur : ur < p) (hCV : C < 4294967296 * V) (hq : q * v1 + r = top) (hd : C / V ≤ q) (h : 4294967296 ≤ q ∨ r * 4294967296 + u2 < q * v2) : C / V + 1 ≤ q ∧ (q - 1) * v1 + (r + v1) = top := by
  have hpos : 0 < V := by rcases Nat.eq_zero_or_pos V with e | e; (rw [e] at hCV; omega); exact e
  have hlt : C / V < 4294967296 := by rw [Nat.div_lt_iff_lt_mul hpos]; exact hCV
  have hle : C / V * V ≤ C := Nat.div_mul_le_self C V
  generalize C / V = d at *
  have hd1 : d + 1 ≤ q := by
    rcases h with h | h
    · omega
    · rcases Nat.lt_or_ge d q with h2 | h2
      · exact h2
      · exfalso
        obtain rfl : d = q := by omega
        have a1 : d * V = (d * v1 * 4294967296 + d * v2) * p + d * vr := by rw [hV]; grind
        have a2 : (top * 4294967296 + u2 + 1) * p ≤ (d * v1 * 4294967296 + d * v2) * p := Nat.mul_le_mul_right p (by omega)
        grind
  refine ⟨hd1, ?_⟩
  have : q * v1 = (q - 1) * v1 + v1 := by
    conv => lhs; rw [show q = (q - 1) + 1 by omega]
    rw [Nat.add_mul, Nat.one_mul]
  omega
theorem guess_exit (hV : V = (v1 * 4294967296 + v2) * p + vr) (hC : C = (top * 4294967296 + u2) * p + ur) (hvr : vr < p) (h1 : 2147483648 ≤ v1) (hq : q * v1 + r = top) (hqW : q < 4294967296) (h : q * v2 ≤ r * 4294967296 + u2) : q ≤ C / V + 1 := by
  have hpp : 0 < p := by omega
  have hpos : 0 < V := by
    have : 0 < (v1 * 4294967296 + v2) * p := Nat.mul_pos (by omega) hpp
    omega
  have hlt : C < (C / V + 1) * V := by
    have := Nat.lt_div_mul_add (a := C) hpos
    rw [Nat.add_mul, Nat.one_mul]; exact this
  generalize C / V = d at *
  by_cases hle : q ≤ d + 1
  · exact hle
  · exfalso
    have a1 : (d + 1) * V ≤ (q - 1) * V := Nat.mul_le_mul_right V (by omega)
    have a2 : (q - 1) * V ≤ (q - 1) * ((v1 * 4294967296 + v2 + 1) * p) := Nat.mul_le_mul_left (q - 1) (by rw [hV, Nat.add_mul _ 1, Nat.one_mul]; omega)
    have a3 : q * (v1 * 4294967296 + v2) * p ≤ C := by
      rw [hC]
      have : q * (v1 * 4294967296 + v2) ≤ top * 4294967296 + u2 := by grind
      exact Nat.le_trans (Nat.mul_le_mul_right p this) (Nat.le_add_right _ _)
    have a4 : (q - 1) * (v1 * 4294967296 + v2 + 1) ≤ q * (v1 * 4294967296 + v2) := by
      obtain ⟨t, rfl⟩ : ∃ t, q = t + 1 := ⟨q - 1, by omega⟩
      rw [Nat.add_sub_cancel, Nat.add_mul, Nat.mul_add, Nat.mul_one, Nat.one_mul]
      have : t ≤ v1 * 4294967296 + v2 := by omega
      omega
    have a5 := Nat.mul_le_mul_right p a4
    rw [Nat.mul_assoc] at a5
    omega
theorem guess_brk (hq : q * v1 + r = top) (ht : top ≤ v1 * 4294967296 + 4294967295) (hv2 : v2 < 4294967296) (h1 : 0 < v1) (h : 4294967296 ≤ r) : q < 4294967296 ∧ q * v2 ≤ r * 4294967296 + u2 := by
  have hlt : q < 4294967296 := by
    rcases Nat.lt_or_ge q 4294967296 with h2 | h2
    · exact h2
    · have := Nat.mul_le_mul_right v1 h2
      rw [Nat.mul_comm 4294967296] at this
      omega
  refine ⟨hlt, ?_⟩
  have a1 := mul_le hlt hv2
  have a2 : 4294967296 * 4294967296 ≤ r * 4294967296 := Nat.mul_le_mul_right _ h
  omega
end
theorem red_step {c : List Nat} {q i ca b b' r S : Nat} {C : Nat} (hi : i < c.length) (h : valN c + q * S = C + wN i * (ca + b)) (y : Nat) (hr : r + (q * y + ca) % 4294967296 + b = c[i] + 4294967296 * b') :
    valN (c.set i r) + q * (S + wN i * y) = C + wN (i + 1) * ((q * y + ca) / 4294967296 + b') := by
  have h1 := valN_set (v := r) hi
  have e := Nat.div_add_mod (q * y + ca) 4294967296
  rw [wN_succ]
  generalize (q * y + ca) / 4294967296 = d at *
  generalize (q * y + ca) % 4294967296 = m at *
  generalize valN (c.set i r) = V2 at *
  generalize c[i] = z at *
  generalize wN i = p at *
  have e2 : p * (4294967296 * d + m) = p * (q * y + ca) := by rw [e]
  have e3 : p * (r + m + b) = p * (z + 4294967296 * b') := by rw [hr]
  grind
theorem red_last {c : List Nat} {q i ca b b' r S : Nat} {C : Nat} (hi : i < c.length) (h : valN c + q * S = C + wN i * (ca + b)) (hr : r + ca + b = c[i] + 4294967296 * b') :
    valN (c.set i r) + q * S = C + wN (i + 1) * b' := by
  have h1 := valN_set (v := r) hi
  rw [wN_succ]
  generalize valN (c.set i r) = V2 at *
  generalize c[i] = z at *
  generalize wN i = p at *
  have e3 : p * (r + ca + b) = p * (z + 4294967296 * b') := by rw [hr]
  grind
theorem back_step {c : List Nat} {i ca S : Nat} {C : Nat} (hi : i < c.length) (h : valN c + wN i * ca = C + S) (y : Nat) :
    valN (c.set i ((c[i] + y + ca) % 4294967296)) + wN (i + 1) * ((c[i] + y + ca) / 4294967296) = C + (S + wN i * y) := by
  have h1 := valN_set (v := (c[i] + y + ca) % 4294967296) hi
  have e := Nat.div_add_mod (c[i] + y + ca) 4294967296
  rw [wN_succ]
  generalize (c[i] + y + ca) / 4294967296 = d at *
  generalize (c[i] + y + ca) % 4294967296 = m at *
  generalize valN (c.set i m) = V2 at *
  generalize c[i] = z at *
  generalize wN i = p at *
  have e2 : p * (4294967296 * d + m) = p * (z + y + ca) := by rw [e]
  grind
theorem red_ok {c V q C L : Nat} (hc : c < L) (hCL : C < L) (hV : 0 < V) (h : c + q * V = C + L * 0) (h2 : C / V ≤ q) : q = C / V ∧ c + C / V * V = C ∧ c < V := by
  have : q ≤ C / V := by rw [Nat.le_div_iff_mul_le hV]; omega
  have e : q = C / V := by omega
  refine ⟨e, by rw [← e]; omega, ?_⟩
  have := Nat.lt_div_mul_add (a := C) hV
  rw [← e] at this
  omega
theorem red_back {c c2 V q C L e : Nat} (hV : 0 < V) (hVL : V ≤ L) (hc : c < L) (hc2 : c2 < L) (h : c + q * V = C + L * 1) (h2 : q ≤ C / V + 1) (h3 : c2 + L * e = c + V) : q - 1 = C / V ∧ c2 + C / V * V = C ∧ c2 < V := by
  have hd := Nat.div_mul_le_self C V
  have hd2 := Nat.lt_div_mul_add (a := C) hV
  have hq : q = C / V + 1 := by
    rcases Nat.lt_or_ge (C / V) q with h4 | h4
    · omega
    · exfalso
      have := Nat.mul_le_mul_right V h4
      omega
  rw [hq, Nat.add_mul, Nat.one_mul] at h
  have he : e = 1 := by
    rcases Nat.lt_or_ge e 1 with h4 | h4
    · have : e = 0 := by omega
      subst this; omega
    · rcases Nat.lt_or_ge 1 e with h5 | h5
      · exfalso
        have := Nat.mul_le_mul_left L (show 2 ≤ e by omega)
        omega
      · omega
  subst he
  rw [Nat.mul_one] at h h3
  exact ⟨by rw [hq, Nat.add_sub_cancel], by omega, by omega⟩
end Go.Proofs.YtamghpnjdohnjaaDoor.Sx
namespace Go.Proofs.YtamghpnjdohnjaaDoor.Sx
open Go Go.RowKit
set_option linter.unusedVariables false
set_option linter.unusedSimpArgs false
set_option maxRecDepth 100000
set_option maxHeartbeats 8000000
attribute [local congr] fin_congr finG_congr stepG_congr step1_congr runOps_congr brv_congr obl_congr condK_congr LoopK_congr seqK_congr CutK_congr vc_congr DrawK_congr regK_congr CallK_congr AskK_congr newK_congr retC_congr ret1_congr retK_congr outV_congr closeK_congr genR_congr appR_congr finD_congr finGD_congr stepGD_congr stepD_congr CallK0_congr runD_congr okR_congr CallS_congr vcX_congr
attribute [local congr] Stop_congr
def u32V (x : Nat) : Value := .int .u32 (x : Int)
theorem wrap32 (n : Nat) : IntKind.u32.wrap (n : Int) = ((n % 4294967296 : Nat) : Int) := by
  show (n : Int) % 4294967296 = _
  omega
theorem wrap32_id {n : Nat} (h : n < 4294967296) : IntKind.u32.wrap (n : Int) = (n : Int) := by rw [wrap32, Nat.mod_eq_of_lt h]
theorem wrap64 (n : Nat) : IntKind.u64.wrap (n : Int) = ((n % 18446744073709551616 : Nat) : Int) := by
  show (n : Int) % 18446744073709551616 = _
  omega
theorem wrap64_id {n : Nat} (h : n < 18446744073709551616) : IntKind.u64.wrap (n : Int) = (n : Int) := by rw [wrap64, Nat.mod_eq_of_lt h]
theorem wrap64_i {x : Int} (h : 0 ≤ x) (h2 : x < 18446744073709551616) : IntKind.u64.wrap x = x := by
  show x % 18446744073709551616 = x
  omega
theorem bits64_or {a b : Nat} (ha : a < 2 ^ 64) (hb : b < 2 ^ 64) : bits .or .u64 (a : Int) (b : Int) = ((a ||| b : Nat) : Int) := by
  show IntKind.u64.wrap ((BitVec.ofInt 64 (a : Int) ||| BitVec.ofInt 64 (b : Int)).toNat : Int) = _
  rw [BitVec.ofInt_natCast, BitVec.ofInt_natCast, BitVec.toNat_or, BitVec.toNat_ofNat, BitVec.toNat_ofNat]
  rw [Nat.mod_eq_of_lt ha, Nat.mod_eq_of_lt hb]
  exact wrap64_id (Nat.or_lt_two_pow ha hb)
theorem or_add {a b n : Nat} (h : b < 2 ^ n) : a * 2 ^ n ||| b = a * 2 ^ n + b := by
  rw [← Nat.shiftLeft_eq, Nat.shiftLeft_add_eq_or_of_lt h]
theorem or32 {a b : Nat} (ha : a < 4294967296) (hb : b < 4294967296) : bits .or .u64 ((a * 4294967296 : Nat) : Int) (b : Int) = ((a * 4294967296 + b : Nat) : Int) := by
  rw [bits64_or (by omega) (by omega), show (4294967296 : Nat) = 2 ^ 32 by decide, or_add (by omega)]
theorem shl32 {a : Nat} (ha : a < 4294967296) : IntKind.u64.wrap ((a : Int) * 2 ^ (min 32 IntKind.u64.bits)) = ((a * 4294967296 : Nat) : Int) := by
  have h1 : min 32 IntKind.u64.bits = 32 := rfl
  rw [h1, show ((a : Int) * 2 ^ 32) = ((a * 4294967296 : Nat) : Int) by omega, wrap64_id (by omega)]
theorem shr32 (a : Nat) : (a : Int).fdiv (2 ^ (min 32 IntKind.u64.bits)) = ((a / 4294967296 : Nat) : Int) := by
  have h1 : min 32 IntKind.u64.bits = 32 := rfl
  rw [h1, Int.fdiv_eq_ediv_of_nonneg _ (by decide)]; omega
theorem shr63 (a : Nat) : (a : Int).fdiv (2 ^ (min 63 IntKind.u64.bits)) = ((a / 9223372036854775808 : Nat) : Int) := by
  have h1 : min 63 IntKind.u64.bits = 63 := rfl
  rw [h1, Int.fdiv_eq_ediv_of_nonneg _ (by decide)]; omega
theorem u32_one (l : List Nat) : allOne (cE u32V l) = True := eq_true (allOne_cE u32V (fun _ => rfl) l)
theorem u32_app1 (l : List Nat) (x : Nat) : cE u32V l ++ [.ext (.int .u32 (x : Int))] = cE u32V (l ++ [x]) := cE_snoc u32V l x
theorem u32_set (l : List Nat) (i x : Nat) : (cE u32V l).set i (.ext (.int .u32 (x : Int))) = cE u32V (l.set i x) := cE_set u32V l i x
theorem u32_at {l : List Nat} {i : Nat} (h : i < l.length) : (cE u32V l)[i]? = some (.ext (.int .u32 (l[i] : Int))) := cE_at u32V h
theorem pred_i {j : Nat} (h : 0 < j) (h2 : j < 9223372036854775807) : IntKind.i64.wrap ((j : Int) - 1) = ((j - 1 : Nat) : Int) := by rw [wrap_id (by omega) (by omega)]; omega
theorem succ_i {j : Nat} (h2 : j < 9223372036854775807) : IntKind.i64.wrap ((j : Int) + 1) = ((j + 1 : Nat) : Int) := by rw [wrap_id (by omega) (by omega)]; omega
section
variable {M : Mem} {K : AV → Hp → Mem → Prop}
def trSt (M : Mem) (k j : Nat) (l : List Nat) : St := { env := [(0, .slo k 0 j 1)], hp := [(k, 70, cE u32V l)], M := M, kb := k + 1, fx := [k] }
theorem trim_ok (k n : Nat) (l : List Nat) (hl : l.length = n) (hb : n < 1000000000) (ho : okN l) (hK : ∀ m, l.take m = ofN (valN l) → m = (ofN (valN l)).length → K (.slo k 0 m 1) [(k, 70, cE u32V (ofN (valN l)))] M) :
    CallS Tryd.prog 94 [.slo k 0 n 1] [(k, 70, cE u32V l)] M [] K := by
  refine CallS.cut ?_
  refine inlS (cs := []) (f := 94) Tryd.mixed Tryd.func94 rfl (by kernel_rfl) (k + 1) rfl (by simp [ltB, keysH]) ?_
  simp only [Tryd.f94]
  (replace hb0 := true_and True); refine Go1.mk ?_; repeat' ((first | (with_reducible refine Go1.go ?_) | ((with_reducible first | refine brv_mk ?_ ?_ | refine gsplitD ?_ ?_ | refine gsplitG ?_ ?_) <;> intro h <;> (try simp only [Bool.not_eq_true', Bool.not_eq_false'] at h) <;> replace hb0 := h) | (refine And.intro ?ob ?_; case ob => ((try simp only [sxO, ne_eq, maxLen] at *); omega)) | fail) <;> (try simp (config := { maxSteps := 1000000 }) only [hb0, ↓hold_pre, awayP, runOps, regK, step1, newK, genR, appR, obl, buildR, Value.cells, closeK, keepH, outV, retK, ret1, retC, RetV, Option.getD, runD, stepD, afterK, undef, simprocAttr, sxB, ↓sxD, sxE, sxTab]))
  refine ⟨fun d z => ∃ j, j ≤ n ∧ (∀ i (h : i < l.length), j ≤ i → l[i] = 0) ∧ j = d ∧ z = trSt M k j l, ⟨n, trSt M k n l, le_sub ⟨rfl, trivial⟩ ⟨by simp [lkH], trivial⟩ rfl rfl rfl (by simp [keepLt, trSt, lkH]), ⟨n, Nat.le_refl _, fun i h hi => by omega, rfl, rfl⟩⟩, ?_⟩
  rintro d z ⟨j, hj, hz, rfl, rfl⟩
  have key : (∀ h : 0 < j, l[j - 1] ≠ 0) → K (.slo k 0 j 1) [(k, 70, cE u32V (l.take j))] M := fun h => by
    have e := take_canon ho (by omega) hz h
    have e2 : j = (ofN (valN l)).length := by rw [← e, List.length_take]; omega
    have := hK j e e2
    rw [e]; exact this
  by_cases hlt : 0 < j
  case neg =>
    obtain rfl : j = 0 := by omega
    have d1 : decide ((0 : Int) < ((0 : Nat) : Int)) = false := by decide
    (replace hb0 := true_and True); refine Go1.mk ?_; repeat' ((first | (with_reducible refine Go1.go ?_) | ((with_reducible first | refine brv_mk ?_ ?_ | refine gsplitD ?_ ?_ | refine gsplitG ?_ ?_) <;> intro h <;> (try simp only [Bool.not_eq_true', Bool.not_eq_false'] at h) <;> replace hb0 := h) | (refine And.intro ?ob ?_; case ob => ((try simp only [sxO, ne_eq, maxLen] at *); omega)) | fail) <;> (try simp (config := { maxSteps := 1000000 }) only [hb0, cE_ment, hasK_nil, cE_kill, cE_len, u32_one, u32_app1, u32_set, Nat.mul_one, trSt, d1, ↓hold_pre, awayP, runOps, regK, step1, newK, genR, appR, obl, buildR, Value.cells, closeK, keepH, outV, retK, ret1, retC, RetV, Option.getD, runD, stepD, afterK, undef, simprocAttr, sxB, ↓sxD, sxE, sxTab]))
    exact ⟨k, _, _, 0, [], rfl, key (fun h => by omega)⟩
  have d1 : decide ((0 : Int) < (j : Int)) = true := by simp; omega
  have d2 : (0 : Int) ≤ ((j - 1 : Nat) : Int) := by omega
  have d3 : ((j - 1 : Nat) : Int) < (j : Int) := by omega
  have w1 := pred_i hlt (by omega)
  have hi : j - 1 < l.length := by omega
  have hat := u32_at hi
  by_cases h0 : l[j - 1] = 0
  · have d4 : decide ((l[j - 1] : Int) = 0) = true := by simp; omega
    have d5 : ((j - 1 : Nat) : Int) ≤ (j : Int) := by omega
    (replace hb0 := true_and True); refine Go1.mk ?_; repeat' ((first | (with_reducible refine Go1.go ?_) | ((with_reducible first | refine brv_mk ?_ ?_ | refine gsplitD ?_ ?_ | refine gsplitG ?_ ?_) <;> intro h <;> (try simp only [Bool.not_eq_true', Bool.not_eq_false'] at h) <;> replace hb0 := h) | (refine And.intro ?ob ?_; case ob => ((try simp only [sxO, ne_eq, maxLen] at *); omega)) | fail) <;> (try simp (config := { maxSteps := 1000000 }) only [hb0, cE_ment, hasK_nil, cE_kill, cE_len, u32_one, u32_app1, u32_set, Nat.mul_one, trSt, d1, d2, d3, w1, hat, d4, d5, ↓hold_pre, awayP, runOps, regK, step1, newK, genR, appR, obl, buildR, Value.cells, closeK, keepH, outV, retK, ret1, retC, RetV, Option.getD, runD, stepD, afterK, undef, simprocAttr, sxB, ↓sxD, sxE, sxTab]))
    exact ⟨j - 1, _, by omega, le_sub (z := trSt M k (j - 1) l) ⟨rfl, trivial⟩ ⟨by simp [lkH], trivial⟩ rfl rfl rfl (by simp [keepLt, trSt, lkH]), j - 1, by omega, fun i h hi => by
      rcases Nat.lt_or_ge i j with h1 | h1
      · obtain rfl : i = j - 1 := by omega
        exact h0
      · exact hz i h h1, rfl, rfl⟩
  · have d4 : decide ((l[j - 1] : Int) = 0) = false := by simp; omega
    (replace hb0 := true_and True); refine Go1.mk ?_; repeat' ((first | (with_reducible refine Go1.go ?_) | ((with_reducible first | refine brv_mk ?_ ?_ | refine gsplitD ?_ ?_ | refine gsplitG ?_ ?_) <;> intro h <;> (try simp only [Bool.not_eq_true', Bool.not_eq_false'] at h) <;> replace hb0 := h) | (refine And.intro ?ob ?_; case ob => ((try simp only [sxO, ne_eq, maxLen] at *); omega)) | fail) <;> (try simp (config := { maxSteps := 1000000 }) only [hb0, cE_ment, hasK_nil, cE_kill, cE_len, u32_one, u32_app1, u32_set, Nat.mul_one, trSt, d1, d2, d3, w1, hat, d4, ↓hold_pre, awayP, runOps, regK, step1, newK, genR, appR, obl, buildR, Value.cells, closeK, keepH, outV, retK, ret1, retC, RetV, Option.getD, runD, stepD, afterK, undef, simprocAttr, sxB, ↓sxD, sxE, sxTab]))
    exact ⟨k, _, _, j, [], rfl, by rw [cE_take]; exact key (fun h => h0)⟩
end
end Go.Proofs.YtamghpnjdohnjaaDoor.Sx
