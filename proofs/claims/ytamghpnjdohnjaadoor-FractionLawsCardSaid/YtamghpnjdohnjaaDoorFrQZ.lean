/- Fractions: quotients undo products, differences undo sums, and products go over sums. It starts from two tables of the library that the law never looks at. -/
import Derived.Test.YtamghpnjdohnjaaDoorRows
import Derived.Test.YtamghpnjdohnjaaDoorFrQP2
import Derived.Test.YtamghpnjdohnjaaDoorRow
import Derived.Test.YtamghpnjdohnjaaDoorCards
import Derived.Test.YtamghpnjdohnjaaDoorTie
import Derived.Stop.Joined
import Derived.Lay
namespace Go.Proofs.YtamghpnjdohnjaaDoor.fractionLaws
open Go.ChangeShapes Go.WideShapes Go.ChangeAt Go.RowKit

theorem own : ownKnob Tryd.prog.godebug = none := by kernel_rfl
theorem laid : laidOutB Tryd.prog = true := by kernel_rfl

set_option maxRecDepth 100000 in
theorem lifted (os : Os) (started : os.Started) (H : Type) (enc : TypeId × Value → H) :
    ReturnsInHanded {} Tryd.checked os 5 .any (fun w args => (Rows.fractionLawsSpec.pre enc Tryd.prog Tryd.f5 [] false w args ∧ laidMetH Tryd.prog Rows.fractionLawsRow.laid w) ∧ sizedMet enc Tryd.prog Tryd.f5 (OpenSpec.ofChange Rows.fractionLawsSpec) false w args) (Rows.fractionLawsSpec.post enc Tryd.prog Tryd.f5 false true false false) := by
  refine returnsInHanded_of_change_and (C := Tryd.checked) (X := fun w _ => laidMetH Tryd.prog Rows.fractionLawsRow.laid w) (fun _ _ _ hh h => h.of_heap hh) own started (by kernel_rfl) Tryd.func5
    (ChangeSpec.witness_shaped (enc := enc) (C := Tryd.checked) (os := os) (X := fun w _ => laidMetH Tryd.prog Rows.fractionLawsRow.laid w) false (World.laidAll Tryd.prog os Rows.fractionLawsRow.laid) #[.slice none 0 0] 8 (World.laidAll_os _ _ _)
      (World.shaped_of_ZipB (by kernel_rfl) (by kernel_rfl)) (by kernel_rfl) (by kernel_rfl) (by kernel_rfl) (by rw [MakeChecks.laidMetH_plain _ _ _ (by kernel_rfl)]; exact laidMet_laidAll _ (by kernel_rfl) (by kernel_rfl))) ?_
  intro W base args ds gs before hval0 hW _ _ hL _
  have hval : ∀ (j : Nat) t v, Tryd.f5.params[j]? = some t → args[j]? = some v → Value.okWide Tryd.prog W .any base t v := hval0
  have hW' := hW
  have hlt : ∀ x ∈ before, x.block < W.heap.size := fun x hx => hW'.lt x hx
  obtain ⟨p, q, hA0, hV, rfl, hfz, hnd⟩ := hW
  have hA : DataW.TrodAll enc Tryd.prog W 0 (fun _ => true) true Tryd.f5.params.toList args.toList ds p := hA0
  have hAk := hA
  rw [Tryd.params5] at hA hval
  obtain ⟨v0, vs0, d0, ds0, p0, q0, hargs, rfl, rfl, h0, r0⟩ := trodAll_cons hA
  obtain ⟨rfl, rfl, rfl⟩ := trodAll_nil r0
  obtain rfl : args = #[v0] := by cases args; simp_all
  obtain ⟨rfl, rfl⟩ := trodVars_none hV
  obtain ⟨l0, g0, b0, o0⟩ := Sx.open_sints (k := .i64) Tryd.underlying39 Tryd.underlying3 (by kernel_rfl) (hval 0 39 v0 rfl rfl) h0
  clear hA0 hval0
  simp only [List.append_nil] at hW' hlt
  refine (Sx.law_callsM (us := [v0]) (Sx.flaws_ok v0 l0 g0 fun _ _ => rfl)).mono fun e W' ⟨he, hg⟩ => ?_
  subst he
  refine ⟨_, rfl, Sx.post_of_below (pv := []) hW' (fun _ _ _ => (trodAll_cons_mk (shut_bool Tryd.underlying4 _) trodAll_mk0)) (fun sp hs => Sx.trodAll_stays laid hg (by kernel_rfl) (fun x hx => hlt x (by simpa using hx)) (fun x hx => hs x (by simpa using hx)) hAk) (fun _ _ => rfl) (by simp)
    hg (ok_one (by kernel_rfl) rfl (okWide_bool_mk Tryd.underlying4 _))⟩

theorem over : Rows.fractionLawsRow.holds Tryd.pinned (OpenSpec.ofChange Rows.fractionLawsSpec) :=
  OpenClaim.holds_of_wide 5 Tryd.f5 rfl rfl rfl rfl rfl rfl rfl ⟨rfl, rfl, rfl, rfl, rfl⟩ rfl rfl rfl rfl rfl (by kernel_rfl) Tryd.func5 (by kernel_rfl)
    (of_decide_eq_true (by kernel_rfl)) (by unfold Func.isWrapper; first | (rw [if_pos (by decide +kernel)]; kernel_rfl) | (rw [if_neg (by decide +kernel)]; exact ⟨rfl, rfl⟩))
    (fun os started H enc _ => lifted os started H enc)

theorem proved : Rows.FractionLawsCardSaid :=
  Claim7.holds_tied_plain_at .later [] [.data, .pinned] true (true, "b28262ee12a80a403a2cee9550ec8ddc08a6577d7b7ea35d7e9a15f43d678779") false
    over (fun _ h => by cases h) (by kernel_rfl) (fun _ h => by cases h) fractionLaws_row_tie rfl ⟨rfl, rfl⟩ (by kernel_rfl) rfl
    (fun f fn hf hfn => by
      obtain rfl : f = 5 := Option.some.inj ((show Tryd.prog.funcNamed "testgate/testgatelaw02.FractionLaws" = some 5 by kernel_rfl).symm.trans hf) |>.symm
      obtain rfl : fn = Tryd.f5 := (Option.some.inj (Tryd.func5.symm.trans hfn)).symm
      exact ⟨by kernel_rfl, fun j t ht => by
        rw [Tryd.params5] at ht
        have hm : t ∈ [39] := by simpa using Array.mem_of_getElem? ht
        have hall : ([39].all fun u => !Tryd.prog.wantsStandIn u) = true := by kernel_rfl
        exact (show Tryd.prog.wantsStandIn t = false by simpa using List.all_eq_true.1 hall t hm)⟩)
    (by kernel_rfl)
end Go.Proofs.YtamghpnjdohnjaaDoor.fractionLaws
