/- Messages: the normal form of any message is what the reference says. It starts from the words that the text lays in the variable pieces. -/
import Derived.Test.YtncbbbappadcfaaDoorRows
import Derived.Test.YtncbbbappadcfaaDoorMsgAH
import Derived.Test.YtncbbbappadcfaaDoorRow
import Derived.Test.YtncbbbappadcfaaDoorLaid
import Derived.Test.YtncbbbappadcfaaDoorCards
import Derived.Test.YtncbbbappadcfaaDoorTie
import Derived.Stop.Joined
import Derived.ChangeMaps5
namespace Go.Proofs.YtncbbbappadcfaaDoor.messageNormals
open Go.ChangeShapes Go.WideShapes Go.ChangeAt Go.RowKit Go.ChangeMaps

theorem own : ownKnob Tryd.prog.godebug = none := by kernel_rfl
theorem laid : laidOutB Tryd.prog = true := by kernel_rfl

set_option maxRecDepth 100000 in
theorem door_met (os : Os) (args : Array Value) : laidMetH Tryd.prog Rows.messageNormalsRow.laid ((World.doorLaid Tryd.prog 400 os).forCall (fun _ _ => 0) ⟨#[], args, []⟩).memory :=
  laidMetH_of_parts3 (fuel := 8) (laidMet_of_run' 8 (by kernel_rfl) (by kernel_rfl)) (by kernel_rfl) (by kernel_rfl)

set_option maxRecDepth 100000 in
theorem lifted (os : Os) (started : os.Started) (H : Type) (enc : TypeId × Value → H) :
    ReturnsInHanded {} Tryd.checked os 5 .any (fun w args => (Rows.messageNormalsSpec.pre enc Tryd.prog Tryd.f5 [] false w args ∧ laidMetH Tryd.prog Rows.messageNormalsRow.laid w) ∧ sizedMet enc Tryd.prog Tryd.f5 (OpenSpec.ofChange Rows.messageNormalsSpec) false w args) (Rows.messageNormalsSpec.post enc Tryd.prog Tryd.f5 false true false false) := by
  refine returnsInHanded_of_change_and (C := Tryd.checked) (X := fun w _ => laidMetH Tryd.prog Rows.messageNormalsRow.laid w) (fun _ _ _ hh h => h.of_heap hh) own started (by kernel_rfl) Tryd.func5
    (ChangeSpec.witness_shaped (enc := enc) (C := Tryd.checked) (os := os) (X := fun w _ => laidMetH Tryd.prog Rows.messageNormalsRow.laid w) false (World.doorLaid Tryd.prog 400 os) #[.slice none 0 0, .string ⟨#[]⟩] 8 rfl (World.shaped_of_RefB (by kernel_rfl) (by kernel_rfl)) (by kernel_rfl) (by kernel_rfl) (by kernel_rfl) (door_met os _)) ?_
  intro W base args ds gs before hval0 hW _ _ hL _
  have hval : ∀ (j : Nat) t v, Tryd.f5.params[j]? = some t → args[j]? = some v → Value.okWide Tryd.prog W .any base t v := hval0
  have hW' := hW
  have hlt : ∀ x ∈ before, x.block < W.heap.size := fun x hx => hW'.lt x hx
  obtain ⟨p, q, hA0, hV, rfl, hfz, hnd⟩ := hW
  have hA : DataW.TrodAll enc Tryd.prog W 0 (fun _ => true) true Tryd.f5.params.toList args.toList ds p := hA0
  have hAk := hA
  rw [Tryd.params5] at hA hval
  obtain ⟨v0, vs0, d0, ds0, p0, q0, hargs, rfl, rfl, h0, r0⟩ := trodAll_cons hA
  obtain ⟨v1, vs1, d1, ds1, p1, q1, rfl, rfl, rfl, h1, r1⟩ := trodAll_cons r0
  obtain ⟨rfl, rfl, rfl⟩ := trodAll_nil r1
  obtain rfl : args = #[v0, v1] := by cases args; simp_all
  obtain ⟨rfl, rfl⟩ := trodVars_none hV
  obtain ⟨l0, g0, b0, o0⟩ := Sx.open_sints (k := .i64) Tryd.underlying22 Tryd.underlying3 (by kernel_rfl) (hval 0 22 v0 rfl rfl) h0
  obtain ⟨a1, rfl, rfl, rfl, w1⟩ := open_string Tryd.underlying9 (hval 1 9 v1 rfl rfl) h1
  clear hA0 hval0
  simp only [List.append_nil] at hW' hlt
  have hL' : laidMet Tryd.prog [("testgate/testgatelaw26.pieces", .slice (([[97], [103, 111, 116, 32], [48, 120], [55], [100, 101, 97, 100, 98, 101, 101], [49], [47], [120, 46, 103, 111], [58], [32], [9], [34], [10], [45], [95], [46], [105, 110, 116, 51, 50], [35], [49, 50], [195, 169], [0], [119, 97, 110, 116], [48, 88], [102], [48, 120, 49, 70], [13], [61], [39]] : List (List UInt8)).map fun s => .lit (.string s)) [])] W := by
    have h := hL
    rw [MakeChecks.laidMetH_plain _ _ _ (by kernel_rfl)] at h
    exact h
  obtain ⟨up, hg0, hup⟩ := Sx.laid_strs (z := 1) (g := 0) (t := 28) (e := 9) (by kernel_rfl) (by kernel_rfl) (by kernel_rfl) (by kernel_rfl) Tryd.underlying28 Tryd.underlying9 (by kernel_rfl) (by decide) hL'
  refine (Sx.law_callsM (us := [v0, .string a1]) (Sx.normals_ok v0 l0 a1.data.toList up _ hg0 hup (by decide) (by decide) (by decide) g0 fun _ _ => rfl)).mono fun e W' ⟨he, hg⟩ => ?_
  subst he
  refine ⟨_, rfl, Sx.post_of_below (pv := []) hW' (fun _ _ _ => (trodAll_cons_mk (shut_bool Tryd.underlying4 _) trodAll_mk0)) (fun sp hs => Sx.trodAll_stays laid hg (by kernel_rfl) (fun x hx => hlt x (by simpa using hx)) (fun x hx => hs x (by simpa using hx)) hAk) (fun _ _ => rfl) (by simp)
    hg (ok_one (by kernel_rfl) rfl (okWide_bool_mk Tryd.underlying4 _))⟩

theorem over : Rows.messageNormalsRow.holds Tryd.pinned (OpenSpec.ofChange Rows.messageNormalsSpec) :=
  OpenClaim.holds_of_wide 5 Tryd.f5 rfl rfl rfl rfl rfl rfl rfl ⟨rfl, rfl, rfl, rfl, rfl⟩ rfl rfl rfl rfl rfl (by kernel_rfl) Tryd.func5 (by kernel_rfl)
    (of_decide_eq_true (by kernel_rfl)) (by unfold Func.isWrapper; first | (rw [if_pos (by decide +kernel)]; kernel_rfl) | (rw [if_neg (by decide +kernel)]; exact ⟨rfl, rfl⟩))
    (fun os started H enc _ => lifted os started H enc)

theorem proved : Rows.MessageNormalsCardSaid :=
  Claim7.holds_tied_plain_at .later [] [.widerDeep] true (true, "c9e4bc61c646125bb01551274704b0676827513169960d43631514a812546be3") false
    over (fun _ h => by cases h) (by kernel_rfl) (fun _ h => by cases h) messageNormals_row_tie rfl ⟨rfl, rfl⟩ (by kernel_rfl) rfl
    (fun f fn hf hfn => by
      obtain rfl : f = 5 := Option.some.inj ((show Tryd.prog.funcNamed "testgate/testgatelaw26.MessageNormals" = some 5 by kernel_rfl).symm.trans hf) |>.symm
      obtain rfl : fn = Tryd.f5 := (Option.some.inj (Tryd.func5.symm.trans hfn)).symm
      exact ⟨by kernel_rfl, fun j t ht => by
        rw [Tryd.params5] at ht
        have hm : t ∈ [22, 9] := by simpa using Array.mem_of_getElem? ht
        have hall : ([22, 9].all fun u => !Tryd.prog.wantsStandIn u) = true := by kernel_rfl
        exact (show Tryd.prog.wantsStandIn t = false by simpa using List.all_eq_true.1 hall t hm)⟩)
    (by kernel_rfl)
end Go.Proofs.YtncbbbappadcfaaDoor.messageNormals
