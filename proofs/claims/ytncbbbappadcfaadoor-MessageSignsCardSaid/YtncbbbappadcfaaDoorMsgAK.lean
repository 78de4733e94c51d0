/- Messages: the signature of any failure is what the reference says, or the error is. It starts from the words that the text lays in the variable pieces. -/
import Derived.Test.YtncbbbappadcfaaDoorRows
import Derived.Test.YtncbbbappadcfaaDoorMsgAJ
import Derived.Test.YtncbbbappadcfaaDoorRow
import Derived.Test.YtncbbbappadcfaaDoorLaid
import Derived.Test.YtncbbbappadcfaaDoorCards
import Derived.Test.YtncbbbappadcfaaDoorTie
import Derived.Stop.Joined
import Derived.SizedLaws
import Derived.Test.YtncbbbappadcfaaDoorOpn
namespace Go.Proofs.YtncbbbappadcfaaDoor.messageSigns
open Go.ChangeShapes Go.WideShapes Go.ChangeAt Go.RowKit

theorem own : ownKnob Tryd.prog.godebug = none := by kernel_rfl
theorem laid : laidOutB Tryd.prog = true := by kernel_rfl

set_option maxRecDepth 100000 in
theorem door_met (os : Os) (args : Array Value) : laidMetH Tryd.prog Rows.messageSignsRow.laid ((World.doorLaid Tryd.prog 400 os).forCall (fun _ _ => 0) ⟨#[], args, []⟩).memory :=
  laidMetH_of_parts3 (fuel := 8) (laidMet_of_run' 8 (by kernel_rfl) (by kernel_rfl)) (by kernel_rfl) (by kernel_rfl)

set_option maxRecDepth 100000 in
theorem lifted (os : Os) (started : os.Started) (H : Type) (enc : TypeId × Value → H) :
    ReturnsInHanded {} Tryd.checked os 6 .any (fun w args => (Rows.messageSignsSpec.pre enc Tryd.prog Tryd.f6 [] false w args ∧ laidMetH Tryd.prog Rows.messageSignsRow.laid w) ∧ sizedMet enc Tryd.prog Tryd.f6 (OpenSpec.ofChange Rows.messageSignsSpec) false w args) (Rows.messageSignsSpec.post enc Tryd.prog Tryd.f6 false true false false) := by
  refine returnsInHanded_of_change_and (C := Tryd.checked) (X := fun w _ => laidMetH Tryd.prog Rows.messageSignsRow.laid w) (fun _ _ _ hh h => h.of_heap hh) own started (by kernel_rfl) Tryd.func6
    (ChangeSpec.witness_shaped (enc := enc) (C := Tryd.checked) (os := os) (X := fun w _ => laidMetH Tryd.prog Rows.messageSignsRow.laid w) false (World.doorLaid Tryd.prog 400 os) #[.slice none 0 0, .agg #[.string ⟨#[]⟩, .string ⟨#[]⟩, .int .i64 0, .string ⟨#[]⟩, .slice none 0 0], .int .i64 0] 8 rfl (World.shaped_of_RefB (by kernel_rfl) (by kernel_rfl)) (by kernel_rfl) (by kernel_rfl) (by kernel_rfl) (door_met os _)) ?_
  intro W base args ds gs before hval0 hW _ hsz hL _
  have hval : ∀ (j : Nat) t v, Tryd.f6.params[j]? = some t → args[j]? = some v → Value.okWide Tryd.prog W .any base t v := hval0
  have hW' := hW
  have hlt : ∀ x ∈ before, x.block < W.heap.size := fun x hx => hW'.lt x hx
  obtain ⟨p, q, hA0, hV, rfl, hfz, hnd⟩ := hW
  have hA : DataW.TrodAll enc Tryd.prog W 0 (fun _ => true) true Tryd.f6.params.toList args.toList ds p := hA0
  have hAk := hA
  rw [Tryd.params6] at hA hval hsz
  obtain ⟨v0, vs0, d0, ds0, p0, q0, hargs, rfl, rfl, h0, r0⟩ := trodAll_cons hA
  obtain ⟨v1, vs1, d1, ds1, p1, q1, rfl, rfl, rfl, h1, r1⟩ := trodAll_cons r0
  obtain ⟨v2, vs2, d2, ds2, p2, q2, rfl, rfl, rfl, h2, r2⟩ := trodAll_cons r1
  obtain ⟨rfl, rfl, rfl⟩ := trodAll_nil r2
  obtain rfl : args = #[v0, v1, v2] := by cases args; simp_all
  obtain ⟨rfl, rfl⟩ := trodVars_none hV
  obtain ⟨l0, g0, b0, o0⟩ := Sx.open_sints (k := .i64) Tryd.underlying22 Tryd.underlying3 (by kernel_rfl) (hval 0 22 v0 rfl rfl) h0
  obtain ⟨cs1, rfl, cl1, cf1⟩ := Sx.opn_struct Tryd.underlying46 (hval 1 46 v1 rfl rfl) h1 (Sx.small_of hsz (j := 1) rfl rfl)
  obtain ⟨q1_0, q1_1, q1_2, q1_3, q1_4, rfl⟩ := Sx.len5 (cl1.trans (show Tryd.prog.cellsOf 46 = 5 by kernel_rfl))
  obtain ⟨_, _, e1_0, z1_0⟩ := cf1 0 _ rfl
  obtain ⟨_, _, e1_1, z1_1⟩ := cf1 1 _ rfl
  obtain ⟨_, _, e1_2, z1_2⟩ := cf1 2 _ rfl
  obtain ⟨_, _, e1_3, z1_3⟩ := cf1 3 _ rfl
  obtain ⟨⟨s1_0, s1_1⟩, x1_0, o1_0⟩ := Sx.opn_str2 Tryd.underlying39 (Sx.opn_string Tryd.underlying9) (Sx.opn_string Tryd.underlying9) rfl (by kernel_rfl) (by kernel_rfl) _ _ _ e1_0 z1_0
  obtain ⟨c1_2, x1_1, o1_1⟩ := Sx.opn_int Tryd.underlying3 _ _ _ e1_1 z1_1
  obtain ⟨s1_3, x1_2, o1_2⟩ := Sx.opn_string Tryd.underlying9 _ _ _ e1_2 z1_2
  obtain ⟨l1, g1, b1, o1⟩ := Sx.opn_fslice (j := 4) (tl := [9, 9, 3, 9, 31]) (z := 3) (B := 40) (Sx.opn_str3 Tryd.underlying34 (Sx.opn_string Tryd.underlying9) (Sx.opn_string Tryd.underlying9) (Sx.opn_int Tryd.underlying3) rfl (by kernel_rfl) (by kernel_rfl) (by kernel_rfl)) (fun _ => rfl) (by kernel_rfl) (by kernel_rfl) Tryd.underlying46 (by kernel_rfl) rfl Tryd.underlying31 (hval 1 46 _ rfl rfl) rfl e1_3 z1_3 rfl
  have y1_0 : [q1_0, q1_1] = [Sx.sbV s1_0, Sx.sbV s1_1] := x1_0
  have y1_1 : [q1_2] = [.int .i64 c1_2] := x1_1
  have y1_2 : [q1_3] = [Sx.sbV s1_3] := x1_2
  simp only [List.cons.injEq, and_true] at y1_0 y1_1 y1_2
  clear x1_0 x1_1 x1_2
  obtain ⟨rfl, rfl⟩ := y1_0
  obtain rfl := y1_1
  obtain rfl := y1_2
  obtain ⟨a2, rfl, rfl, rfl, w2⟩ := open_int Tryd.underlying3 (hval 2 3 v2 rfl rfl) h2
  clear hA0 hval0
  simp only [List.append_nil] at hW' hlt
  have hL' : laidMet Tryd.prog [("testgate/testgatelaw26.pieces", .slice (([[97], [103, 111, 116, 32], [48, 120], [55], [100, 101, 97, 100, 98, 101, 101], [49], [47], [120, 46, 103, 111], [58], [32], [9], [34], [10], [45], [95], [46], [105, 110, 116, 51, 50], [35], [49, 50], [195, 169], [0], [119, 97, 110, 116], [48, 88], [102], [48, 120, 49, 70], [13], [61], [39]] : List (List UInt8)).map fun s => .lit (.string s)) [])] W := by
    have h := hL
    rw [MakeChecks.laidMetH_plain _ _ _ (by kernel_rfl)] at h
    exact h
  obtain ⟨up, hg0, hup⟩ := Sx.laid_strs (z := 1) (g := 0) (t := 28) (e := 9) (by kernel_rfl) (by kernel_rfl) (by kernel_rfl) (by kernel_rfl) Tryd.underlying28 Tryd.underlying9 (by kernel_rfl) (by decide) hL'
  refine (Sx.law_callsM (us := [v0, .agg #[Sx.sbV s1_0, Sx.sbV s1_1, .int .i64 c1_2, Sx.sbV s1_3, q1_4], .int .i64 a2]) (Sx.signs_ok v0 l0 s1_0 s1_1 c1_2 s1_3 q1_4 l1 a2 up _ hg0 hup (by decide) (by decide) (by decide) g0 g1 (fun c hc => ⟨(o1 c hc).1, (o1 c hc).2.1⟩) fun _ _ => rfl)).mono fun e W' ⟨he, hg⟩ => ?_
  subst he
  refine ⟨_, rfl, Sx.post_of_below (pv := []) hW' (fun _ _ _ => (trodAll_cons_mk (shut_bool Tryd.underlying4 _) trodAll_mk0)) (fun sp hs => Sx.trodAll_stays laid hg (by kernel_rfl) (fun x hx => hlt x (by simpa using hx)) (fun x hx => hs x (by simpa using hx)) hAk) (fun _ _ => rfl) (by simp)
    hg (ok_one (by kernel_rfl) rfl (okWide_bool_mk Tryd.underlying4 _))⟩

theorem over : Rows.messageSignsRow.holds Tryd.pinned (OpenSpec.ofChange Rows.messageSignsSpec) :=
  OpenClaim.holds_of_wide 6 Tryd.f6 rfl rfl rfl rfl rfl rfl rfl ⟨rfl, rfl, rfl, rfl, rfl⟩ rfl rfl rfl rfl rfl (by kernel_rfl) Tryd.func6 (by kernel_rfl)
    (of_decide_eq_true (by kernel_rfl)) (by unfold Func.isWrapper; first | (rw [if_pos (by decide +kernel)]; kernel_rfl) | (rw [if_neg (by decide +kernel)]; exact ⟨rfl, rfl⟩))
    (fun os started H enc _ => lifted os started H enc)

theorem proved : Rows.MessageSignsCardSaid :=
  Claim7.holds_tied_plain_at .later [] [.widerDeep] true (true, "c9e4bc61c646125bb01551274704b0676827513169960d43631514a812546be3") false
    over (fun _ h => by cases h) (by kernel_rfl) (fun _ h => by cases h) messageSigns_row_tie rfl ⟨rfl, rfl⟩ (by kernel_rfl) rfl
    (fun f fn hf hfn => by
      obtain rfl : f = 6 := Option.some.inj ((show Tryd.prog.funcNamed "testgate/testgatelaw26.MessageSigns" = some 6 by kernel_rfl).symm.trans hf) |>.symm
      obtain rfl : fn = Tryd.f6 := (Option.some.inj (Tryd.func6.symm.trans hfn)).symm
      exact ⟨by kernel_rfl, fun j t ht => by
        rw [Tryd.params6] at ht
        have hm : t ∈ [22, 46, 3] := by simpa using Array.mem_of_getElem? ht
        have hall : ([22, 46, 3].all fun u => !Tryd.prog.wantsStandIn u) = true := by kernel_rfl
        exact (show Tryd.prog.wantsStandIn t = false by simpa using List.all_eq_true.1 hall t hm)⟩)
    (by kernel_rfl)
end Go.Proofs.YtncbbbappadcfaaDoor.messageSigns
