import Derived.Test.YtamghpnjdohnjaaDoorNumC
import Derived.Test.YtamghpnjdohnjaaDoorRow
/- Numbers: limbs that a law is handed. -/
namespace Go.Proofs.YtamghpnjdohnjaaDoor.Sx
open Go Go.RowKit
set_option linter.unusedVariables false
set_option linter.unusedSimpArgs false
set_option maxRecDepth 100000
set_option maxHeartbeats 8000000
attribute [local congr] fin_congr finG_congr stepG_congr step1_congr runOps_congr brv_congr obl_congr condK_congr LoopK_congr seqK_congr CutK_congr vc_congr DrawK_congr regK_congr CallK_congr AskK_congr newK_congr retC_congr ret1_congr retK_congr outV_congr closeK_congr genR_congr appR_congr finD_congr finGD_congr stepGD_congr stepD_congr CallK0_congr runD_congr okR_congr CallS_congr vcX_congr
attribute [local congr] Stop_congr
theorem u32_wf {x : Int} (h : (Lit.int .u32 x).wf = true) : 0 ≤ x ∧ x < 4294967296 := by
  have e1 : IntKind.u32.min = 0 := rfl
  have e2 : IntKind.u32.max = 4294967295 := rfl
  simp only [Lit.wf, e1, e2, Bool.and_eq_true, decide_eq_true_eq] at h
  omega
theorem u64_wf {x : Int} (h : (Lit.int .u64 x).wf = true) : 0 ≤ x ∧ x < 18446744073709551616 := by
  have e1 : IntKind.u64.min = 0 := rfl
  have e2 : IntKind.u64.max = 18446744073709551615 := rfl
  simp only [Lit.wf, e1, e2, Bool.and_eq_true, decide_eq_true_eq] at h
  omega
/-- limbs that a law is handed -/
theorem nats_of {M : Mem} {v : Value} {l : List Int} (h : IsL M (intVk .u32) v l) (hw : ∀ x ∈ l, (Lit.int .u32 x).wf = true) : IsL M u32V v (l.map Int.toNat) ∧ okN (l.map Int.toNat) := by
  refine ⟨?_, fun x hx => ?_⟩
  · unfold IsL at h ⊢
    rw [List.length_map, List.map_map]
    have e : l.map (u32V ∘ Int.toNat) = l.map (intVk .u32) := List.map_congr_left fun x hx => by
      have := (u32_wf (hw x hx)).1
      simp only [Function.comp, u32V, intVk]
      rw [Int.toNat_of_nonneg this]
    rw [e]; exact h
  · obtain ⟨y, hy, rfl⟩ := List.mem_map.1 hx
    have := u32_wf (hw y hy)
    omega
end Go.Proofs.YtamghpnjdohnjaaDoor.Sx
