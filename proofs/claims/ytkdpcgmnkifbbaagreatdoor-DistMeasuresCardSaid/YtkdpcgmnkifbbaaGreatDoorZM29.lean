/- Joined by a program of this session out of its texts, with only what the last theorem needs: Var. No conditions but those stated. -/
import Derived.Test.YtkdpcgmnkifbbaaGreatDoorZM28
import Derived.Test.YtkdpcgmnkifbbaaGreatDoorZM24
import Derived.Test.YtkdpcgmnkifbbaaGreatDoorZM25
set_option linter.unusedVariables false
set_option linter.unusedSimpArgs false
namespace Go.Proofs.YtkdpcgmnkifbbaaGreatDoor
open Go.ChangeShapes Go.WideShapes Go.ChangeAt Go.RowKit
theorem Va_closed : joinedFacts Tryz.pinned.checked.prog 4 Tryz.f4 Rows.distMeasuresSpec Rows.distMeasuresRow = true := by
 unfold joinedFacts
 rw [Va_inPlace, Va_unfollowed, Va_recurses, Va_named]
 kernel_rfl
theorem distMeasures_holds : Rows.DistMeasuresSaid :=
 OpenClaim.holds_of_wide 4 Tryz.f4 rfl rfl rfl rfl rfl rfl rfl ⟨rfl, rfl, rfl, rfl, rfl⟩ rfl rfl rfl rfl rfl (by kernel_rfl) Tryz.func4 Va_closed
  (of_decide_eq_true (by kernel_rfl)) (by unfold Func.isWrapper; first | (rw [if_pos (by decide +kernel)]; kernel_rfl) | (rw [if_neg (by decide +kernel)]; exact ⟨rfl, rfl⟩))
  (fun os started H enc _ => distMeasures_lifted os started H enc)
end Go.Proofs.YtkdpcgmnkifbbaaGreatDoor
