/- Joined by a program of this session out of its texts, with only what the last theorem needs: Vcr. No conditions but those stated. -/
import Derived.Test.YtkdpcgmnkifbbaaGreatDoorZC46
import Derived.Test.YtkdpcgmnkifbbaaGreatDoorZC42
import Derived.Test.YtkdpcgmnkifbbaaGreatDoorZC43
set_option linter.unusedVariables false
set_option linter.unusedSimpArgs false
namespace Go.Proofs.YtkdpcgmnkifbbaaGreatDoor
open Go.ChangeShapes Go.WideShapes Go.ChangeAt Go.RowKit
theorem Vc_closed : joinedFacts Tryz.pinned.checked.prog 6 Tryz.f6 Rows.distChangesSpec Rows.distChangesRow = true := by
 unfold joinedFacts
 rw [Vc_inPlace, Vc_unfollowed, Vc_recurses, Vc_named]
 kernel_rfl
theorem distChanges_holds : Rows.DistChangesSaid :=
 OpenClaim.holds_of_wide 6 Tryz.f6 rfl rfl rfl rfl rfl rfl rfl ⟨rfl, rfl, rfl, rfl, rfl⟩ rfl rfl rfl rfl rfl (by kernel_rfl) Tryz.func6 Vc_closed
  (of_decide_eq_true (by kernel_rfl)) (by unfold Func.isWrapper; first | (rw [if_pos (by decide +kernel)]; kernel_rfl) | (rw [if_neg (by decide +kernel)]; exact ⟨rfl, rfl⟩))
  (fun os started H enc _ => distChanges_lifted os started H enc)
end Go.Proofs.YtkdpcgmnkifbbaaGreatDoor
