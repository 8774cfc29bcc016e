/- Joined by a program of this session out of its texts, with only what the last theorem needs: Yr. No conditions but those stated. -/
import Derived.Test.YtkdpcgmnkifbbaaGreatDoorZ29
import Derived.Test.YtkdpcgmnkifbbaaGreatDoorZ25
import Derived.Test.YtkdpcgmnkifbbaaGreatDoorZ26
set_option linter.unusedVariables false
set_option linter.unusedSimpArgs false
namespace Go.Proofs.YtkdpcgmnkifbbaaGreatDoor
open Go.ChangeShapes Go.WideShapes Go.ChangeAt Go.RowKit
theorem places_closed : joinedFacts Tryz.pinned.checked.prog 3 Tryz.f3 Rows.distPlacesSpec Rows.distPlacesRow = true := by
 unfold joinedFacts
 rw [c_inPlace, c_unfollowed, c_recurses, c_named]
 kernel_rfl
theorem distPlaces_holds : Rows.DistPlacesSaid :=
 OpenClaim.holds_of_wide 3 Tryz.f3 rfl rfl rfl rfl rfl rfl rfl ⟨rfl, rfl, rfl, rfl, rfl⟩ rfl rfl rfl rfl rfl (by kernel_rfl) Tryz.func3 places_closed
  (of_decide_eq_true (by kernel_rfl)) (by unfold Func.isWrapper; first | (rw [if_pos (by decide +kernel)]; kernel_rfl) | (rw [if_neg (by decide +kernel)]; exact ⟨rfl, rfl⟩))
  (fun os started H enc _ => places_lifted os started H enc)
end Go.Proofs.YtkdpcgmnkifbbaaGreatDoor
