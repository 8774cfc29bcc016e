/- Joined by a program of this session out of its texts, with only what the last theorem needs: Vbr. No conditions but those stated. -/
import Derived.Test.YtkdpcgmnkifbbaaGreatDoorZK42
import Derived.Test.YtkdpcgmnkifbbaaGreatDoorZK38
import Derived.Test.YtkdpcgmnkifbbaaGreatDoorZK39
set_option linter.unusedVariables false
set_option linter.unusedSimpArgs false
namespace Go.Proofs.YtkdpcgmnkifbbaaGreatDoor
open Go.ChangeShapes Go.WideShapes Go.ChangeAt Go.RowKit
theorem Vb_closed : joinedFacts Tryz.pinned.checked.prog 5 Tryz.f5 Rows.distMakesSpec Rows.distMakesRow = true := by
 unfold joinedFacts
 rw [Vb_inPlace, Vb_unfollowed, Vb_recurses, Vb_named]
 kernel_rfl
theorem distMakes_holds : Rows.DistMakesSaid :=
 OpenClaim.holds_of_wide 5 Tryz.f5 rfl rfl rfl rfl rfl rfl rfl ⟨rfl, rfl, rfl, rfl, rfl⟩ rfl rfl rfl rfl rfl (by kernel_rfl) Tryz.func5 Vb_closed
  (of_decide_eq_true (by kernel_rfl)) (by unfold Func.isWrapper; first | (rw [if_pos (by decide +kernel)]; kernel_rfl) | (rw [if_neg (by decide +kernel)]; exact ⟨rfl, rfl⟩))
  (fun os started H enc _ => distMakes_lifted os started H enc)
end Go.Proofs.YtkdpcgmnkifbbaaGreatDoor
