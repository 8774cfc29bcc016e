/- Joined by a program of this session out of its texts, with only what the last theorem needs: Yc1. No conditions but those stated. -/
import Derived.Test.YtkdpcgmnkifbbaaGreatDoorZ24
import Derived.SevenTiedAt
set_option linter.unusedVariables false
set_option linter.unusedSimpArgs false
namespace Go.Proofs.YtkdpcgmnkifbbaaGreatDoor
theorem c_inPlace : (Rows.distPlacesRow.inPlace == Tryz.pinned.checked.prog.inPlace 3) = true := by kernel_rfl
theorem c_unfollowed : (Rows.distPlacesRow.unfollowed == Tryz.pinned.checked.prog.unfollowed 3) = true := by kernel_rfl
end Go.Proofs.YtkdpcgmnkifbbaaGreatDoor
