/- Joined by a program of this session out of its texts, with only what the last theorem needs: Vc1. No conditions but those stated. -/
import Derived.Test.YtkdpcgmnkifbbaaGreatDoorZC41
import Derived.SevenTiedAt
set_option linter.unusedVariables false
set_option linter.unusedSimpArgs false
namespace Go.Proofs.YtkdpcgmnkifbbaaGreatDoor
theorem Vc_inPlace : (Rows.distChangesRow.inPlace == Tryz.pinned.checked.prog.inPlace 6) = true := by kernel_rfl
theorem Vc_unfollowed : (Rows.distChangesRow.unfollowed == Tryz.pinned.checked.prog.unfollowed 6) = true := by kernel_rfl
end Go.Proofs.YtkdpcgmnkifbbaaGreatDoor
