/- Joined by a program of this session out of its texts, with only what the last theorem needs: Va1. No conditions but those stated. -/
import Derived.Test.YtkdpcgmnkifbbaaGreatDoorZM23
import Derived.SevenTiedAt
set_option linter.unusedVariables false
set_option linter.unusedSimpArgs false
namespace Go.Proofs.YtkdpcgmnkifbbaaGreatDoor
theorem Va_inPlace : (Rows.distMeasuresRow.inPlace == Tryz.pinned.checked.prog.inPlace 4) = true := by kernel_rfl
theorem Va_unfollowed : (Rows.distMeasuresRow.unfollowed == Tryz.pinned.checked.prog.unfollowed 4) = true := by kernel_rfl
end Go.Proofs.YtkdpcgmnkifbbaaGreatDoor
