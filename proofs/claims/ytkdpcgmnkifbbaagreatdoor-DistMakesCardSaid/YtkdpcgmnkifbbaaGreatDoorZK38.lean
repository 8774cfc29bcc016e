/- Joined by a program of this session out of its texts, with only what the last theorem needs: Vb1. No conditions but those stated. -/
import Derived.Test.YtkdpcgmnkifbbaaGreatDoorZK37
import Derived.SevenTiedAt
set_option linter.unusedVariables false
set_option linter.unusedSimpArgs false
namespace Go.Proofs.YtkdpcgmnkifbbaaGreatDoor
theorem Vb_inPlace : (Rows.distMakesRow.inPlace == Tryz.pinned.checked.prog.inPlace 5) = true := by kernel_rfl
theorem Vb_unfollowed : (Rows.distMakesRow.unfollowed == Tryz.pinned.checked.prog.unfollowed 5) = true := by kernel_rfl
end Go.Proofs.YtkdpcgmnkifbbaaGreatDoor
