/- Joined by a program of this session out of its texts, with only what the last theorem needs: Va2. No conditions but those stated. -/
import Derived.Test.YtkdpcgmnkifbbaaGreatDoorZM23
import Derived.SevenTiedAt
set_option linter.unusedVariables false
set_option linter.unusedSimpArgs false
namespace Go.Proofs.YtkdpcgmnkifbbaaGreatDoor
theorem Va_recurses : (Rows.distMeasuresRow.recurses == Tryz.pinned.checked.prog.recurses 4) = true := by kernel_rfl
theorem Va_named : (Rows.distMeasuresRow.named == Tryz.pinned.checked.prog.varsNamed 4) = true := by kernel_rfl
end Go.Proofs.YtkdpcgmnkifbbaaGreatDoor
