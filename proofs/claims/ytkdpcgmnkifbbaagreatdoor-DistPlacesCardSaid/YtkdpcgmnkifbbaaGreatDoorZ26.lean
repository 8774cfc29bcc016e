/- Joined by a program of this session out of its texts, with only what the last theorem needs: Yc2. No conditions but those stated. -/
import Derived.Test.YtkdpcgmnkifbbaaGreatDoorZ24
import Derived.SevenTiedAt
set_option linter.unusedVariables false
set_option linter.unusedSimpArgs false
namespace Go.Proofs.YtkdpcgmnkifbbaaGreatDoor
theorem c_recurses : (Rows.distPlacesRow.recurses == Tryz.pinned.checked.prog.recurses 3) = true := by kernel_rfl
theorem c_named : (Rows.distPlacesRow.named == Tryz.pinned.checked.prog.varsNamed 3) = true := by kernel_rfl
end Go.Proofs.YtkdpcgmnkifbbaaGreatDoor
