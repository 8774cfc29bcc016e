/- Joined by a program of this session out of its texts, with only what the last theorem needs: Vcm. No conditions but those stated. -/
import Derived.Test.YtkdpcgmnkifbbaaGreatDoorZC41
import Derived.SevenTiedAt
set_option linter.unusedVariables false
set_option linter.unusedSimpArgs false
namespace Go.Proofs.YtkdpcgmnkifbbaaGreatDoor
open Go
theorem Vc_goes : false = Rows.distChangesRow.goesBy Tryz.pinned.checked.prog := by kernel_rfl
end Go.Proofs.YtkdpcgmnkifbbaaGreatDoor
