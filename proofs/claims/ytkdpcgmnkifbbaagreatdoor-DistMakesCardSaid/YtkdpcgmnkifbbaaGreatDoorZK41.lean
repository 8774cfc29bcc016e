/- Joined by a program of this session out of its texts, with only what the last theorem needs: Vbm. No conditions but those stated. -/
import Derived.Test.YtkdpcgmnkifbbaaGreatDoorZK37
import Derived.SevenTiedAt
set_option linter.unusedVariables false
set_option linter.unusedSimpArgs false
namespace Go.Proofs.YtkdpcgmnkifbbaaGreatDoor
open Go
theorem Vb_goes : false = Rows.distMakesRow.goesBy Tryz.pinned.checked.prog := by kernel_rfl
end Go.Proofs.YtkdpcgmnkifbbaaGreatDoor
