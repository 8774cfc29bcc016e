/- Joined by a program of this session out of its texts, with only what the last theorem needs: Vc2. No conditions but those stated. -/
import Derived.Test.YtkdpcgmnkifbbaaGreatDoorZC41
import Derived.SevenTiedAt
set_option linter.unusedVariables false
set_option linter.unusedSimpArgs false
namespace Go.Proofs.YtkdpcgmnkifbbaaGreatDoor
theorem Vc_recurses : (Rows.distChangesRow.recurses == Tryz.pinned.checked.prog.recurses 6) = true := by kernel_rfl
theorem Vc_named : (Rows.distChangesRow.named == Tryz.pinned.checked.prog.varsNamed 6) = true := by kernel_rfl
end Go.Proofs.YtkdpcgmnkifbbaaGreatDoor
