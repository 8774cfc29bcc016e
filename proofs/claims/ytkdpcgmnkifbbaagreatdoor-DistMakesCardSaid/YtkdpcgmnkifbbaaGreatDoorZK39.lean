/- Joined by a program of this session out of its texts, with only what the last theorem needs: Vb2. No conditions but those stated. -/
import Derived.Test.YtkdpcgmnkifbbaaGreatDoorZK37
import Derived.SevenTiedAt
set_option linter.unusedVariables false
set_option linter.unusedSimpArgs false
namespace Go.Proofs.YtkdpcgmnkifbbaaGreatDoor
theorem Vb_recurses : (Rows.distMakesRow.recurses == Tryz.pinned.checked.prog.recurses 5) = true := by kernel_rfl
theorem Vb_named : (Rows.distMakesRow.named == Tryz.pinned.checked.prog.varsNamed 5) = true := by kernel_rfl
end Go.Proofs.YtkdpcgmnkifbbaaGreatDoor
