/- Joined by a program of this session out of its texts, with only what the last theorem needs: Vbk. No conditions but those stated. -/
import Derived.Test.YtkdpcgmnkifbbaaGreatDoorZK37
import Derived.SevenTiedAt
set_option linter.unusedVariables false
set_option linter.unusedSimpArgs false
namespace Go.Proofs.YtkdpcgmnkifbbaaGreatDoor
open Go
theorem Vb_main : Tryz.pinned.checked.prog.mainIs = some (true, "664ebff915a20f6af7bb3b1cde624473f58714984d459454ccf4433fc2ffd206".toList) := by kernel_rfl
theorem Vb_wf : Rows.distMakesRow.wfByText (OpenSpec.ofChange Rows.distMakesSpec) = true := by kernel_rfl
theorem Vb_looks : true = Tryz.pinned.checked.prog.looks [] := by kernel_rfl
theorem Vb_stand : ([3].all fun u => !Tryz.pinned.checked.prog.wantsStandIn u) = true := by kernel_rfl
end Go.Proofs.YtkdpcgmnkifbbaaGreatDoor
