/- Joined by a program of this session out of its texts, with only what the last theorem needs: Vck. No conditions but those stated. -/
import Derived.Test.YtkdpcgmnkifbbaaGreatDoorZC41
import Derived.SevenTiedAt
set_option linter.unusedVariables false
set_option linter.unusedSimpArgs false
namespace Go.Proofs.YtkdpcgmnkifbbaaGreatDoor
open Go
theorem Vc_main : Tryz.pinned.checked.prog.mainIs = some (true, "664ebff915a20f6af7bb3b1cde624473f58714984d459454ccf4433fc2ffd206".toList) := by kernel_rfl
theorem Vc_wf : Rows.distChangesRow.wfByText (OpenSpec.ofChange Rows.distChangesSpec) = true := by kernel_rfl
theorem Vc_looks : true = Tryz.pinned.checked.prog.looks [] := by kernel_rfl
theorem Vc_stand : ([22, 3].all fun u => !Tryz.pinned.checked.prog.wantsStandIn u) = true := by kernel_rfl
end Go.Proofs.YtkdpcgmnkifbbaaGreatDoor
