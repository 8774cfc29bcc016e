/- Joined by a program of this session out of its texts, with only what the last theorem needs: Vcs. No conditions but those stated. -/
import Derived.Test.YtkdpcgmnkifbbaaGreatDoorZC47
import Derived.Test.YtkdpcgmnkifbbaaGreatDoorZC44
import Derived.Test.YtkdpcgmnkifbbaaGreatDoorZC45
set_option linter.unusedVariables false
set_option linter.unusedSimpArgs false
namespace Go.Proofs.YtkdpcgmnkifbbaaGreatDoor
open Go
theorem distChanges_card : Rows.DistChangesCardSaid :=
 Claim7.holds_tied_plain_at .later [] [.data, .data, .data, .data, .sentinel, .sentinel, .pinned] true (true, "664ebff915a20f6af7bb3b1cde624473f58714984d459454ccf4433fc2ffd206") true
  distChanges_holds (fun _ h => by cases h) Vc_wf (fun _ h => by cases h) distChanges_row_tie rfl ⟨rfl, rfl⟩ Vc_main rfl
  (fun f fn hf hfn => by
   obtain rfl : f = 6 := Option.some.inj ((show Tryz.prog.funcNamed "metrolab/metrolablaw26.DistChanges" = some 6 by kernel_rfl).symm.trans hf) |>.symm
   obtain rfl : fn = Tryz.f6 := (Option.some.inj (Tryz.func6.symm.trans hfn)).symm
   exact ⟨Vc_looks, fun j t ht => by
    rw [Tryz.params6] at ht
    have hm : t ∈ [22, 3] := by simpa using Array.mem_of_getElem? ht
    exact (show Tryz.pinned.checked.prog.wantsStandIn t = false by simpa using List.all_eq_true.1 Vc_stand t hm)⟩)
  Vc_goes
end Go.Proofs.YtkdpcgmnkifbbaaGreatDoor
