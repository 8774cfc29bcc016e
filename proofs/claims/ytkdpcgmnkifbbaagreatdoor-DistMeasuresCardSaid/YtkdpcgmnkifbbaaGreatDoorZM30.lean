/- Joined by a program of this session out of its texts, with only what the last theorem needs: Vas. No conditions but those stated. -/
import Derived.Test.YtkdpcgmnkifbbaaGreatDoorZM29
import Derived.Test.YtkdpcgmnkifbbaaGreatDoorZM26
import Derived.Test.YtkdpcgmnkifbbaaGreatDoorZM27
set_option linter.unusedVariables false
set_option linter.unusedSimpArgs false
namespace Go.Proofs.YtkdpcgmnkifbbaaGreatDoor
open Go
theorem distMeasures_card : Rows.DistMeasuresCardSaid :=
 Claim7.holds_tied_plain_at .later [] [.data, .data, .data, .data, .sentinel, .sentinel, .pinned] true (true, "664ebff915a20f6af7bb3b1cde624473f58714984d459454ccf4433fc2ffd206") true
  distMeasures_holds (fun _ h => by cases h) Va_wf (fun _ h => by cases h) distMeasures_row_tie rfl ⟨rfl, rfl⟩ Va_main rfl
  (fun f fn hf hfn => by
   obtain rfl : f = 4 := Option.some.inj ((show Tryz.prog.funcNamed "metrolab/metrolablaw26.DistMeasures" = some 4 by kernel_rfl).symm.trans hf) |>.symm
   obtain rfl : fn = Tryz.f4 := (Option.some.inj (Tryz.func4.symm.trans hfn)).symm
   exact ⟨Va_looks, fun j t ht => by
    rw [Tryz.params4] at ht
    have hm : t ∈ [22] := by simpa using Array.mem_of_getElem? ht
    exact (show Tryz.pinned.checked.prog.wantsStandIn t = false by simpa using List.all_eq_true.1 Va_stand t hm)⟩)
  Va_goes
end Go.Proofs.YtkdpcgmnkifbbaaGreatDoor
