/- Joined by a program of this session out of its texts, with only what the last theorem needs: Vbs. No conditions but those stated. -/
import Derived.Test.YtkdpcgmnkifbbaaGreatDoorZK43
import Derived.Test.YtkdpcgmnkifbbaaGreatDoorZK40
import Derived.Test.YtkdpcgmnkifbbaaGreatDoorZK41
set_option linter.unusedVariables false
set_option linter.unusedSimpArgs false
namespace Go.Proofs.YtkdpcgmnkifbbaaGreatDoor
open Go
theorem distMakes_card : Rows.DistMakesCardSaid :=
 Claim7.holds_tied_plain_at .later [] [.data, .data, .data, .data, .sentinel, .sentinel, .pinned] true (true, "664ebff915a20f6af7bb3b1cde624473f58714984d459454ccf4433fc2ffd206") true
  distMakes_holds (fun _ h => by cases h) Vb_wf (fun _ h => by cases h) distMakes_row_tie rfl ⟨rfl, rfl⟩ Vb_main rfl
  (fun f fn hf hfn => by
   obtain rfl : f = 5 := Option.some.inj ((show Tryz.prog.funcNamed "metrolab/metrolablaw26.DistMakes" = some 5 by kernel_rfl).symm.trans hf) |>.symm
   obtain rfl : fn = Tryz.f5 := (Option.some.inj (Tryz.func5.symm.trans hfn)).symm
   exact ⟨Vb_looks, fun j t ht => by
    rw [Tryz.params5] at ht
    have hm : t ∈ [3] := by simpa using Array.mem_of_getElem? ht
    exact (show Tryz.pinned.checked.prog.wantsStandIn t = false by simpa using List.all_eq_true.1 Vb_stand t hm)⟩)
  Vb_goes
end Go.Proofs.YtkdpcgmnkifbbaaGreatDoor
