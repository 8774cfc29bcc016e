/- Joined by a program of this session out of its texts, with only what the last theorem needs: Ys. No conditions but those stated. -/
import Derived.Test.YtkdpcgmnkifbbaaGreatDoorZ30
import Derived.Test.YtkdpcgmnkifbbaaGreatDoorZ27
import Derived.Test.YtkdpcgmnkifbbaaGreatDoorZ28
set_option linter.unusedVariables false
set_option linter.unusedSimpArgs false
namespace Go.Proofs.YtkdpcgmnkifbbaaGreatDoor
open Go
theorem distPlaces_card : Rows.DistPlacesCardSaid :=
 Claim7.holds_tied_plain_at .later [] [.data, .data, .data, .data, .sentinel, .sentinel, .pinned] true (true, "664ebff915a20f6af7bb3b1cde624473f58714984d459454ccf4433fc2ffd206") true
  distPlaces_holds (fun _ h => by cases h) k_wf (fun _ h => by cases h) distPlaces_row_tie rfl ⟨rfl, rfl⟩ k_main rfl
  (fun f fn hf hfn => by
   obtain rfl : f = 3 := Option.some.inj ((show Tryz.prog.funcNamed "metrolab/metrolablaw26.DistPlaces" = some 3 by kernel_rfl).symm.trans hf) |>.symm
   obtain rfl : fn = Tryz.f3 := (Option.some.inj (Tryz.func3.symm.trans hfn)).symm
   exact ⟨k_looks, fun j t ht => by
    rw [Tryz.params3] at ht
    have hm : t ∈ [22, 24, 25] := by simpa using Array.mem_of_getElem? ht
    exact (show Tryz.pinned.checked.prog.wantsStandIn t = false by simpa using List.all_eq_true.1 k_stand t hm)⟩)
  k_goes
end Go.Proofs.YtkdpcgmnkifbbaaGreatDoor
