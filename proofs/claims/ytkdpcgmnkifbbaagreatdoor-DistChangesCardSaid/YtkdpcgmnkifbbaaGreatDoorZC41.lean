/- Joined by a program of this session out of its texts, with only what the last theorem needs: Yp. No conditions but those stated. -/
import Derived.Test.YtkdpcgmnkifbbaaGreatDoorZC14
import Derived.Stop.LaidErr
import Derived.Stop.Joined
import Derived.OpenShut
import Derived.Lay
import Derived.PinnedBridge
set_option linter.unusedVariables false
set_option linter.unusedSimpArgs false
namespace Go.Proofs.YtkdpcgmnkifbbaaGreatDoor
open Go.ChangeShapes Go.WideShapes Go.ChangeAt Go.RowKit
def laidAll : List (String × DataW Unit) := Rows.distPlacesRow.laid
theorem tabs_of_laid {W : World} (h : laidMetH Tryz.prog laidAll W) : Tabs W := by
 rw [MakeChecks.laidMetH_plain _ _ _ (by kernel_rfl)] at h
 have e : (Rows.laid_internal_strconv_uint64pow10 : DataW Unit) = Lib.tabData .u64 Lib.pow10Tab := by kernel_rfl
 have h2 : laidMet Tryz.prog (("internal/strconv.uint64pow10", Lib.tabData .u64 Lib.pow10Tab) :: [("unicode/utf8.acceptRanges", Rows.laid_unicode_utf8_acceptRanges), ("strconv.ErrRange", Rows.laid_strconv_ErrRange), ("strconv.ErrSyntax", Rows.laid_strconv_ErrSyntax), ("unicode/utf8.first", Rows.laid_unicode_utf8_first)]) W := by
  rw [← e]
  exact (laidMet.tail (laidMet.tail h))
 exact Lib.tabIs_of_head (g := 5) (n := 20) (t := 210) (e := 191) pow10_global (by kernel_rfl) Tryz.underlying210 Tryz.underlying191 (by kernel_rfl) (by kernel_rfl) h2
set_option maxRecDepth 100000 in
theorem wit_met (os : Os) (args : Array Value) : laidMetH Tryz.prog laidAll ((World.laidAll Tryz.prog os laidAll).forCall (fun _ _ => 0) ⟨#[], args, []⟩).memory := by
 rw [MakeChecks.laidMetH_plain _ _ _ (by kernel_rfl)]
 exact laidMet_laidAll _ (by kernel_rfl) (by kernel_rfl)
end Go.Proofs.YtkdpcgmnkifbbaaGreatDoor
