/- Joined by a program of this session out of its texts, with only what the last theorem needs: Yo. No conditions but those stated. -/
import Derived.Test.YtkdpcgmnkifbbaaGreatDoorRows
import Derived.Test.YtkdpcgmnkifbbaaGreatDoorZK07
import Derived.WalkKit
import Derived.ProofKit
import Derived.OpenShut
import Derived.ShutString
import Derived.ChangeOld
import Derived.Below
import Derived.SizedLaws
import Derived.Handed
import Derived.LaidMore
import Derived.LaidLaws
import Derived.MakeChecks
import Derived.Carry
import Derived.Lib.LaidTab
import Derived.Deep.SlicePairs
set_option linter.unusedVariables false
set_option linter.unusedSimpArgs false
namespace Go.Proofs.YtkdpcgmnkifbbaaGreatDoorW.PrintWords
end Go.Proofs.YtkdpcgmnkifbbaaGreatDoorW.PrintWords
namespace Go.Proofs.YtkdpcgmnkifbbaaGreatDoor
open Go.ChangeShapes Go.WideShapes Go.ChangeAt Go.RowKit Go.Proofs.YtkdpcgmnkifbbaaGreatDoorW.PrintWords
open Go.ChangeMaps (open_string shut_string)
theorem own : ownKnob Tryz.prog.godebug = none := by kernel_rfl
end Go.Proofs.YtkdpcgmnkifbbaaGreatDoor
