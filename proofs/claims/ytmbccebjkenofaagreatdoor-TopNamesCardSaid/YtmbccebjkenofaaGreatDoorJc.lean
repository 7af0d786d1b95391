import Derived.Test.YtmbccebjkenofaaGreatDoorProg
import Derived.KernelRfl
import Derived.Test.YtmbccebjkenofaaGreatDoorRows
import Derived.ProofKit
import Derived.JoinedCond
set_option linter.unusedVariables false
set_option linter.unusedSimpArgs false
set_option linter.unusedSectionVars false

namespace Go.Proofs.YtmbccebjkenofaaGreatDoor
open Go Go.ChangeShapes
theorem tj1 : (laidOutB Tryz.pinned.checked.prog) = true := by kernel_rfl
theorem tj2 : (mapsRowed Tryz.pinned.checked.prog) = true := by kernel_rfl
theorem tj24 : (Tryz.pinned.checked.prog.stopsHeard) = true := by kernel_rfl
theorem tj25 : (Tryz.pinned.checked.prog.mayEnter) = true := by kernel_rfl
end Go.Proofs.YtmbccebjkenofaaGreatDoor
