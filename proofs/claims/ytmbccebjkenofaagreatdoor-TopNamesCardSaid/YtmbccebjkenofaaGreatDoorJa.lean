import Derived.Test.YtmbccebjkenofaaGreatDoorProg
import Derived.KernelRfl
import Derived.Test.YtmbccebjkenofaaGreatDoorRows
import Derived.ProofKit
import Derived.JoinedCond
set_option linter.unusedVariables false
set_option linter.unusedSimpArgs false
set_option linter.unusedSectionVars false

namespace Go.Proofs.YtmbccebjkenofaaGreatDoor
open Go Go.ChangeShapes
theorem tj9 : ((Rows.topNamesRow.inPlace == Tryz.pinned.checked.prog.inPlace 3)) = true := by kernel_rfl
theorem tj10 : ((Rows.topNamesRow.unfollowed == Tryz.pinned.checked.prog.unfollowed 3)) = true := by kernel_rfl
end Go.Proofs.YtmbccebjkenofaaGreatDoor
