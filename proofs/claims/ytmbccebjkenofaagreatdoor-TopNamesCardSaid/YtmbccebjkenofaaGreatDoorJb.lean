import Derived.Test.YtmbccebjkenofaaGreatDoorProg
import Derived.KernelRfl
import Derived.Test.YtmbccebjkenofaaGreatDoorRows
import Derived.ProofKit
import Derived.JoinedCond
set_option linter.unusedVariables false
set_option linter.unusedSimpArgs false
set_option linter.unusedSectionVars false

namespace Go.Proofs.YtmbccebjkenofaaGreatDoor
open Go Go.ChangeShapes
theorem tj11 : ((Rows.topNamesRow.recurses == Tryz.pinned.checked.prog.recurses 3)) = true := by kernel_rfl
theorem tj12 : ((Rows.topNamesRow.named == Tryz.pinned.checked.prog.varsNamed 3)) = true := by kernel_rfl
end Go.Proofs.YtmbccebjkenofaaGreatDoor
