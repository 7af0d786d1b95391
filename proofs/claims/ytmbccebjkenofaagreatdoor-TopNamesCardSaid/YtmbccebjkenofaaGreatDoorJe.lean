import Derived.Test.YtmbccebjkenofaaGreatDoorProg
import Derived.KernelRfl
import Derived.Test.YtmbccebjkenofaaGreatDoorRows
import Derived.Test.YtmbccebjkenofaaGreatDoorCards
set_option linter.unusedVariables false
set_option linter.unusedSimpArgs false
set_option linter.unusedSectionVars false

namespace Go.Proofs.YtmbccebjkenofaaGreatDoor
open Go
theorem topNames_looks : true = Tryz.pinned.checked.prog.looks [] := by kernel_rfl
theorem topNames_named : Tryz.prog.funcNamed "sizar/sizartop.TopNames" = some 3 := by kernel_rfl
end Go.Proofs.YtmbccebjkenofaaGreatDoor
