import Derived.Test.YtmbccebjkenofaaGreatDoorProg
import Derived.KernelRfl
import Derived.Test.YtmbccebjkenofaaGreatDoorRows
import Derived.Test.YtmbccebjkenofaaGreatDoorCards
set_option linter.unusedVariables false
set_option linter.unusedSimpArgs false
set_option linter.unusedSectionVars false

namespace Go.Proofs.YtmbccebjkenofaaGreatDoor
open Go
theorem topNames_goes : false = Rows.topNamesRow.goesBy Tryz.pinned.checked.prog := by kernel_rfl
end Go.Proofs.YtmbccebjkenofaaGreatDoor
