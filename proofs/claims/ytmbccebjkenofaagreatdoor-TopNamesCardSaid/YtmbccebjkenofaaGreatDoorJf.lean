import Derived.Test.YtmbccebjkenofaaGreatDoorProg
import Derived.KernelRfl
import Derived.Test.YtmbccebjkenofaaGreatDoorRows
import Derived.Test.YtmbccebjkenofaaGreatDoorCards
set_option linter.unusedVariables false
set_option linter.unusedSimpArgs false
set_option linter.unusedSectionVars false

namespace Go.Proofs.YtmbccebjkenofaaGreatDoor
open Go
theorem topNames_wf : Rows.topNamesRow.wfByText (OpenSpec.ofChange Rows.topNamesSpec) = true := by kernel_rfl
theorem topNames_main : Tryz.pinned.checked.prog.mainIs = some (true, "47e95a1cd34761d9a4bf2963d48fbc0b5592136718985e1d42bfa27c11f54ee5".toList) := by kernel_rfl
end Go.Proofs.YtmbccebjkenofaaGreatDoor
