import Derived.Test.YtmbccebjkenofaaGreatDoorKd
set_option linter.unusedVariables false
set_option linter.unusedSimpArgs false
set_option linter.unusedSectionVars false

namespace Go.Proofs.YtmbccebjkenofaaGreatDoor
open Go Sz
set_option maxRecDepth 100000
theorem kxap3 : runM (envOf ktS1) 6963 kxas2 = some kxas3 := by kernel_rfl
end Go.Proofs.YtmbccebjkenofaaGreatDoor

namespace Go.Proofs.YtmbccebjkenofaaGreatDoor
open Go Sz
set_option maxRecDepth 100000
theorem kxap4 : runM (envOf ktS1) 6963 kxas3 = some kxas4 := by kernel_rfl
end Go.Proofs.YtmbccebjkenofaaGreatDoor
