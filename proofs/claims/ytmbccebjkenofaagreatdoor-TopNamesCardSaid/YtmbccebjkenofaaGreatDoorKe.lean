import Derived.Test.YtmbccebjkenofaaGreatDoorKd
set_option linter.unusedVariables false
set_option linter.unusedSimpArgs false
set_option linter.unusedSectionVars false

namespace Go.Proofs.YtmbccebjkenofaaGreatDoor
open Go Sz
set_option maxRecDepth 100000
theorem kxap1 : runM (envOf ktS1) 7102 kxas0 = some kxas1 := by kernel_rfl
end Go.Proofs.YtmbccebjkenofaaGreatDoor

namespace Go.Proofs.YtmbccebjkenofaaGreatDoor
open Go Sz
set_option maxRecDepth 100000
theorem kxap2 : runM (envOf ktS1) 6987 kxas1 = some kxas2 := by kernel_rfl
end Go.Proofs.YtmbccebjkenofaaGreatDoor
