import Derived.Test.YtmbccebjkenofaaGreatDoorKd
set_option linter.unusedVariables false
set_option linter.unusedSimpArgs false
set_option linter.unusedSectionVars false

namespace Go.Proofs.YtmbccebjkenofaaGreatDoor
open Go Sz
set_option maxRecDepth 100000
theorem kxap5 : runM (envOf ktS1) 6955 kxas4 = some kxas5 := by kernel_rfl
end Go.Proofs.YtmbccebjkenofaaGreatDoor

namespace Go.Proofs.YtmbccebjkenofaaGreatDoor
open Go Sz
set_option maxRecDepth 100000
theorem kxap6 : runM (envOf ktS1) 6947 kxas5 = some kxas6 := by kernel_rfl
end Go.Proofs.YtmbccebjkenofaaGreatDoor

namespace Go.Proofs.YtmbccebjkenofaaGreatDoor
open Go Sz
set_option maxRecDepth 100000
theorem kxap7 : runM (envOf ktS1) 3523 kxas6 = some kxas7 := by kernel_rfl
end Go.Proofs.YtmbccebjkenofaaGreatDoor
