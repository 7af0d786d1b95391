import Derived.Test.YtmbccebjkenofaaGreatDoorLb
import Derived.Test.YtmbccebjkenofaaGreatDoorJd
import Derived.Test.YtmbccebjkenofaaGreatDoorJe
import Derived.Test.YtmbccebjkenofaaGreatDoorCards
import Derived.Test.YtmbccebjkenofaaGreatDoorTie
import Derived.Deep.DeepHandedRow
import Derived.Lay
import Derived.OpenShut
set_option linter.unusedVariables false
set_option linter.unusedSimpArgs false
set_option linter.unusedSectionVars false

namespace Go.Proofs.YtmbccebjkenofaaGreatDoor
open Go Sz Go.ChangeShapes Go.WideShapes Go.ChangeAt Go.RowKit
theorem topNames_said : Rows.TopNamesSaid :=
  OpenClaim.holds_of_cond 3 Tryz.f3 rfl rfl rfl rfl rfl rfl rfl ⟨rfl, rfl, rfl, rfl, rfl⟩ rfl rfl rfl rfl rfl topNames_named Tryz.func3 topNames_closed
    (of_decide_eq_true (by kernel_rfl)) (by unfold Func.isWrapper; first | (rw [if_pos (by decide +kernel)]; kernel_rfl) | (rw [if_neg (by decide +kernel)]; exact ⟨rfl, rfl⟩))
    (fun os started H enc _ F => by rw [OpenClaim.pre_eq_preRow]; exact topNames_lifted os started H enc F)
end Go.Proofs.YtmbccebjkenofaaGreatDoor
