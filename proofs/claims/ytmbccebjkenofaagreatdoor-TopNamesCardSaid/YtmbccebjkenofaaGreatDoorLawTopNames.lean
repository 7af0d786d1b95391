/- Proved: sizartop.TopNames answers true. Conditions: none beyond the row. -/
import Derived.Test.YtmbccebjkenofaaGreatDoorLc
import Derived.Test.YtmbccebjkenofaaGreatDoorJf
import Derived.Test.YtmbccebjkenofaaGreatDoorJg
import Derived.Test.YtmbccebjkenofaaGreatDoorCards
import Derived.Test.YtmbccebjkenofaaGreatDoorTie
import Derived.Deep.DeepHandedRow
import Derived.Lay
import Derived.OpenShut
set_option linter.unusedVariables false
set_option linter.unusedSimpArgs false
set_option linter.unusedSectionVars false

namespace Go.Proofs.YtmbccebjkenofaaGreatDoor
open Go Sz Go.ChangeShapes Go.WideShapes Go.ChangeAt Go.RowKit
theorem topNames_plain (f : FuncId) (fn : Func) (hf : Tryz.pinned.checked.prog.funcNamed "sizar/sizartop.TopNames" = some f) (hfn : Tryz.pinned.checked.prog.funcs[f]? = some fn) :
    true = Tryz.pinned.checked.prog.looks [] ∧ ∀ (j : Nat) t, fn.params[j]? = some t → Tryz.pinned.checked.prog.wantsStandIn t = false := by
  obtain rfl : f = 3 := Option.some.inj (topNames_named.symm.trans hf) |>.symm
  obtain rfl : fn = Tryz.f3 := (Option.some.inj (Tryz.func3.symm.trans hfn)).symm
  exact ⟨topNames_looks, fun j t ht => by
    rw [Tryz.params3] at ht
    have hm : t ∈ ([] : List TypeId) := by simpa using Array.mem_of_getElem? ht
    have hall : (([] : List TypeId).all fun u => !Tryz.prog.wantsStandIn u) = true := by kernel_rfl
    exact (show Tryz.prog.wantsStandIn t = false by simpa using List.all_eq_true.1 hall t hm)⟩
theorem topNames_card : Rows.TopNamesCardSaid :=
  Claim7.holds_tied_plain_at .later [] _ _ _ _ topNames_said (fun _ h => by cases h) topNames_wf (fun _ h => by cases h) topNames_row_tie rfl ⟨rfl, rfl⟩ topNames_main rfl topNames_plain topNames_goes
end Go.Proofs.YtmbccebjkenofaaGreatDoor
