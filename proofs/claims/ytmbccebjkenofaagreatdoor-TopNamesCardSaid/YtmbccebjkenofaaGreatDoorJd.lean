import Derived.Test.YtmbccebjkenofaaGreatDoorJa
import Derived.Test.YtmbccebjkenofaaGreatDoorJb
import Derived.Test.YtmbccebjkenofaaGreatDoorJc
import Derived.Test.YtmbccebjkenofaaGreatDoorRows
import Derived.ProofKit
import Derived.JoinedCond
set_option linter.unusedVariables false
set_option linter.unusedSimpArgs false
set_option linter.unusedSectionVars false

namespace Go.Proofs.YtmbccebjkenofaaGreatDoor
open Go Go.ChangeShapes
theorem tj0 : (Rows.topNamesRow.wf (OpenSpec.ofChange Rows.topNamesSpec)) = true := by kernel_rfl
theorem tj3 : (Tryz.f3.params.all (Tryz.pinned.checked.prog.readableRec ·)) = true := by kernel_rfl
theorem tj4 : (namedTie Tryz.pinned.checked.prog Rows.topNamesRow.named Rows.topNamesSpec.vars) = true := by kernel_rfl
theorem tj5 : ((Rows.topNamesRow.stops == [])) = true := by kernel_rfl
theorem tj6 : ((Tryz.pinned.checked.prog.stops == [])) = true := by kernel_rfl
theorem tj7 : ((Rows.topNamesRow.knobs == [])) = true := by kernel_rfl
theorem tj8 : ((Tryz.pinned.checked.prog.stopKnobs == [])) = true := by kernel_rfl
theorem tj13 : ((Rows.topNamesRow.maps == (Tryz.f3.params.toList ++ Rows.topNamesSpec.plain.varTypes Tryz.pinned.checked.prog).any (Tryz.pinned.checked.prog.mapsRec ·))) = true := by kernel_rfl
theorem tj14 : ((Rows.topNamesRow.ifaces == (Tryz.f3.params.toList ++ Rows.topNamesSpec.plain.varTypes Tryz.pinned.checked.prog).any (Tryz.pinned.checked.prog.ifacesRec ·))) = true := by kernel_rfl
theorem tj15 : ((Rows.topNamesRow.mapsOut == Tryz.pinned.checked.prog.mapsAmong Tryz.f3.resultTypes.toList)) = true := by kernel_rfl
theorem tj16 : ((Rows.topNamesRow.loops == (Tryz.f3.params.toList ++ Rows.topNamesSpec.plain.varTypes Tryz.pinned.checked.prog).any (Tryz.pinned.checked.prog.loopsFrom ·))) = true := by kernel_rfl
theorem tj17 : ((Rows.topNamesRow.wideKeys == (Tryz.f3.params.toList ++ Rows.topNamesSpec.plain.varTypes Tryz.pinned.checked.prog ++ Tryz.f3.resultTypes.toList).any (Tryz.pinned.checked.prog.wideKeysFrom ·))) = true := by kernel_rfl
theorem tj18 : (Rows.topNamesSpec.vars.all (Tryz.pinned.checked.prog.varReadable ·)) = true := by kernel_rfl
theorem tj19 : (Tryz.f3.resultTypes.all (fun t => Tryz.pinned.checked.prog.readableRec t && decide (t < Tryz.pinned.checked.prog.types.size))) = true := by kernel_rfl
theorem tj20 : ((Rows.topNamesRow.ifacesOut == Tryz.f3.resultTypes.toList.any (Tryz.pinned.checked.prog.ifacesRec ·))) = true := by kernel_rfl
theorem tj21 : ((Rows.topNamesRow.loopsOut == Tryz.f3.resultTypes.toList.any (Tryz.pinned.checked.prog.loopsFrom ·))) = true := by kernel_rfl
theorem tj22 : ((Rows.topNamesRow.plainKeys == Tryz.pinned.checked.prog.plainKeys)) = true := by kernel_rfl
theorem tj23 : (Rows.topNamesRow.shortTexts.isNone) = true := by kernel_rfl
theorem tj26 : ((Rows.topNamesRow.lifted == Tryz.pinned.checked.prog.liftsFinal)) = true := by kernel_rfl
theorem tj27 : ((Tryz.pinned.checked.prog.make == some Rows.topNamesRow.make)) = true := by kernel_rfl
theorem tj28 : ((Rows.topNamesRow.kinds == (if Rows.topNamesRow.domain.isEmpty then [] else Tryz.f3.params.toList.map fun t => match Tryz.pinned.checked.prog.underlying t with | some (.int k) => some k | _ => none))) = true := by kernel_rfl
theorem tj29 : ((Rows.topNamesRow.pinned == Rows.topNamesRow.pinnedBy)) = true := by kernel_rfl
theorem tj30 : ((Rows.topNamesRow.veiled == (Tryz.f3.params.toList ++ Rows.topNamesSpec.plain.varTypes Tryz.pinned.checked.prog ++ Tryz.f3.resultTypes.toList).any (Tryz.pinned.checked.prog.veiledRec ·))) = true := by kernel_rfl
theorem tj31 : (Rows.topNamesRow.veiledFits Tryz.pinned.checked.prog Tryz.f3.params.toList (Tryz.f3.params.toList ++ Rows.topNamesSpec.plain.varTypes Tryz.pinned.checked.prog ++ Tryz.f3.resultTypes.toList)) = true := by kernel_rfl
theorem and2 {a b : Bool} (x : a = true) (y : b = true) : (a && b) = true := by rw [x, y]; rfl
set_option maxRecDepth 100000 in
theorem topNames_closed : joinedFacts Tryz.pinned.checked.prog 3 Tryz.f3 Rows.topNamesSpec Rows.topNamesRow = true :=
  and2 (and2 (and2 (and2 (and2 (and2 (and2 (and2 (and2 (and2 (and2 (and2 (and2 (and2 (and2 (and2 (and2 (and2 (and2 (and2 (and2 (and2 (and2 (and2 (and2 (and2 (and2 (and2 (and2 (and2 (and2 tj0 tj1) tj2) tj3) tj4) tj5) tj6) tj7) tj8) tj9) tj10) tj11) tj12) tj13) tj14) tj15) tj16) tj17) tj18) tj19) tj20) tj21) tj22) tj23) tj24) tj25) tj26) tj27) tj28) tj29) tj30) tj31
end Go.Proofs.YtmbccebjkenofaaGreatDoor
