import Derived.Test.YtmbccebjkenofaaGreatDoorKk
import Derived.Test.YtmbccebjkenofaaGreatDoorJc
import Derived.Test.YtmbccebjkenofaaGreatDoorArg
import Derived.Test.YtmbccebjkenofaaGreatDoorRows
import Derived.ProofKit
import Derived.Test.YtmbccebjkenofaaGreatDoorCards
import Derived.Test.YtmbccebjkenofaaGreatDoorTie
import Derived.Deep.DeepHandedRow
import Derived.Lay
import Derived.OpenShut
set_option linter.unusedVariables false
set_option linter.unusedSimpArgs false
set_option linter.unusedSectionVars false

namespace Go.Proofs.YtmbccebjkenofaaGreatDoor
open Go Sz
theorem Tryz.own : ownKnob Tryz.prog.godebug = none := by kernel_rfl
theorem Tryz.laidOut : laidOutB Tryz.prog = true := tj1
theorem topNames_run : evCall (envOf ktS7) 90 3 [] h0 = some (.bool true, h0) := by kernel_rfl
theorem topNames_prim : PrimOK Tryz.prog 3 [] (.bool true) := prim_of (envOf_okX ktS7_ok) topNames_run rfl rfl
theorem topNames_lawX {H : Type} (ds : List (DataW H)) (h : HasTys Tryz.prog Tryz.f3.params.toList (ds.map avOf)) (_ : (DataW.weightsEach Tryz.prog Tryz.f3.params.toList ds).all (· ≤ reachBytes) = true) : PrimOK Tryz.prog 3 (ds.map avOf) (.bool true) := by
  generalize ds.map avOf = avs at h
  rw [Tryz.params3] at h
  cases h
  exact topNames_prim
end Go.Proofs.YtmbccebjkenofaaGreatDoor

namespace Go.Proofs.YtmbccebjkenofaaGreatDoor
open Go Sz Go.ChangeShapes Go.WideShapes Go.ChangeAt Go.RowKit
noncomputable def topNamesWorld (os : Os) : World := World.laidAll Tryz.prog os Rows.topNamesRow.laid
theorem topNames_met (os : Os) : laidMetH Tryz.prog Rows.topNamesRow.laid ((topNamesWorld os).forCall (fun _ _ => 0) ⟨#[], #[], []⟩).memory := by
  rw [MakeChecks.laidMetH_plain _ _ _ (by kernel_rfl)]
  exact laidMet_laidAll _ (by kernel_rfl) (by kernel_rfl)
theorem topNames_reads (os : Os) {H : Type} (enc : TypeId × Value → H) : ∃ places, DataW.whole enc Tryz.prog ((topNamesWorld os).forCall (fun _ _ => 0) ⟨#[], #[], []⟩).memory Tryz.f3.params.toList Rows.topNamesSpec.vars false (#[] : Array Value).toList 8 = some ([], [], places) :=
  ⟨[], by kernel_rfl⟩
theorem topNames_X {W : World} (hL : laidMetH Tryz.prog Rows.topNamesRow.laid W) : (fun _ => True) W := trivial
end Go.Proofs.YtmbccebjkenofaaGreatDoor
