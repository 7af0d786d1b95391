import Derived.Test.YtmbccebjkenofaaGreatDoorLa
import Derived.Test.YtmbccebjkenofaaGreatDoorCards
import Derived.Test.YtmbccebjkenofaaGreatDoorTie
import Derived.Deep.DeepHandedRow
import Derived.Lay
import Derived.OpenShut
set_option linter.unusedVariables false
set_option linter.unusedSimpArgs false
set_option linter.unusedSectionVars false

namespace Go.Proofs.YtmbccebjkenofaaGreatDoor
open Go Sz Go.ChangeShapes Go.WideShapes Go.ChangeAt Go.RowKit
set_option maxRecDepth 100000 in
theorem topNames_lifted (os : Os) (started : os.Started) (H : Type) (enc : TypeId × Value → H) (F : Stop.Interp) :
    ReturnsInHanded {} Tryz.checked os 3 .any ((OpenSpec.ofChange Rows.topNamesSpec).preRow enc Tryz.prog Tryz.f3 Rows.topNamesRow.domain false Rows.topNamesRow.laid) (((OpenSpec.ofChange Rows.topNamesSpec).at F).post enc Tryz.prog Tryz.f3 false true false false) := by
  obtain ⟨places, hx⟩ := topNames_reads os enc
  refine returnsInHanded_of_row (C := Tryz.checked) (s := (OpenSpec.ofChange Rows.topNamesSpec)) Tryz.own started (by kernel_rfl) Tryz.func3
    (witness_row_at (enc := enc) (C := Tryz.checked) false (topNamesWorld os) #[] (World.laidAll_os _ _ _) (by kernel_rfl) (by kernel_rfl) (by kernel_rfl)
      (OpenSpec.preRow_of_cond 8 hx (by kernel_rfl) (fun k hk => by cases hk) (by kernel_rfl) (topNames_met os))) ?_
  intro W base args ds gs before hval hW _ hcond hw hL hsh _
  have hgs : gs = [] := whole_gs rfl hW
  have hvt : (OpenSpec.ofChange Rows.topNamesSpec).bare.plain.varTypes Tryz.checked.prog = [] := by kernel_rfl
  rw [hvt, List.append_nil, hgs, List.append_nil] at hw
  have hk : True := trivial
  skip
  have hw2 : (DataW.weightsEach Tryz.prog Tryz.f3.params.toList ds).all (· ≤ reachBytes) = true := hw
  exact law_callsX (P := Tryz.prog) (X := (fun _ => True)) (S := []) Tryz.func3 rfl rfl (by kernel_rfl) (by kernel_rfl) Tryz.underlying4 rfl Tryz.laidOut rfl (fun ds hd => by
    match ds, hd with
    | [], _ => rfl) (fun h => topNames_lawX ds h hw2) hval hW hsh (topNames_X hL)
end Go.Proofs.YtmbccebjkenofaaGreatDoor
