import Derived.Test.YtmbccebjkenofaaGreatDoorKj
set_option linter.unusedVariables false
set_option linter.unusedSimpArgs false
set_option linter.unusedSectionVars false

namespace Go.Proofs.YtmbccebjkenofaaGreatDoor
open Go Sz
set_option maxRecDepth 100000
theorem kxbp2 : runM (envOf ktS6) 2494 kxbs1 = some kxbs2 := by kernel_rfl
end Go.Proofs.YtmbccebjkenofaaGreatDoor

namespace Go.Proofs.YtmbccebjkenofaaGreatDoor
open Go Sz
set_option maxRecDepth 100000
theorem kte7_0 : evCall (envOf ktS6) 90 4 [] h0 = some (.bool true, h0) :=
  mach_run (F := c4) (s0 := kxbs0) (s := kxbs2) (by kernel_rfl) (by kernel_rfl) (by kernel_rfl) ((runM_ok kxbp1).trans (runM_ok kxbp2)) (by unfold kxbs2; rfl) (by kernel_rfl)
end Go.Proofs.YtmbccebjkenofaaGreatDoor

namespace Go.Proofs.YtmbccebjkenofaaGreatDoor
open Go Sz
set_option maxRecDepth 100000
def ktT7_4 : KSpec := .tab 4 [
 ([], .bool true)]
theorem ktT7_4_ok : KSpecOKX Tryz.prog (fun _ => True) ktT7_4 := KSpec.tab_ok (by
  have E := envOf_okX ktS6_ok
  exact List.forall_mem_cons.2 ⟨prim_of E kte7_0 (by kernel_rfl) (by kernel_rfl), fun _ h => nomatch h⟩)
def ktS7 : List KSpec := [ktT7_4] ++ ktS6
theorem ktS7_ok : ∀ s ∈ ktS7, KSpecOKX Tryz.prog (fun _ => True) s := fun s hs => by
  rcases List.mem_append.1 hs with h | h
  · revert s
    exact fun s _ h => (show ∀ s ∈ [ktT7_4], KSpecOKX Tryz.prog (fun _ => True) s from List.forall_mem_cons.2 ⟨ktT7_4_ok, fun _ h => nomatch h⟩) s h
  · exact ktS6_ok s h
end Go.Proofs.YtmbccebjkenofaaGreatDoor
