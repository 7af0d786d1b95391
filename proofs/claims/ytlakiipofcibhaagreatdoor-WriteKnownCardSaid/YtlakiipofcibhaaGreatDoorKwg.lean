import Derived.Test.YtlakiipofcibhaaGreatDoorKwf
set_option linter.unusedVariables false
set_option linter.unusedSimpArgs false
set_option linter.unusedSectionVars false

namespace Go.Proofs.YtlakiipofcibhaaGreatDoor
open Go Sz
set_option maxRecDepth 100000

/-! A piece of a closed run. -/
theorem kxp4 : runM (envOf kwS2) 5556 kxs3 = some kxs4 := by kernel_rfl

end Go.Proofs.YtlakiipofcibhaaGreatDoor

namespace Go.Proofs.YtlakiipofcibhaaGreatDoor
open Go Sz
set_option maxRecDepth 100000

/-! A piece of a closed run. -/
theorem kxp5 : runM (envOf kwS2) 5498 kxs4 = some kxs5 := by kernel_rfl

end Go.Proofs.YtlakiipofcibhaaGreatDoor

namespace Go.Proofs.YtlakiipofcibhaaGreatDoor
open Go Sz
set_option maxRecDepth 100000

/-! A piece of a closed run. -/
theorem kxp6 : runM (envOf kwS2) 1349 kxs5 = some kxs6 := by kernel_rfl

end Go.Proofs.YtlakiipofcibhaaGreatDoor

namespace Go.Proofs.YtlakiipofcibhaaGreatDoor
open Go Sz
set_option maxRecDepth 100000

/-! A closed run. -/
theorem kwe3_0 : evCall (envOf kwS2) 90 22 [kwV1] h0 = some (.tuple [.str [], .int .i64 3], h0) :=
  mach_run (F := c22) (s0 := kxs0) (s := kxs6) (by kernel_rfl) (by kernel_rfl) (by kernel_rfl) ((((((runM_ok kxp1).trans (runM_ok kxp2)).trans (runM_ok kxp3)).trans (runM_ok kxp4)).trans (runM_ok kxp5)).trans (runM_ok kxp6)) (by unfold kxs6; rfl) (by kernel_rfl)

end Go.Proofs.YtlakiipofcibhaaGreatDoor

namespace Go.Proofs.YtlakiipofcibhaaGreatDoor
open Go Sz
set_option maxRecDepth 100000

def kwT3_22 : KSpec := .tab 22 [
 ([kwV1], .tuple [.str [], .int .i64 3])]
theorem kwT3_22_ok : KSpecOKX Tryz.prog TabX kwT3_22 := KSpec.tab_ok (by
  have E := envOf_okX kwS2_ok
  exact List.forall_mem_cons.2 ⟨prim_of E kwe3_0 (by kernel_rfl) (by kernel_rfl), fun _ h => nomatch h⟩)
def kwS3 : List KSpec := [kwT3_22] ++ kwS2
theorem kwS3_ok : ∀ s ∈ kwS3, KSpecOKX Tryz.prog TabX s := fun s hs => by
  rcases List.mem_append.1 hs with h | h
  · revert s
    exact fun s _ h => (show ∀ s ∈ [kwT3_22], KSpecOKX Tryz.prog TabX s from List.forall_mem_cons.2 ⟨kwT3_22_ok, fun _ h => nomatch h⟩) s h
  · exact kwS2_ok s h

end Go.Proofs.YtlakiipofcibhaaGreatDoor
