import Derived.Test.YtlakiipofcibhaaGreatDoorKsd
set_option linter.unusedVariables false
set_option linter.unusedSimpArgs false
set_option linter.unusedSectionVars false

namespace Go.Proofs.YtlakiipofcibhaaGreatDoor
open Go Sz
set_option maxRecDepth 100000

/-! Closed runs. -/
theorem kse3_0 : evCall (envK ksS2) 90 8 [] h0 = some (.bool true, h0) := by kernel_rfl

end Go.Proofs.YtlakiipofcibhaaGreatDoor

namespace Go.Proofs.YtlakiipofcibhaaGreatDoor
open Go Sz
set_option maxRecDepth 100000

def ksT3_8 : KSpec := .tab 8 [
 ([], .bool true)]
theorem ksT3_8_ok : KSpecOKX Tryz.prog TabX ksT3_8 := KSpec.tab_ok (by
  have E := envK_okX ksS2_ok
  exact List.forall_mem_cons.2 ⟨prim_of E kse3_0 (by kernel_rfl) (by kernel_rfl), fun _ h => nomatch h⟩)
def ksS3 : List KSpec := [ksT3_8] ++ ksS2
theorem ksS3_ok : ∀ s ∈ ksS3, KSpecOKX Tryz.prog TabX s := fun s hs => by
  rcases List.mem_append.1 hs with h | h
  · revert s
    exact fun s _ h => (show ∀ s ∈ [ksT3_8], KSpecOKX Tryz.prog TabX s from List.forall_mem_cons.2 ⟨ksT3_8_ok, fun _ h => nomatch h⟩) s h
  · exact ksS2_ok s h

end Go.Proofs.YtlakiipofcibhaaGreatDoor
