import Derived.Test.YtlakiipofcibhaaGreatDoorKwg
import Derived.Test.YtlakiipofcibhaaGreatDoorTy
import Derived.Test.YtlakiipofcibhaaGreatDoorArg
import Derived.Test.YtlakiipofcibhaaGreatDoorRows
import Derived.ProofKit
set_option linter.unusedVariables false
set_option linter.unusedSimpArgs false
set_option linter.unusedSectionVars false

namespace Go.Proofs.YtlakiipofcibhaaGreatDoor
open Go Sz
set_option maxRecDepth 100000

/-! Closed runs. -/
theorem kwe4_0 : evCall (envOf kwS3) 90 4 [] h0 = some (.bool true, h0) := by kernel_rfl

end Go.Proofs.YtlakiipofcibhaaGreatDoor

namespace Go.Proofs.YtlakiipofcibhaaGreatDoor
open Go Sz
set_option maxRecDepth 100000

def kwT4_4 : KSpec := .tab 4 [
 ([], .bool true)]
theorem kwT4_4_ok : KSpecOKX Tryz.prog TabX kwT4_4 := KSpec.tab_ok (by
  have E := envOf_okX kwS3_ok
  exact List.forall_mem_cons.2 ⟨prim_of E kwe4_0 (by kernel_rfl) (by kernel_rfl), fun _ h => nomatch h⟩)
def kwS4 : List KSpec := [kwT4_4] ++ kwS3
theorem kwS4_ok : ∀ s ∈ kwS4, KSpecOKX Tryz.prog TabX s := fun s hs => by
  rcases List.mem_append.1 hs with h | h
  · revert s
    exact fun s _ h => (show ∀ s ∈ [kwT4_4], KSpecOKX Tryz.prog TabX s from List.forall_mem_cons.2 ⟨kwT4_4_ok, fun _ h => nomatch h⟩) s h
  · exact kwS3_ok s h

end Go.Proofs.YtlakiipofcibhaaGreatDoor

namespace Go.Proofs.YtlakiipofcibhaaGreatDoor
open Go Sz

theorem writeKnown_prim : PrimOKX Tryz.prog TabX 4 [] (.bool true) := prim_of (envOf_okX kwS3_ok) kwe4_0 rfl rfl
theorem writeKnown_lawX {H : Type} (ds : List (DataW H)) (h : HasTys Tryz.prog Tryz.f4.params.toList (ds.map avOf)) (_ : (DataW.weightsEach Tryz.prog Tryz.f4.params.toList ds).all (· ≤ reachBytes) = true) : PrimOKX Tryz.prog TabX 4 (ds.map avOf) (.bool true) := by
  generalize ds.map avOf = avs at h
  rw [Tryz.params4] at h
  cases h
  exact writeKnown_prim
end Go.Proofs.YtlakiipofcibhaaGreatDoor
