import Derived.Test.YtleeinkdkllcdaaGreatDoorKe
import Derived.Test.YtleeinkdkllcdaaGreatDoorTy
import Derived.Test.YtleeinkdkllcdaaGreatDoorArg
import Derived.Test.YtleeinkdkllcdaaGreatDoorRows
import Derived.ProofKit
set_option linter.unusedVariables false
set_option linter.unusedSimpArgs false
set_option linter.unusedSectionVars false

namespace Go.Proofs.YtleeinkdkllcdaaGreatDoor
open Go Sz
set_option maxRecDepth 100000

/-! Closed runs. -/
theorem kbe3_0 : evCall (envOf kbS2) 90 9 [] h0 = some (.bool true, h0) := by kernel_rfl

end Go.Proofs.YtleeinkdkllcdaaGreatDoor

namespace Go.Proofs.YtleeinkdkllcdaaGreatDoor
open Go Sz
set_option maxRecDepth 100000

def kbT3_9 : KSpec := .tab 9 [
 ([], .bool true)]
theorem kbT3_9_ok : KSpecOKX Tryz.prog TabX kbT3_9 := KSpec.tab_ok (by
  have E := envOf_okX kbS2_ok
  exact List.forall_mem_cons.2 ⟨prim_of E kbe3_0 (by kernel_rfl) (by kernel_rfl), fun _ h => nomatch h⟩)
def kbS3 : List KSpec := [kbT3_9] ++ kbS2
theorem kbS3_ok : ∀ s ∈ kbS3, KSpecOKX Tryz.prog TabX s := fun s hs => by
  rcases List.mem_append.1 hs with h | h
  · revert s
    exact fun s _ h => (show ∀ s ∈ [kbT3_9], KSpecOKX Tryz.prog TabX s from List.forall_mem_cons.2 ⟨kbT3_9_ok, fun _ h => nomatch h⟩) s h
  · exact kbS2_ok s h

end Go.Proofs.YtleeinkdkllcdaaGreatDoor

namespace Go.Proofs.YtleeinkdkllcdaaGreatDoor
open Go Sz

theorem shapeKnown_prim : PrimOKX Tryz.prog TabX 9 [] (.bool true) := prim_of (envOf_okX kbS2_ok) kbe3_0 rfl rfl
theorem shapeKnown_lawX {H : Type} (ds : List (DataW H)) (h : HasTys Tryz.prog Tryz.f9.params.toList (ds.map avOf)) (_ : (DataW.weightsEach Tryz.prog Tryz.f9.params.toList ds).all (· ≤ reachBytes) = true) : PrimOKX Tryz.prog TabX 9 (ds.map avOf) (.bool true) := by
  generalize ds.map avOf = avs at h
  rw [Tryz.params9] at h
  cases h
  exact shapeKnown_prim
end Go.Proofs.YtleeinkdkllcdaaGreatDoor
