import Derived.Test.YtleeinkdkllcdaaGreatDoorKa
import Derived.Test.YtleeinkdkllcdaaGreatDoorKb
set_option linter.unusedVariables false
set_option linter.unusedSimpArgs false
set_option linter.unusedSectionVars false

namespace Go.Proofs.YtleeinkdkllcdaaGreatDoor
open Go Sz
set_option maxRecDepth 100000

/-! Closed runs. -/
theorem kbe1_9 : evCall (envOf ssA) 90 93 [.str [91, 93, 32, 46]] h0 = some (.tuple [.sl [.agg [.int .i64 1, .str [91, 93], .int .i64 0, .bool false, .int .i64 0], .agg [.int .i64 6, .str [], .int .i64 0, .bool false, .int .i64 3]], .int .i64 4, .int .i64 0], h0) := by kernel_rfl
theorem kbe1_10 : evCall (envOf ssA) 90 93 [.str [91, 102, 124, 88, 93, 32, 46]] h0 = some (.tuple [.sl [.agg [.int .i64 5, .str [91], .int .i64 0, .bool false, .int .i64 0], .agg [.int .i64 1, .str [102], .int .i64 0, .bool false, .int .i64 1], .agg [.int .i64 5, .str [124], .int .i64 0, .bool false, .int .i64 2], .agg [.int .i64 3, .str [88], .int .i64 0, .bool false, .int .i64 3], .agg [.int .i64 5, .str [93], .int .i64 0, .bool false, .int .i64 4], .agg [.int .i64 6, .str [], .int .i64 0, .bool false, .int .i64 6]], .int .i64 7, .int .i64 0], h0) := by kernel_rfl
theorem kbe1_11 : evCall (envOf ssA) 90 93 [.str [91, 102, 124, 98, 93, 32, 46]] h0 = some (.tuple [.sl [.agg [.int .i64 5, .str [91], .int .i64 0, .bool false, .int .i64 0], .agg [.int .i64 1, .str [102], .int .i64 0, .bool false, .int .i64 1], .agg [.int .i64 5, .str [124], .int .i64 0, .bool false, .int .i64 2], .agg [.int .i64 1, .str [98], .int .i64 0, .bool false, .int .i64 3], .agg [.int .i64 5, .str [93], .int .i64 0, .bool false, .int .i64 4], .agg [.int .i64 6, .str [], .int .i64 0, .bool false, .int .i64 6]], .int .i64 7, .int .i64 0], h0) := by kernel_rfl

end Go.Proofs.YtleeinkdkllcdaaGreatDoor

namespace Go.Proofs.YtleeinkdkllcdaaGreatDoor
open Go Sz
set_option maxRecDepth 100000

/-! Closed runs. -/
theorem kbe1_12 : evCall (envOf ssA) 90 93 [.str [91, 88, 44, 97, 93, 32, 46]] h0 = some (.tuple [.sl [.agg [.int .i64 5, .str [91], .int .i64 0, .bool false, .int .i64 0], .agg [.int .i64 3, .str [88], .int .i64 0, .bool false, .int .i64 1], .agg [.int .i64 5, .str [44], .int .i64 0, .bool false, .int .i64 2], .agg [.int .i64 1, .str [97], .int .i64 0, .bool false, .int .i64 3], .agg [.int .i64 5, .str [93], .int .i64 0, .bool false, .int .i64 4], .agg [.int .i64 6, .str [], .int .i64 0, .bool false, .int .i64 6]], .int .i64 7, .int .i64 0], h0) := by kernel_rfl

end Go.Proofs.YtleeinkdkllcdaaGreatDoor

namespace Go.Proofs.YtleeinkdkllcdaaGreatDoor
open Go Sz
set_option maxRecDepth 100000

/-! Closed runs. -/
theorem kbe1_13 : evCall (envOf ssA) 90 93 [.str [91, 102, 44, 49, 44, 50, 44, 51, 44, 52, 44, 53, 44, 54, 44, 55, 44, 56, 44, 57, 93, 32, 46]] h0 = some (.tuple [.sl [.agg [.int .i64 5, .str [91], .int .i64 0, .bool false, .int .i64 0], .agg [.int .i64 1, .str [102], .int .i64 0, .bool false, .int .i64 1], .agg [.int .i64 5, .str [44], .int .i64 0, .bool false, .int .i64 2], .agg [.int .i64 4, .str [], .int .i64 1, .bool false, .int .i64 3], .agg [.int .i64 5, .str [44], .int .i64 0, .bool false, .int .i64 4], .agg [.int .i64 4, .str [], .int .i64 2, .bool false, .int .i64 5], .agg [.int .i64 5, .str [44], .int .i64 0, .bool false, .int .i64 6], .agg [.int .i64 4, .str [], .int .i64 3, .bool false, .int .i64 7], .agg [.int .i64 5, .str [44], .int .i64 0, .bool false, .int .i64 8], .agg [.int .i64 4, .str [], .int .i64 4, .bool false, .int .i64 9], .agg [.int .i64 5, .str [44], .int .i64 0, .bool false, .int .i64 10], .agg [.int .i64 4, .str [], .int .i64 5, .bool false, .int .i64 11], .agg [.int .i64 5, .str [44], .int .i64 0, .bool false, .int .i64 12], .agg [.int .i64 4, .str [], .int .i64 6, .bool false, .int .i64 13], .agg [.int .i64 5, .str [44], .int .i64 0, .bool false, .int .i64 14], .agg [.int .i64 4, .str [], .int .i64 7, .bool false, .int .i64 15], .agg [.int .i64 5, .str [44], .int .i64 0, .bool false, .int .i64 16], .agg [.int .i64 4, .str [], .int .i64 8, .bool false, .int .i64 17], .agg [.int .i64 5, .str [44], .int .i64 0, .bool false, .int .i64 18], .agg [.int .i64 4, .str [], .int .i64 9, .bool false, .int .i64 19], .agg [.int .i64 5, .str [93], .int .i64 0, .bool false, .int .i64 20], .agg [.int .i64 6, .str [], .int .i64 0, .bool false, .int .i64 22]], .int .i64 23, .int .i64 0], h0) := by kernel_rfl

end Go.Proofs.YtleeinkdkllcdaaGreatDoor

namespace Go.Proofs.YtleeinkdkllcdaaGreatDoor
open Go Sz
set_option maxRecDepth 100000

/-! Closed runs. -/
theorem kbe1_14 : evCall (envOf ssA) 90 93 [.str [102, 40, 97, 44, 98, 41, 32, 46]] h0 = some (.tuple [.sl [.agg [.int .i64 1, .str [102], .int .i64 0, .bool true, .int .i64 0], .agg [.int .i64 5, .str [40], .int .i64 0, .bool false, .int .i64 1], .agg [.int .i64 1, .str [97], .int .i64 0, .bool false, .int .i64 2], .agg [.int .i64 5, .str [44], .int .i64 0, .bool false, .int .i64 3], .agg [.int .i64 1, .str [98], .int .i64 0, .bool false, .int .i64 4], .agg [.int .i64 5, .str [41], .int .i64 0, .bool false, .int .i64 5], .agg [.int .i64 6, .str [], .int .i64 0, .bool false, .int .i64 7]], .int .i64 8, .int .i64 0], h0) := by kernel_rfl
theorem kbe1_15 : evCall (envOf ssA) 90 93 [.str [97, 32, 46]] h0 = some (.tuple [.sl [.agg [.int .i64 1, .str [97], .int .i64 0, .bool false, .int .i64 0], .agg [.int .i64 6, .str [], .int .i64 0, .bool false, .int .i64 2]], .int .i64 3, .int .i64 0], h0) := by kernel_rfl

end Go.Proofs.YtleeinkdkllcdaaGreatDoor

namespace Go.Proofs.YtleeinkdkllcdaaGreatDoor
open Go Sz
set_option maxRecDepth 100000

def kbT1_52 : KSpec := .tab 52 [
 ([], kbV0)]
theorem kbT1_52_ok : KSpecOKX Tryz.prog TabX kbT1_52 := KSpec.tab_ok (by
  have E := envOf_okX ssA_ok
  exact List.forall_mem_cons.2 ⟨prim_of E kbe1_0 (by kernel_rfl) (by kernel_rfl), fun _ h => nomatch h⟩)
def kbT1_93 : KSpec := .tab 93 [
 ([.str [102, 40, 97, 41, 32, 46]], .tuple [.sl [.agg [.int .i64 1, .str [102], .int .i64 0, .bool true, .int .i64 0], .agg [.int .i64 5, .str [40], .int .i64 0, .bool false, .int .i64 1], .agg [.int .i64 1, .str [97], .int .i64 0, .bool false, .int .i64 2], .agg [.int .i64 5, .str [41], .int .i64 0, .bool false, .int .i64 3], .agg [.int .i64 6, .str [], .int .i64 0, .bool false, .int .i64 5]], .int .i64 6, .int .i64 0]),
 ([.str [91, 102, 44, 97, 93, 32, 46]], .tuple [.sl [.agg [.int .i64 5, .str [91], .int .i64 0, .bool false, .int .i64 0], .agg [.int .i64 1, .str [102], .int .i64 0, .bool false, .int .i64 1], .agg [.int .i64 5, .str [44], .int .i64 0, .bool false, .int .i64 2], .agg [.int .i64 1, .str [97], .int .i64 0, .bool false, .int .i64 3], .agg [.int .i64 5, .str [93], .int .i64 0, .bool false, .int .i64 4], .agg [.int .i64 6, .str [], .int .i64 0, .bool false, .int .i64 6]], .int .i64 7, .int .i64 0]),
 ([.str [88, 32, 46]], .tuple [.sl [.agg [.int .i64 3, .str [88], .int .i64 0, .bool false, .int .i64 0], .agg [.int .i64 6, .str [], .int .i64 0, .bool false, .int .i64 2]], .int .i64 3, .int .i64 0]),
 ([.str [91, 88, 93, 32, 46]], .tuple [.sl [.agg [.int .i64 5, .str [91], .int .i64 0, .bool false, .int .i64 0], .agg [.int .i64 3, .str [88], .int .i64 0, .bool false, .int .i64 1], .agg [.int .i64 5, .str [93], .int .i64 0, .bool false, .int .i64 2], .agg [.int .i64 6, .str [], .int .i64 0, .bool false, .int .i64 4]], .int .i64 5, .int .i64 0]),
 ([.str [91, 102, 40, 97, 41, 93, 32, 46]], .tuple [.sl [.agg [.int .i64 5, .str [91], .int .i64 0, .bool false, .int .i64 0], .agg [.int .i64 1, .str [102], .int .i64 0, .bool true, .int .i64 1], .agg [.int .i64 5, .str [40], .int .i64 0, .bool false, .int .i64 2], .agg [.int .i64 1, .str [97], .int .i64 0, .bool false, .int .i64 3], .agg [.int .i64 5, .str [41], .int .i64 0, .bool false, .int .i64 4], .agg [.int .i64 5, .str [93], .int .i64 0, .bool false, .int .i64 5], .agg [.int .i64 6, .str [], .int .i64 0, .bool false, .int .i64 7]], .int .i64 8, .int .i64 0]),
 ([.str [91, 51, 93, 32, 46]], .tuple [.sl [.agg [.int .i64 5, .str [91], .int .i64 0, .bool false, .int .i64 0], .agg [.int .i64 4, .str [], .int .i64 3, .bool false, .int .i64 1], .agg [.int .i64 5, .str [93], .int .i64 0, .bool false, .int .i64 2], .agg [.int .i64 6, .str [], .int .i64 0, .bool false, .int .i64 4]], .int .i64 5, .int .i64 0]),
 ([.str [91, 51, 44, 97, 93, 32, 46]], .tuple [.sl [.agg [.int .i64 5, .str [91], .int .i64 0, .bool false, .int .i64 0], .agg [.int .i64 4, .str [], .int .i64 3, .bool false, .int .i64 1], .agg [.int .i64 5, .str [44], .int .i64 0, .bool false, .int .i64 2], .agg [.int .i64 1, .str [97], .int .i64 0, .bool false, .int .i64 3], .agg [.int .i64 5, .str [93], .int .i64 0, .bool false, .int .i64 4], .agg [.int .i64 6, .str [], .int .i64 0, .bool false, .int .i64 6]], .int .i64 7, .int .i64 0]),
 ([.str [91, 102, 40, 97, 41, 44, 98, 93, 32, 46]], .tuple [.sl [.agg [.int .i64 5, .str [91], .int .i64 0, .bool false, .int .i64 0], .agg [.int .i64 1, .str [102], .int .i64 0, .bool true, .int .i64 1], .agg [.int .i64 5, .str [40], .int .i64 0, .bool false, .int .i64 2], .agg [.int .i64 1, .str [97], .int .i64 0, .bool false, .int .i64 3], .agg [.int .i64 5, .str [41], .int .i64 0, .bool false, .int .i64 4], .agg [.int .i64 5, .str [44], .int .i64 0, .bool false, .int .i64 5], .agg [.int .i64 1, .str [98], .int .i64 0, .bool false, .int .i64 6], .agg [.int .i64 5, .str [93], .int .i64 0, .bool false, .int .i64 7], .agg [.int .i64 6, .str [], .int .i64 0, .bool false, .int .i64 9]], .int .i64 10, .int .i64 0]),
 ([.str [91, 93, 32, 46]], .tuple [.sl [.agg [.int .i64 1, .str [91, 93], .int .i64 0, .bool false, .int .i64 0], .agg [.int .i64 6, .str [], .int .i64 0, .bool false, .int .i64 3]], .int .i64 4, .int .i64 0]),
 ([.str [91, 102, 124, 88, 93, 32, 46]], .tuple [.sl [.agg [.int .i64 5, .str [91], .int .i64 0, .bool false, .int .i64 0], .agg [.int .i64 1, .str [102], .int .i64 0, .bool false, .int .i64 1], .agg [.int .i64 5, .str [124], .int .i64 0, .bool false, .int .i64 2], .agg [.int .i64 3, .str [88], .int .i64 0, .bool false, .int .i64 3], .agg [.int .i64 5, .str [93], .int .i64 0, .bool false, .int .i64 4], .agg [.int .i64 6, .str [], .int .i64 0, .bool false, .int .i64 6]], .int .i64 7, .int .i64 0]),
 ([.str [91, 102, 124, 98, 93, 32, 46]], .tuple [.sl [.agg [.int .i64 5, .str [91], .int .i64 0, .bool false, .int .i64 0], .agg [.int .i64 1, .str [102], .int .i64 0, .bool false, .int .i64 1], .agg [.int .i64 5, .str [124], .int .i64 0, .bool false, .int .i64 2], .agg [.int .i64 1, .str [98], .int .i64 0, .bool false, .int .i64 3], .agg [.int .i64 5, .str [93], .int .i64 0, .bool false, .int .i64 4], .agg [.int .i64 6, .str [], .int .i64 0, .bool false, .int .i64 6]], .int .i64 7, .int .i64 0]),
 ([.str [91, 88, 44, 97, 93, 32, 46]], .tuple [.sl [.agg [.int .i64 5, .str [91], .int .i64 0, .bool false, .int .i64 0], .agg [.int .i64 3, .str [88], .int .i64 0, .bool false, .int .i64 1], .agg [.int .i64 5, .str [44], .int .i64 0, .bool false, .int .i64 2], .agg [.int .i64 1, .str [97], .int .i64 0, .bool false, .int .i64 3], .agg [.int .i64 5, .str [93], .int .i64 0, .bool false, .int .i64 4], .agg [.int .i64 6, .str [], .int .i64 0, .bool false, .int .i64 6]], .int .i64 7, .int .i64 0]),
 ([.str [91, 102, 44, 49, 44, 50, 44, 51, 44, 52, 44, 53, 44, 54, 44, 55, 44, 56, 44, 57, 93, 32, 46]], .tuple [.sl [.agg [.int .i64 5, .str [91], .int .i64 0, .bool false, .int .i64 0], .agg [.int .i64 1, .str [102], .int .i64 0, .bool false, .int .i64 1], .agg [.int .i64 5, .str [44], .int .i64 0, .bool false, .int .i64 2], .agg [.int .i64 4, .str [], .int .i64 1, .bool false, .int .i64 3], .agg [.int .i64 5, .str [44], .int .i64 0, .bool false, .int .i64 4], .agg [.int .i64 4, .str [], .int .i64 2, .bool false, .int .i64 5], .agg [.int .i64 5, .str [44], .int .i64 0, .bool false, .int .i64 6], .agg [.int .i64 4, .str [], .int .i64 3, .bool false, .int .i64 7], .agg [.int .i64 5, .str [44], .int .i64 0, .bool false, .int .i64 8], .agg [.int .i64 4, .str [], .int .i64 4, .bool false, .int .i64 9], .agg [.int .i64 5, .str [44], .int .i64 0, .bool false, .int .i64 10], .agg [.int .i64 4, .str [], .int .i64 5, .bool false, .int .i64 11], .agg [.int .i64 5, .str [44], .int .i64 0, .bool false, .int .i64 12], .agg [.int .i64 4, .str [], .int .i64 6, .bool false, .int .i64 13], .agg [.int .i64 5, .str [44], .int .i64 0, .bool false, .int .i64 14], .agg [.int .i64 4, .str [], .int .i64 7, .bool false, .int .i64 15], .agg [.int .i64 5, .str [44], .int .i64 0, .bool false, .int .i64 16], .agg [.int .i64 4, .str [], .int .i64 8, .bool false, .int .i64 17], .agg [.int .i64 5, .str [44], .int .i64 0, .bool false, .int .i64 18], .agg [.int .i64 4, .str [], .int .i64 9, .bool false, .int .i64 19], .agg [.int .i64 5, .str [93], .int .i64 0, .bool false, .int .i64 20], .agg [.int .i64 6, .str [], .int .i64 0, .bool false, .int .i64 22]], .int .i64 23, .int .i64 0]),
 ([.str [102, 40, 97, 44, 98, 41, 32, 46]], .tuple [.sl [.agg [.int .i64 1, .str [102], .int .i64 0, .bool true, .int .i64 0], .agg [.int .i64 5, .str [40], .int .i64 0, .bool false, .int .i64 1], .agg [.int .i64 1, .str [97], .int .i64 0, .bool false, .int .i64 2], .agg [.int .i64 5, .str [44], .int .i64 0, .bool false, .int .i64 3], .agg [.int .i64 1, .str [98], .int .i64 0, .bool false, .int .i64 4], .agg [.int .i64 5, .str [41], .int .i64 0, .bool false, .int .i64 5], .agg [.int .i64 6, .str [], .int .i64 0, .bool false, .int .i64 7]], .int .i64 8, .int .i64 0]),
 ([.str [97, 32, 46]], .tuple [.sl [.agg [.int .i64 1, .str [97], .int .i64 0, .bool false, .int .i64 0], .agg [.int .i64 6, .str [], .int .i64 0, .bool false, .int .i64 2]], .int .i64 3, .int .i64 0])]
theorem kbT1_93_ok : KSpecOKX Tryz.prog TabX kbT1_93 := KSpec.tab_ok (by
  have E := envOf_okX ssA_ok
  exact List.forall_mem_cons.2 ⟨prim_of E kbe1_1 (by kernel_rfl) (by kernel_rfl), List.forall_mem_cons.2 ⟨prim_of E kbe1_2 (by kernel_rfl) (by kernel_rfl), List.forall_mem_cons.2 ⟨prim_of E kbe1_3 (by kernel_rfl) (by kernel_rfl), List.forall_mem_cons.2 ⟨prim_of E kbe1_4 (by kernel_rfl) (by kernel_rfl), List.forall_mem_cons.2 ⟨prim_of E kbe1_5 (by kernel_rfl) (by kernel_rfl), List.forall_mem_cons.2 ⟨prim_of E kbe1_6 (by kernel_rfl) (by kernel_rfl), List.forall_mem_cons.2 ⟨prim_of E kbe1_7 (by kernel_rfl) (by kernel_rfl), List.forall_mem_cons.2 ⟨prim_of E kbe1_8 (by kernel_rfl) (by kernel_rfl), List.forall_mem_cons.2 ⟨prim_of E kbe1_9 (by kernel_rfl) (by kernel_rfl), List.forall_mem_cons.2 ⟨prim_of E kbe1_10 (by kernel_rfl) (by kernel_rfl), List.forall_mem_cons.2 ⟨prim_of E kbe1_11 (by kernel_rfl) (by kernel_rfl), List.forall_mem_cons.2 ⟨prim_of E kbe1_12 (by kernel_rfl) (by kernel_rfl), List.forall_mem_cons.2 ⟨prim_of E kbe1_13 (by kernel_rfl) (by kernel_rfl), List.forall_mem_cons.2 ⟨prim_of E kbe1_14 (by kernel_rfl) (by kernel_rfl), List.forall_mem_cons.2 ⟨prim_of E kbe1_15 (by kernel_rfl) (by kernel_rfl), fun _ h => nomatch h⟩⟩⟩⟩⟩⟩⟩⟩⟩⟩⟩⟩⟩⟩⟩)
def kbS1 : List KSpec := [kbT1_52, kbT1_93] ++ ssA
theorem kbS1_ok : ∀ s ∈ kbS1, KSpecOKX Tryz.prog TabX s := fun s hs => by
  rcases List.mem_append.1 hs with h | h
  · revert s
    exact fun s _ h => (show ∀ s ∈ [kbT1_52, kbT1_93], KSpecOKX Tryz.prog TabX s from List.forall_mem_cons.2 ⟨kbT1_52_ok, List.forall_mem_cons.2 ⟨kbT1_93_ok, fun _ h => nomatch h⟩⟩) s h
  · exact ssA_ok s h

end Go.Proofs.YtleeinkdkllcdaaGreatDoor
