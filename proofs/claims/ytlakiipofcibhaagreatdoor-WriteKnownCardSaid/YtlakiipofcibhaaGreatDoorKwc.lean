import Derived.Test.YtlakiipofcibhaaGreatDoorKwa
import Derived.Test.YtlakiipofcibhaaGreatDoorKwb
set_option linter.unusedVariables false
set_option linter.unusedSimpArgs false
set_option linter.unusedSectionVars false

namespace Go.Proofs.YtlakiipofcibhaaGreatDoor
open Go Sz
set_option maxRecDepth 100000

/-! Closed runs. -/
theorem kwe1_27 : evCall (envOf ssA) 90 73 [.str [91, 40, 97, 32, 58, 45, 32, 98, 41, 93, 32, 46]] h0 = some (.tuple [.sl [.agg [.int .i64 5, .str [91], .int .i64 0, .bool true, .int .i64 0], .agg [.int .i64 5, .str [40], .int .i64 0, .bool false, .int .i64 1], .agg [.int .i64 1, .str [97], .int .i64 0, .bool false, .int .i64 2], .agg [.int .i64 1, .str [58, 45], .int .i64 0, .bool false, .int .i64 4], .agg [.int .i64 1, .str [98], .int .i64 0, .bool false, .int .i64 7], .agg [.int .i64 5, .str [41], .int .i64 0, .bool false, .int .i64 8], .agg [.int .i64 5, .str [93], .int .i64 0, .bool false, .int .i64 9], .agg [.int .i64 6, .str [], .int .i64 0, .bool false, .int .i64 11]], .int .i64 12, .int .i64 0], h0) := by kernel_rfl
theorem kwe1_28 : evCall (envOf ssA) 90 73 [.str [92, 43, 32, 97, 32, 61, 32, 98, 32, 46]] h0 = some (.tuple [.sl [.agg [.int .i64 1, .str [92, 43], .int .i64 0, .bool false, .int .i64 0], .agg [.int .i64 1, .str [97], .int .i64 0, .bool false, .int .i64 3], .agg [.int .i64 1, .str [61], .int .i64 0, .bool false, .int .i64 5], .agg [.int .i64 1, .str [98], .int .i64 0, .bool false, .int .i64 7], .agg [.int .i64 6, .str [], .int .i64 0, .bool false, .int .i64 9]], .int .i64 10, .int .i64 0], h0) := by kernel_rfl

end Go.Proofs.YtlakiipofcibhaaGreatDoor

namespace Go.Proofs.YtlakiipofcibhaaGreatDoor
open Go Sz
set_option maxRecDepth 100000

/-! Closed runs. -/
theorem kwe1_29 : evCall (envOf ssA) 90 73 [.str [92, 43]] h0 = some (.tuple [.sl [.agg [.int .i64 1, .str [92, 43], .int .i64 0, .bool false, .int .i64 0]], .int .i64 2, .int .i64 0], h0) := by kernel_rfl
theorem kwe1_30 : evCall (envOf ssA) 90 73 [.str [61]] h0 = some (.tuple [.sl [.agg [.int .i64 1, .str [61], .int .i64 0, .bool false, .int .i64 0]], .int .i64 1, .int .i64 0], h0) := by kernel_rfl
theorem kwe1_31 : evCall (envOf ssA) 90 73 [.str [40, 92, 43, 32, 97, 41, 32, 61, 32, 98, 32, 46]] h0 = some (.tuple [.sl [.agg [.int .i64 5, .str [40], .int .i64 0, .bool false, .int .i64 0], .agg [.int .i64 1, .str [92, 43], .int .i64 0, .bool false, .int .i64 1], .agg [.int .i64 1, .str [97], .int .i64 0, .bool false, .int .i64 4], .agg [.int .i64 5, .str [41], .int .i64 0, .bool false, .int .i64 5], .agg [.int .i64 1, .str [61], .int .i64 0, .bool false, .int .i64 7], .agg [.int .i64 1, .str [98], .int .i64 0, .bool false, .int .i64 9], .agg [.int .i64 6, .str [], .int .i64 0, .bool false, .int .i64 11]], .int .i64 12, .int .i64 0], h0) := by kernel_rfl

end Go.Proofs.YtlakiipofcibhaaGreatDoor

namespace Go.Proofs.YtlakiipofcibhaaGreatDoor
open Go Sz
set_option maxRecDepth 100000

/-! Closed runs. -/
theorem kwe1_32 : evCall (envOf ssA) 90 73 [.str [40, 45, 41, 32, 43, 32, 97, 32, 46]] h0 = some (.tuple [.sl [.agg [.int .i64 5, .str [40], .int .i64 0, .bool false, .int .i64 0], .agg [.int .i64 1, .str [45], .int .i64 0, .bool false, .int .i64 1], .agg [.int .i64 5, .str [41], .int .i64 0, .bool false, .int .i64 2], .agg [.int .i64 1, .str [43], .int .i64 0, .bool false, .int .i64 4], .agg [.int .i64 1, .str [97], .int .i64 0, .bool false, .int .i64 6], .agg [.int .i64 6, .str [], .int .i64 0, .bool false, .int .i64 8]], .int .i64 9, .int .i64 0], h0) := by kernel_rfl
theorem kwe1_33 : evCall (envOf ssA) 90 73 [.str [102, 40, 45, 41, 32, 46]] h0 = some (.tuple [.sl [.agg [.int .i64 1, .str [102], .int .i64 0, .bool true, .int .i64 0], .agg [.int .i64 5, .str [40], .int .i64 0, .bool false, .int .i64 1], .agg [.int .i64 1, .str [45], .int .i64 0, .bool false, .int .i64 2], .agg [.int .i64 5, .str [41], .int .i64 0, .bool false, .int .i64 3], .agg [.int .i64 6, .str [], .int .i64 0, .bool false, .int .i64 5]], .int .i64 6, .int .i64 0], h0) := by kernel_rfl

end Go.Proofs.YtlakiipofcibhaaGreatDoor

namespace Go.Proofs.YtlakiipofcibhaaGreatDoor
open Go Sz
set_option maxRecDepth 100000

/-! Closed runs. -/
theorem kwe1_34 : evCall (envOf ssA) 90 73 [.str [97, 58, 45, 98, 32, 46]] h0 = some (.tuple [.sl [.agg [.int .i64 1, .str [97], .int .i64 0, .bool false, .int .i64 0], .agg [.int .i64 1, .str [58, 45], .int .i64 0, .bool false, .int .i64 1], .agg [.int .i64 1, .str [98], .int .i64 0, .bool false, .int .i64 3], .agg [.int .i64 6, .str [], .int .i64 0, .bool false, .int .i64 5]], .int .i64 6, .int .i64 0], h0) := by kernel_rfl

end Go.Proofs.YtlakiipofcibhaaGreatDoor

namespace Go.Proofs.YtlakiipofcibhaaGreatDoor
open Go Sz
set_option maxRecDepth 100000

/-! Closed runs. -/
theorem kwe1_35 : evCall (envOf ssA) 90 18 [kwV1] h0 = some (.nils, h0) := by kernel_rfl

end Go.Proofs.YtlakiipofcibhaaGreatDoor

namespace Go.Proofs.YtlakiipofcibhaaGreatDoor
open Go Sz
set_option maxRecDepth 100000

/-! Closed runs. -/
theorem kwe1_36 : evCall (envOf ssA) 90 73 [.str [39, 39, 39, 39, 39, 39, 39, 39, 39, 39, 39, 39, 39, 39, 39, 39, 39, 39, 39, 39, 39, 39, 39, 39, 39, 39, 39, 39, 39, 39, 39, 39, 39, 39, 39, 39, 39, 39, 39, 39, 39, 39, 39, 39, 39, 39, 39, 39, 39, 39, 39, 39, 39, 39, 39, 39, 39, 39, 39]] h0 = some (.tuple [.nils, .int .i64 0, .int .i64 2], h0) := by kernel_rfl
theorem kwe1_37 : evCall (envOf ssA) 90 18 [.agg [.int .i64 2, .int .i64 0, .str [43], .sl [.agg [.int .i64 2, .int .i64 0, .str [97, 32, 98], .nils], .agg [.int .i64 2, .int .i64 0, .str [46], .sl [.agg [.int .i64 0, .int .i64 3, .str [], .nils], .agg [.int .i64 0, .int .i64 9, .str [], .nils]]]]]] h0 = some (.sl [.int .i64 3, .int .i64 9], h0) := by kernel_rfl
theorem kwe1_38 : evCall (envOf ssA) 90 73 [.str [97, 32, 98]] h0 = some (.tuple [.sl [.agg [.int .i64 1, .str [97], .int .i64 0, .bool false, .int .i64 0], .agg [.int .i64 1, .str [98], .int .i64 0, .bool false, .int .i64 2]], .int .i64 3, .int .i64 0], h0) := by kernel_rfl
theorem kwe1_39 : evCall (envOf ssA) 90 115 [.str [46]] h0 = some (.str [39, 46, 39], h0) := by kernel_rfl

end Go.Proofs.YtlakiipofcibhaaGreatDoor

namespace Go.Proofs.YtlakiipofcibhaaGreatDoor
open Go Sz
set_option maxRecDepth 100000

def kwT1_14 : KSpec := .tab 14 [
 ([], kwV0)]
theorem kwT1_14_ok : KSpecOKX Tryz.prog TabX kwT1_14 := KSpec.tab_ok (by
  have E := envOf_okX ssA_ok
  exact List.forall_mem_cons.2 ⟨prim_of E kwe1_0 (by kernel_rfl) (by kernel_rfl), fun _ h => nomatch h⟩)
def kwT1_73 : KSpec := .tab 73 [
 ([.str [43]], .tuple [.sl [.agg [.int .i64 1, .str [43], .int .i64 0, .bool false, .int .i64 0]], .int .i64 1, .int .i64 0]),
 ([.str [42]], .tuple [.sl [.agg [.int .i64 1, .str [42], .int .i64 0, .bool false, .int .i64 0]], .int .i64 1, .int .i64 0]),
 ([.str [97, 32, 43, 32, 98, 32, 43, 32, 99, 32, 46]], .tuple [.sl [.agg [.int .i64 1, .str [97], .int .i64 0, .bool false, .int .i64 0], .agg [.int .i64 1, .str [43], .int .i64 0, .bool false, .int .i64 2], .agg [.int .i64 1, .str [98], .int .i64 0, .bool false, .int .i64 4], .agg [.int .i64 1, .str [43], .int .i64 0, .bool false, .int .i64 6], .agg [.int .i64 1, .str [99], .int .i64 0, .bool false, .int .i64 8], .agg [.int .i64 6, .str [], .int .i64 0, .bool false, .int .i64 10]], .int .i64 11, .int .i64 0]),
 ([.str [97, 32, 43, 32, 40, 98, 32, 43, 32, 99, 41, 32, 46]], .tuple [.sl [.agg [.int .i64 1, .str [97], .int .i64 0, .bool false, .int .i64 0], .agg [.int .i64 1, .str [43], .int .i64 0, .bool false, .int .i64 2], .agg [.int .i64 5, .str [40], .int .i64 0, .bool false, .int .i64 4], .agg [.int .i64 1, .str [98], .int .i64 0, .bool false, .int .i64 5], .agg [.int .i64 1, .str [43], .int .i64 0, .bool false, .int .i64 7], .agg [.int .i64 1, .str [99], .int .i64 0, .bool false, .int .i64 9], .agg [.int .i64 5, .str [41], .int .i64 0, .bool false, .int .i64 10], .agg [.int .i64 6, .str [], .int .i64 0, .bool false, .int .i64 12]], .int .i64 13, .int .i64 0]),
 ([.str [40, 97, 32, 58, 45, 32, 98, 41, 32, 43, 32, 99, 32, 46]], .tuple [.sl [.agg [.int .i64 5, .str [40], .int .i64 0, .bool false, .int .i64 0], .agg [.int .i64 1, .str [97], .int .i64 0, .bool false, .int .i64 1], .agg [.int .i64 1, .str [58, 45], .int .i64 0, .bool false, .int .i64 3], .agg [.int .i64 1, .str [98], .int .i64 0, .bool false, .int .i64 6], .agg [.int .i64 5, .str [41], .int .i64 0, .bool false, .int .i64 7], .agg [.int .i64 1, .str [43], .int .i64 0, .bool false, .int .i64 9], .agg [.int .i64 1, .str [99], .int .i64 0, .bool false, .int .i64 11], .agg [.int .i64 6, .str [], .int .i64 0, .bool false, .int .i64 13]], .int .i64 14, .int .i64 0]),
 ([.str [58, 45]], .tuple [.sl [.agg [.int .i64 1, .str [58, 45], .int .i64 0, .bool false, .int .i64 0]], .int .i64 2, .int .i64 0]),
 ([.str [45, 40, 49, 41, 32, 46]], .tuple [.sl [.agg [.int .i64 1, .str [45], .int .i64 0, .bool true, .int .i64 0], .agg [.int .i64 5, .str [40], .int .i64 0, .bool false, .int .i64 1], .agg [.int .i64 4, .str [], .int .i64 1, .bool false, .int .i64 2], .agg [.int .i64 5, .str [41], .int .i64 0, .bool false, .int .i64 3], .agg [.int .i64 6, .str [], .int .i64 0, .bool false, .int .i64 5]], .int .i64 6, .int .i64 0]),
 ([.str [45]], .tuple [.sl [.agg [.int .i64 1, .str [45], .int .i64 0, .bool false, .int .i64 0]], .int .i64 1, .int .i64 0]),
 ([.str [45, 32, 97, 32, 46]], .tuple [.sl [.agg [.int .i64 1, .str [45], .int .i64 0, .bool false, .int .i64 0], .agg [.int .i64 1, .str [97], .int .i64 0, .bool false, .int .i64 2], .agg [.int .i64 6, .str [], .int .i64 0, .bool false, .int .i64 4]], .int .i64 5, .int .i64 0]),
 ([.str [50, 32, 45, 32, 40, 45, 49, 41, 32, 46]], .tuple [.sl [.agg [.int .i64 4, .str [], .int .i64 2, .bool false, .int .i64 0], .agg [.int .i64 1, .str [45], .int .i64 0, .bool false, .int .i64 2], .agg [.int .i64 5, .str [40], .int .i64 0, .bool false, .int .i64 4], .agg [.int .i64 1, .str [45], .int .i64 0, .bool false, .int .i64 5], .agg [.int .i64 4, .str [], .int .i64 1, .bool false, .int .i64 6], .agg [.int .i64 5, .str [41], .int .i64 0, .bool false, .int .i64 7], .agg [.int .i64 6, .str [], .int .i64 0, .bool false, .int .i64 9]], .int .i64 10, .int .i64 0]),
 ([.str [102, 40, 45, 49, 44, 45, 32, 97, 41, 32, 46]], .tuple [.sl [.agg [.int .i64 1, .str [102], .int .i64 0, .bool true, .int .i64 0], .agg [.int .i64 5, .str [40], .int .i64 0, .bool false, .int .i64 1], .agg [.int .i64 1, .str [45], .int .i64 0, .bool false, .int .i64 2], .agg [.int .i64 4, .str [], .int .i64 1, .bool false, .int .i64 3], .agg [.int .i64 5, .str [44], .int .i64 0, .bool false, .int .i64 4], .agg [.int .i64 1, .str [45], .int .i64 0, .bool false, .int .i64 5], .agg [.int .i64 1, .str [97], .int .i64 0, .bool false, .int .i64 7], .agg [.int .i64 5, .str [41], .int .i64 0, .bool false, .int .i64 8], .agg [.int .i64 6, .str [], .int .i64 0, .bool false, .int .i64 10]], .int .i64 11, .int .i64 0]),
 ([.str [91, 97, 44, 98, 124, 95, 48, 93, 32, 46]], .tuple [.sl [.agg [.int .i64 5, .str [91], .int .i64 0, .bool false, .int .i64 0], .agg [.int .i64 1, .str [97], .int .i64 0, .bool false, .int .i64 1], .agg [.int .i64 5, .str [44], .int .i64 0, .bool false, .int .i64 2], .agg [.int .i64 1, .str [98], .int .i64 0, .bool false, .int .i64 3], .agg [.int .i64 5, .str [124], .int .i64 0, .bool false, .int .i64 4], .agg [.int .i64 3, .str [95, 48], .int .i64 0, .bool false, .int .i64 5], .agg [.int .i64 5, .str [93], .int .i64 0, .bool false, .int .i64 7], .agg [.int .i64 6, .str [], .int .i64 0, .bool false, .int .i64 9]], .int .i64 10, .int .i64 0]),
 ([.str [91, 93, 32, 46]], .tuple [.sl [.agg [.int .i64 1, .str [91, 93], .int .i64 0, .bool false, .int .i64 0], .agg [.int .i64 6, .str [], .int .i64 0, .bool false, .int .i64 3]], .int .i64 4, .int .i64 0]),
 ([.str [123, 97, 44, 98, 125, 32, 46]], .tuple [.sl [.agg [.int .i64 5, .str [123], .int .i64 0, .bool false, .int .i64 0], .agg [.int .i64 1, .str [97], .int .i64 0, .bool false, .int .i64 1], .agg [.int .i64 5, .str [44], .int .i64 0, .bool false, .int .i64 2], .agg [.int .i64 1, .str [98], .int .i64 0, .bool false, .int .i64 3], .agg [.int .i64 5, .str [125], .int .i64 0, .bool false, .int .i64 4], .agg [.int .i64 6, .str [], .int .i64 0, .bool false, .int .i64 6]], .int .i64 7, .int .i64 0]),
 ([.str [39, 88, 39, 40, 98, 41, 32, 46]], .tuple [.sl [.agg [.int .i64 2, .str [88], .int .i64 0, .bool true, .int .i64 0], .agg [.int .i64 5, .str [40], .int .i64 0, .bool false, .int .i64 3], .agg [.int .i64 1, .str [98], .int .i64 0, .bool false, .int .i64 4], .agg [.int .i64 5, .str [41], .int .i64 0, .bool false, .int .i64 5], .agg [.int .i64 6, .str [], .int .i64 0, .bool false, .int .i64 7]], .int .i64 8, .int .i64 0]),
 ([.str [97, 44, 98, 44, 99, 32, 46]], .tuple [.sl [.agg [.int .i64 1, .str [97], .int .i64 0, .bool false, .int .i64 0], .agg [.int .i64 5, .str [44], .int .i64 0, .bool false, .int .i64 1], .agg [.int .i64 1, .str [98], .int .i64 0, .bool false, .int .i64 2], .agg [.int .i64 5, .str [44], .int .i64 0, .bool false, .int .i64 3], .agg [.int .i64 1, .str [99], .int .i64 0, .bool false, .int .i64 4], .agg [.int .i64 6, .str [], .int .i64 0, .bool false, .int .i64 6]], .int .i64 7, .int .i64 0]),
 ([.str [40, 97, 44, 98, 41, 44, 99, 32, 46]], .tuple [.sl [.agg [.int .i64 5, .str [40], .int .i64 0, .bool false, .int .i64 0], .agg [.int .i64 1, .str [97], .int .i64 0, .bool false, .int .i64 1], .agg [.int .i64 5, .str [44], .int .i64 0, .bool false, .int .i64 2], .agg [.int .i64 1, .str [98], .int .i64 0, .bool false, .int .i64 3], .agg [.int .i64 5, .str [41], .int .i64 0, .bool false, .int .i64 4], .agg [.int .i64 5, .str [44], .int .i64 0, .bool false, .int .i64 5], .agg [.int .i64 1, .str [99], .int .i64 0, .bool false, .int .i64 6], .agg [.int .i64 6, .str [], .int .i64 0, .bool false, .int .i64 8]], .int .i64 9, .int .i64 0]),
 ([.str [102, 40, 40, 97, 44, 98, 41, 41, 32, 46]], .tuple [.sl [.agg [.int .i64 1, .str [102], .int .i64 0, .bool true, .int .i64 0], .agg [.int .i64 5, .str [40], .int .i64 0, .bool true, .int .i64 1], .agg [.int .i64 5, .str [40], .int .i64 0, .bool false, .int .i64 2], .agg [.int .i64 1, .str [97], .int .i64 0, .bool false, .int .i64 3], .agg [.int .i64 5, .str [44], .int .i64 0, .bool false, .int .i64 4], .agg [.int .i64 1, .str [98], .int .i64 0, .bool false, .int .i64 5], .agg [.int .i64 5, .str [41], .int .i64 0, .bool false, .int .i64 6], .agg [.int .i64 5, .str [41], .int .i64 0, .bool false, .int .i64 7], .agg [.int .i64 6, .str [], .int .i64 0, .bool false, .int .i64 9]], .int .i64 10, .int .i64 0]),
 ([.str [91, 40, 97, 32, 58, 45, 32, 98, 41, 93, 32, 46]], .tuple [.sl [.agg [.int .i64 5, .str [91], .int .i64 0, .bool true, .int .i64 0], .agg [.int .i64 5, .str [40], .int .i64 0, .bool false, .int .i64 1], .agg [.int .i64 1, .str [97], .int .i64 0, .bool false, .int .i64 2], .agg [.int .i64 1, .str [58, 45], .int .i64 0, .bool false, .int .i64 4], .agg [.int .i64 1, .str [98], .int .i64 0, .bool false, .int .i64 7], .agg [.int .i64 5, .str [41], .int .i64 0, .bool false, .int .i64 8], .agg [.int .i64 5, .str [93], .int .i64 0, .bool false, .int .i64 9], .agg [.int .i64 6, .str [], .int .i64 0, .bool false, .int .i64 11]], .int .i64 12, .int .i64 0]),
 ([.str [92, 43, 32, 97, 32, 61, 32, 98, 32, 46]], .tuple [.sl [.agg [.int .i64 1, .str [92, 43], .int .i64 0, .bool false, .int .i64 0], .agg [.int .i64 1, .str [97], .int .i64 0, .bool false, .int .i64 3], .agg [.int .i64 1, .str [61], .int .i64 0, .bool false, .int .i64 5], .agg [.int .i64 1, .str [98], .int .i64 0, .bool false, .int .i64 7], .agg [.int .i64 6, .str [], .int .i64 0, .bool false, .int .i64 9]], .int .i64 10, .int .i64 0]),
 ([.str [92, 43]], .tuple [.sl [.agg [.int .i64 1, .str [92, 43], .int .i64 0, .bool false, .int .i64 0]], .int .i64 2, .int .i64 0]),
 ([.str [61]], .tuple [.sl [.agg [.int .i64 1, .str [61], .int .i64 0, .bool false, .int .i64 0]], .int .i64 1, .int .i64 0]),
 ([.str [40, 92, 43, 32, 97, 41, 32, 61, 32, 98, 32, 46]], .tuple [.sl [.agg [.int .i64 5, .str [40], .int .i64 0, .bool false, .int .i64 0], .agg [.int .i64 1, .str [92, 43], .int .i64 0, .bool false, .int .i64 1], .agg [.int .i64 1, .str [97], .int .i64 0, .bool false, .int .i64 4], .agg [.int .i64 5, .str [41], .int .i64 0, .bool false, .int .i64 5], .agg [.int .i64 1, .str [61], .int .i64 0, .bool false, .int .i64 7], .agg [.int .i64 1, .str [98], .int .i64 0, .bool false, .int .i64 9], .agg [.int .i64 6, .str [], .int .i64 0, .bool false, .int .i64 11]], .int .i64 12, .int .i64 0]),
 ([.str [40, 45, 41, 32, 43, 32, 97, 32, 46]], .tuple [.sl [.agg [.int .i64 5, .str [40], .int .i64 0, .bool false, .int .i64 0], .agg [.int .i64 1, .str [45], .int .i64 0, .bool false, .int .i64 1], .agg [.int .i64 5, .str [41], .int .i64 0, .bool false, .int .i64 2], .agg [.int .i64 1, .str [43], .int .i64 0, .bool false, .int .i64 4], .agg [.int .i64 1, .str [97], .int .i64 0, .bool false, .int .i64 6], .agg [.int .i64 6, .str [], .int .i64 0, .bool false, .int .i64 8]], .int .i64 9, .int .i64 0]),
 ([.str [102, 40, 45, 41, 32, 46]], .tuple [.sl [.agg [.int .i64 1, .str [102], .int .i64 0, .bool true, .int .i64 0], .agg [.int .i64 5, .str [40], .int .i64 0, .bool false, .int .i64 1], .agg [.int .i64 1, .str [45], .int .i64 0, .bool false, .int .i64 2], .agg [.int .i64 5, .str [41], .int .i64 0, .bool false, .int .i64 3], .agg [.int .i64 6, .str [], .int .i64 0, .bool false, .int .i64 5]], .int .i64 6, .int .i64 0]),
 ([.str [97, 58, 45, 98, 32, 46]], .tuple [.sl [.agg [.int .i64 1, .str [97], .int .i64 0, .bool false, .int .i64 0], .agg [.int .i64 1, .str [58, 45], .int .i64 0, .bool false, .int .i64 1], .agg [.int .i64 1, .str [98], .int .i64 0, .bool false, .int .i64 3], .agg [.int .i64 6, .str [], .int .i64 0, .bool false, .int .i64 5]], .int .i64 6, .int .i64 0]),
 ([.str [39, 39, 39, 39, 39, 39, 39, 39, 39, 39, 39, 39, 39, 39, 39, 39, 39, 39, 39, 39, 39, 39, 39, 39, 39, 39, 39, 39, 39, 39, 39, 39, 39, 39, 39, 39, 39, 39, 39, 39, 39, 39, 39, 39, 39, 39, 39, 39, 39, 39, 39, 39, 39, 39, 39, 39, 39, 39, 39]], .tuple [.nils, .int .i64 0, .int .i64 2]),
 ([.str [97, 32, 98]], .tuple [.sl [.agg [.int .i64 1, .str [97], .int .i64 0, .bool false, .int .i64 0], .agg [.int .i64 1, .str [98], .int .i64 0, .bool false, .int .i64 2]], .int .i64 3, .int .i64 0])]
theorem kwT1_73_ok : KSpecOKX Tryz.prog TabX kwT1_73 := KSpec.tab_ok (by
  have E := envOf_okX ssA_ok
  exact List.forall_mem_cons.2 ⟨prim_of E kwe1_1 (by kernel_rfl) (by kernel_rfl), List.forall_mem_cons.2 ⟨prim_of E kwe1_2 (by kernel_rfl) (by kernel_rfl), List.forall_mem_cons.2 ⟨prim_of E kwe1_4 (by kernel_rfl) (by kernel_rfl), List.forall_mem_cons.2 ⟨prim_of E kwe1_5 (by kernel_rfl) (by kernel_rfl), List.forall_mem_cons.2 ⟨prim_of E kwe1_6 (by kernel_rfl) (by kernel_rfl), List.forall_mem_cons.2 ⟨prim_of E kwe1_7 (by kernel_rfl) (by kernel_rfl), List.forall_mem_cons.2 ⟨prim_of E kwe1_8 (by kernel_rfl) (by kernel_rfl), List.forall_mem_cons.2 ⟨prim_of E kwe1_9 (by kernel_rfl) (by kernel_rfl), List.forall_mem_cons.2 ⟨prim_of E kwe1_10 (by kernel_rfl) (by kernel_rfl), List.forall_mem_cons.2 ⟨prim_of E kwe1_11 (by kernel_rfl) (by kernel_rfl), List.forall_mem_cons.2 ⟨prim_of E kwe1_12 (by kernel_rfl) (by kernel_rfl), List.forall_mem_cons.2 ⟨prim_of E kwe1_13 (by kernel_rfl) (by kernel_rfl), List.forall_mem_cons.2 ⟨prim_of E kwe1_15 (by kernel_rfl) (by kernel_rfl), List.forall_mem_cons.2 ⟨prim_of E kwe1_17 (by kernel_rfl) (by kernel_rfl), List.forall_mem_cons.2 ⟨prim_of E kwe1_19 (by kernel_rfl) (by kernel_rfl), List.forall_mem_cons.2 ⟨prim_of E kwe1_21 (by kernel_rfl) (by kernel_rfl), List.forall_mem_cons.2 ⟨prim_of E kwe1_23 (by kernel_rfl) (by kernel_rfl), List.forall_mem_cons.2 ⟨prim_of E kwe1_25 (by kernel_rfl) (by kernel_rfl), List.forall_mem_cons.2 ⟨prim_of E kwe1_27 (by kernel_rfl) (by kernel_rfl), List.forall_mem_cons.2 ⟨prim_of E kwe1_28 (by kernel_rfl) (by kernel_rfl), List.forall_mem_cons.2 ⟨prim_of E kwe1_29 (by kernel_rfl) (by kernel_rfl), List.forall_mem_cons.2 ⟨prim_of E kwe1_30 (by kernel_rfl) (by kernel_rfl), List.forall_mem_cons.2 ⟨prim_of E kwe1_31 (by kernel_rfl) (by kernel_rfl), List.forall_mem_cons.2 ⟨prim_of E kwe1_32 (by kernel_rfl) (by kernel_rfl), List.forall_mem_cons.2 ⟨prim_of E kwe1_33 (by kernel_rfl) (by kernel_rfl), List.forall_mem_cons.2 ⟨prim_of E kwe1_34 (by kernel_rfl) (by kernel_rfl), List.forall_mem_cons.2 ⟨prim_of E kwe1_36 (by kernel_rfl) (by kernel_rfl), List.forall_mem_cons.2 ⟨prim_of E kwe1_38 (by kernel_rfl) (by kernel_rfl), fun _ h => nomatch h⟩⟩⟩⟩⟩⟩⟩⟩⟩⟩⟩⟩⟩⟩⟩⟩⟩⟩⟩⟩⟩⟩⟩⟩⟩⟩⟩⟩)
def kwT1_22 : KSpec := .tab 22 [
 ([.agg [.int .i64 2, .int .i64 0, .str [102], .sl [.agg [.int .i64 0, .int .i64 7, .str [], .nils], .agg [.int .i64 1, .int .i64 (-1), .str [], .nils]]]], .tuple [.str [102, 40, 95, 48, 44, 45, 49, 41], .int .i64 0])]
theorem kwT1_22_ok : KSpecOKX Tryz.prog TabX kwT1_22 := KSpec.tab_ok (by
  have E := envOf_okX ssA_ok
  exact List.forall_mem_cons.2 ⟨prim_of E kwe1_3 (by kernel_rfl) (by kernel_rfl), fun _ h => nomatch h⟩)
def kwT1_20 : KSpec := .tabP 20 kwV0 [
 ([.agg [.int .i64 2, .int .i64 0, .str [46], .sl [.agg [.int .i64 2, .int .i64 0, .str [97], .nils], .agg [.int .i64 2, .int .i64 0, .str [46], .sl [.agg [.int .i64 2, .int .i64 0, .str [98], .nils], .agg [.int .i64 0, .int .i64 0, .str [], .nils]]]]]], .tuple [.str [91, 97, 44, 98, 124, 95, 48, 93], .int .i64 0]),
 ([.agg [.int .i64 2, .int .i64 0, .str [123, 125], .sl [.agg [.int .i64 2, .int .i64 0, .str [44], .sl [.agg [.int .i64 2, .int .i64 0, .str [97], .nils], .agg [.int .i64 2, .int .i64 0, .str [98], .nils]]]]]], .tuple [.str [123, 97, 44, 98, 125], .int .i64 0]),
 ([.agg [.int .i64 2, .int .i64 0, .str [44], .sl [.agg [.int .i64 2, .int .i64 0, .str [97], .nils], .agg [.int .i64 2, .int .i64 0, .str [44], .sl [.agg [.int .i64 2, .int .i64 0, .str [98], .nils], .agg [.int .i64 2, .int .i64 0, .str [99], .nils]]]]]], .tuple [.str [97, 44, 98, 44, 99], .int .i64 0]),
 ([.agg [.int .i64 2, .int .i64 0, .str [44], .sl [.agg [.int .i64 2, .int .i64 0, .str [44], .sl [.agg [.int .i64 2, .int .i64 0, .str [97], .nils], .agg [.int .i64 2, .int .i64 0, .str [98], .nils]]], .agg [.int .i64 2, .int .i64 0, .str [99], .nils]]]], .tuple [.str [40, 97, 44, 98, 41, 44, 99], .int .i64 0]),
 ([.agg [.int .i64 2, .int .i64 0, .str [102], .sl [.agg [.int .i64 2, .int .i64 0, .str [44], .sl [.agg [.int .i64 2, .int .i64 0, .str [97], .nils], .agg [.int .i64 2, .int .i64 0, .str [98], .nils]]]]]], .tuple [.str [102, 40, 40, 97, 44, 98, 41, 41], .int .i64 0])]
theorem kwT1_20_ok : KSpecOKX Tryz.prog TabX kwT1_20 := KSpec.tabP_ok (by
  have E := envOf_okX ssA_ok
  exact List.forall_mem_cons.2 ⟨prim_of E kwe1_14 (by kernel_rfl) (by kernel_rfl), List.forall_mem_cons.2 ⟨prim_of E kwe1_18 (by kernel_rfl) (by kernel_rfl), List.forall_mem_cons.2 ⟨prim_of E kwe1_22 (by kernel_rfl) (by kernel_rfl), List.forall_mem_cons.2 ⟨prim_of E kwe1_24 (by kernel_rfl) (by kernel_rfl), List.forall_mem_cons.2 ⟨prim_of E kwe1_26 (by kernel_rfl) (by kernel_rfl), fun _ h => nomatch h⟩⟩⟩⟩⟩)
def kwT1_149 : KSpec := .tab 149 [
 ([.str [91, 93]], .bool true),
 ([.str [88]], .bool false)]
theorem kwT1_149_ok : KSpecOKX Tryz.prog TabX kwT1_149 := KSpec.tab_ok (by
  have E := envOf_okX ssA_ok
  exact List.forall_mem_cons.2 ⟨prim_of E kwe1_16 (by kernel_rfl) (by kernel_rfl), List.forall_mem_cons.2 ⟨prim_of E kwe1_20 (by kernel_rfl) (by kernel_rfl), fun _ h => nomatch h⟩⟩)
def kwT1_18 : KSpec := .tab 18 [
 ([kwV1], .nils),
 ([.agg [.int .i64 2, .int .i64 0, .str [43], .sl [.agg [.int .i64 2, .int .i64 0, .str [97, 32, 98], .nils], .agg [.int .i64 2, .int .i64 0, .str [46], .sl [.agg [.int .i64 0, .int .i64 3, .str [], .nils], .agg [.int .i64 0, .int .i64 9, .str [], .nils]]]]]], .sl [.int .i64 3, .int .i64 9])]
theorem kwT1_18_ok : KSpecOKX Tryz.prog TabX kwT1_18 := KSpec.tab_ok (by
  have E := envOf_okX ssA_ok
  exact List.forall_mem_cons.2 ⟨prim_of E kwe1_35 (by kernel_rfl) (by kernel_rfl), List.forall_mem_cons.2 ⟨prim_of E kwe1_37 (by kernel_rfl) (by kernel_rfl), fun _ h => nomatch h⟩⟩)
def kwT1_115 : KSpec := .tab 115 [
 ([.str [46]], .str [39, 46, 39])]
theorem kwT1_115_ok : KSpecOKX Tryz.prog TabX kwT1_115 := KSpec.tab_ok (by
  have E := envOf_okX ssA_ok
  exact List.forall_mem_cons.2 ⟨prim_of E kwe1_39 (by kernel_rfl) (by kernel_rfl), fun _ h => nomatch h⟩)
def kwS1 : List KSpec := [kwT1_14, kwT1_73, kwT1_22, kwT1_20, kwT1_149, kwT1_18, kwT1_115] ++ ssA
theorem kwS1_ok : ∀ s ∈ kwS1, KSpecOKX Tryz.prog TabX s := fun s hs => by
  rcases List.mem_append.1 hs with h | h
  · revert s
    exact fun s _ h => (show ∀ s ∈ [kwT1_14, kwT1_73, kwT1_22, kwT1_20, kwT1_149, kwT1_18, kwT1_115], KSpecOKX Tryz.prog TabX s from List.forall_mem_cons.2 ⟨kwT1_14_ok, List.forall_mem_cons.2 ⟨kwT1_73_ok, List.forall_mem_cons.2 ⟨kwT1_22_ok, List.forall_mem_cons.2 ⟨kwT1_20_ok, List.forall_mem_cons.2 ⟨kwT1_149_ok, List.forall_mem_cons.2 ⟨kwT1_18_ok, List.forall_mem_cons.2 ⟨kwT1_115_ok, fun _ h => nomatch h⟩⟩⟩⟩⟩⟩⟩) s h
  · exact ssA_ok s h

end Go.Proofs.YtlakiipofcibhaaGreatDoor
