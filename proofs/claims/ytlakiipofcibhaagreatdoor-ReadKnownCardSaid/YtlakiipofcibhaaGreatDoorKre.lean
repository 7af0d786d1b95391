import Derived.Test.YtlakiipofcibhaaGreatDoorKra
import Derived.Test.YtlakiipofcibhaaGreatDoorKrb
import Derived.Test.YtlakiipofcibhaaGreatDoorKrc
import Derived.Test.YtlakiipofcibhaaGreatDoorKrd
set_option linter.unusedVariables false
set_option linter.unusedSimpArgs false
set_option linter.unusedSectionVars false

namespace Go.Proofs.YtlakiipofcibhaaGreatDoor
open Go Sz
set_option maxRecDepth 100000

def krT1_14 : KSpec := .tab 14 [
 ([], krV0)]
theorem krT1_14_ok : KSpecOKX Tryz.prog TabX krT1_14 := KSpec.tab_ok (by
  have E := envOf_okX ssA_ok
  exact List.forall_mem_cons.2 ⟨prim_of E kre1_0 (by kernel_rfl) (by kernel_rfl), fun _ h => nomatch h⟩)
def krT1_73 : KSpec := .tab 73 [
 ([.str [88, 32, 61, 32, 97, 32, 43, 32, 89, 46]], .tuple [.sl [.agg [.int .i64 3, .str [88], .int .i64 0, .bool false, .int .i64 0], .agg [.int .i64 1, .str [61], .int .i64 0, .bool false, .int .i64 2], .agg [.int .i64 1, .str [97], .int .i64 0, .bool false, .int .i64 4], .agg [.int .i64 1, .str [43], .int .i64 0, .bool false, .int .i64 6], .agg [.int .i64 3, .str [89], .int .i64 0, .bool false, .int .i64 8], .agg [.int .i64 6, .str [], .int .i64 0, .bool false, .int .i64 9]], .int .i64 10, .int .i64 0]),
 ([.str [97, 32, 98, 46]], .tuple [.sl [.agg [.int .i64 1, .str [97], .int .i64 0, .bool false, .int .i64 0], .agg [.int .i64 1, .str [98], .int .i64 0, .bool false, .int .i64 2], .agg [.int .i64 6, .str [], .int .i64 0, .bool false, .int .i64 3]], .int .i64 4, .int .i64 0]),
 ([.str [97, 46, 98]], .tuple [.sl [.agg [.int .i64 1, .str [97], .int .i64 0, .bool false, .int .i64 0], .agg [.int .i64 1, .str [46], .int .i64 0, .bool false, .int .i64 1], .agg [.int .i64 1, .str [98], .int .i64 0, .bool false, .int .i64 2]], .int .i64 3, .int .i64 0]),
 ([.str [97, 32, 61, 32, 98, 32, 61, 32, 99, 46]], .tuple [.sl [.agg [.int .i64 1, .str [97], .int .i64 0, .bool false, .int .i64 0], .agg [.int .i64 1, .str [61], .int .i64 0, .bool false, .int .i64 2], .agg [.int .i64 1, .str [98], .int .i64 0, .bool false, .int .i64 4], .agg [.int .i64 1, .str [61], .int .i64 0, .bool false, .int .i64 6], .agg [.int .i64 1, .str [99], .int .i64 0, .bool false, .int .i64 8], .agg [.int .i64 6, .str [], .int .i64 0, .bool false, .int .i64 9]], .int .i64 10, .int .i64 0]),
 ([.str [102, 40, 97, 46]], .tuple [.sl [.agg [.int .i64 1, .str [102], .int .i64 0, .bool true, .int .i64 0], .agg [.int .i64 5, .str [40], .int .i64 0, .bool false, .int .i64 1], .agg [.int .i64 1, .str [97], .int .i64 0, .bool false, .int .i64 2], .agg [.int .i64 6, .str [], .int .i64 0, .bool false, .int .i64 3]], .int .i64 4, .int .i64 0]),
 ([.str [91, 97, 124, 98, 44, 99, 93, 46]], .tuple [.sl [.agg [.int .i64 5, .str [91], .int .i64 0, .bool false, .int .i64 0], .agg [.int .i64 1, .str [97], .int .i64 0, .bool false, .int .i64 1], .agg [.int .i64 5, .str [124], .int .i64 0, .bool false, .int .i64 2], .agg [.int .i64 1, .str [98], .int .i64 0, .bool false, .int .i64 3], .agg [.int .i64 5, .str [44], .int .i64 0, .bool false, .int .i64 4], .agg [.int .i64 1, .str [99], .int .i64 0, .bool false, .int .i64 5], .agg [.int .i64 5, .str [93], .int .i64 0, .bool false, .int .i64 6], .agg [.int .i64 6, .str [], .int .i64 0, .bool false, .int .i64 7]], .int .i64 8, .int .i64 0]),
 ([.str [97, 32, 58, 45, 32, 98, 32, 58, 45, 32, 99, 46]], .tuple [.sl [.agg [.int .i64 1, .str [97], .int .i64 0, .bool false, .int .i64 0], .agg [.int .i64 1, .str [58, 45], .int .i64 0, .bool false, .int .i64 2], .agg [.int .i64 1, .str [98], .int .i64 0, .bool false, .int .i64 5], .agg [.int .i64 1, .str [58, 45], .int .i64 0, .bool false, .int .i64 7], .agg [.int .i64 1, .str [99], .int .i64 0, .bool false, .int .i64 10], .agg [.int .i64 6, .str [], .int .i64 0, .bool false, .int .i64 11]], .int .i64 12, .int .i64 0]),
 ([.str [61, 32, 97, 46]], .tuple [.sl [.agg [.int .i64 1, .str [61], .int .i64 0, .bool false, .int .i64 0], .agg [.int .i64 1, .str [97], .int .i64 0, .bool false, .int .i64 2], .agg [.int .i64 6, .str [], .int .i64 0, .bool false, .int .i64 3]], .int .i64 4, .int .i64 0]),
 ([.str [102, 40, 97, 32, 58, 45, 32, 98, 41, 46]], .tuple [.sl [.agg [.int .i64 1, .str [102], .int .i64 0, .bool true, .int .i64 0], .agg [.int .i64 5, .str [40], .int .i64 0, .bool false, .int .i64 1], .agg [.int .i64 1, .str [97], .int .i64 0, .bool false, .int .i64 2], .agg [.int .i64 1, .str [58, 45], .int .i64 0, .bool false, .int .i64 4], .agg [.int .i64 1, .str [98], .int .i64 0, .bool false, .int .i64 7], .agg [.int .i64 5, .str [41], .int .i64 0, .bool false, .int .i64 8], .agg [.int .i64 6, .str [], .int .i64 0, .bool false, .int .i64 9]], .int .i64 10, .int .i64 0]),
 ([.str [40, 97, 46]], .tuple [.sl [.agg [.int .i64 5, .str [40], .int .i64 0, .bool false, .int .i64 0], .agg [.int .i64 1, .str [97], .int .i64 0, .bool false, .int .i64 1], .agg [.int .i64 6, .str [], .int .i64 0, .bool false, .int .i64 2]], .int .i64 3, .int .i64 0]),
 ([.str [97, 41, 46]], .tuple [.sl [.agg [.int .i64 1, .str [97], .int .i64 0, .bool false, .int .i64 0], .agg [.int .i64 5, .str [41], .int .i64 0, .bool false, .int .i64 1], .agg [.int .i64 6, .str [], .int .i64 0, .bool false, .int .i64 2]], .int .i64 3, .int .i64 0]),
 ([.str [97, 46, 32, 98, 46]], .tuple [.sl [.agg [.int .i64 1, .str [97], .int .i64 0, .bool false, .int .i64 0], .agg [.int .i64 6, .str [], .int .i64 0, .bool false, .int .i64 1], .agg [.int .i64 1, .str [98], .int .i64 0, .bool false, .int .i64 3], .agg [.int .i64 6, .str [], .int .i64 0, .bool false, .int .i64 4]], .int .i64 5, .int .i64 0]),
 ([.str [123, 97, 46]], .tuple [.sl [.agg [.int .i64 5, .str [123], .int .i64 0, .bool false, .int .i64 0], .agg [.int .i64 1, .str [97], .int .i64 0, .bool false, .int .i64 1], .agg [.int .i64 6, .str [], .int .i64 0, .bool false, .int .i64 2]], .int .i64 3, .int .i64 0]),
 ([.str [88, 40, 97, 41, 46]], .tuple [.sl [.agg [.int .i64 3, .str [88], .int .i64 0, .bool true, .int .i64 0], .agg [.int .i64 5, .str [40], .int .i64 0, .bool false, .int .i64 1], .agg [.int .i64 1, .str [97], .int .i64 0, .bool false, .int .i64 2], .agg [.int .i64 5, .str [41], .int .i64 0, .bool false, .int .i64 3], .agg [.int .i64 6, .str [], .int .i64 0, .bool false, .int .i64 4]], .int .i64 5, .int .i64 0]),
 ([.str [102, 40, 41, 46]], .tuple [.sl [.agg [.int .i64 1, .str [102], .int .i64 0, .bool true, .int .i64 0], .agg [.int .i64 5, .str [40], .int .i64 0, .bool false, .int .i64 1], .agg [.int .i64 5, .str [41], .int .i64 0, .bool false, .int .i64 2], .agg [.int .i64 6, .str [], .int .i64 0, .bool false, .int .i64 3]], .int .i64 4, .int .i64 0]),
 ([.str [91, 97, 124, 93, 46]], .tuple [.sl [.agg [.int .i64 5, .str [91], .int .i64 0, .bool false, .int .i64 0], .agg [.int .i64 1, .str [97], .int .i64 0, .bool false, .int .i64 1], .agg [.int .i64 5, .str [124], .int .i64 0, .bool false, .int .i64 2], .agg [.int .i64 5, .str [93], .int .i64 0, .bool false, .int .i64 3], .agg [.int .i64 6, .str [], .int .i64 0, .bool false, .int .i64 4]], .int .i64 5, .int .i64 0]),
 ([.str [44, 32, 46]], .tuple [.sl [.agg [.int .i64 5, .str [44], .int .i64 0, .bool false, .int .i64 0], .agg [.int .i64 6, .str [], .int .i64 0, .bool false, .int .i64 2]], .int .i64 3, .int .i64 0]),
 ([.str [97, 32, 59, 32, 46]], .tuple [.sl [.agg [.int .i64 1, .str [97], .int .i64 0, .bool false, .int .i64 0], .agg [.int .i64 1, .str [59], .int .i64 0, .bool false, .int .i64 2], .agg [.int .i64 6, .str [], .int .i64 0, .bool false, .int .i64 4]], .int .i64 5, .int .i64 0]),
 ([.str [97, 32, 45, 62, 32, 46]], .tuple [.sl [.agg [.int .i64 1, .str [97], .int .i64 0, .bool false, .int .i64 0], .agg [.int .i64 1, .str [45, 62], .int .i64 0, .bool false, .int .i64 2], .agg [.int .i64 6, .str [], .int .i64 0, .bool false, .int .i64 5]], .int .i64 6, .int .i64 0]),
 ([.str [97, 32, 43, 32, 98, 32, 43, 32, 99, 46]], .tuple [.sl [.agg [.int .i64 1, .str [97], .int .i64 0, .bool false, .int .i64 0], .agg [.int .i64 1, .str [43], .int .i64 0, .bool false, .int .i64 2], .agg [.int .i64 1, .str [98], .int .i64 0, .bool false, .int .i64 4], .agg [.int .i64 1, .str [43], .int .i64 0, .bool false, .int .i64 6], .agg [.int .i64 1, .str [99], .int .i64 0, .bool false, .int .i64 8], .agg [.int .i64 6, .str [], .int .i64 0, .bool false, .int .i64 9]], .int .i64 10, .int .i64 0]),
 ([.str [97, 32, 59, 32, 98, 32, 59, 32, 99, 46]], .tuple [.sl [.agg [.int .i64 1, .str [97], .int .i64 0, .bool false, .int .i64 0], .agg [.int .i64 1, .str [59], .int .i64 0, .bool false, .int .i64 2], .agg [.int .i64 1, .str [98], .int .i64 0, .bool false, .int .i64 4], .agg [.int .i64 1, .str [59], .int .i64 0, .bool false, .int .i64 6], .agg [.int .i64 1, .str [99], .int .i64 0, .bool false, .int .i64 8], .agg [.int .i64 6, .str [], .int .i64 0, .bool false, .int .i64 9]], .int .i64 10, .int .i64 0]),
 ([.str [45, 32, 49, 46]], .tuple [.sl [.agg [.int .i64 1, .str [45], .int .i64 0, .bool false, .int .i64 0], .agg [.int .i64 4, .str [], .int .i64 1, .bool false, .int .i64 2], .agg [.int .i64 6, .str [], .int .i64 0, .bool false, .int .i64 3]], .int .i64 4, .int .i64 0]),
 ([.str [45, 49, 46]], .tuple [.sl [.agg [.int .i64 1, .str [45], .int .i64 0, .bool false, .int .i64 0], .agg [.int .i64 4, .str [], .int .i64 1, .bool false, .int .i64 1], .agg [.int .i64 6, .str [], .int .i64 0, .bool false, .int .i64 2]], .int .i64 3, .int .i64 0]),
 ([.str [45, 32, 40, 49, 41, 46]], .tuple [.sl [.agg [.int .i64 1, .str [45], .int .i64 0, .bool false, .int .i64 0], .agg [.int .i64 5, .str [40], .int .i64 0, .bool false, .int .i64 2], .agg [.int .i64 4, .str [], .int .i64 1, .bool false, .int .i64 3], .agg [.int .i64 5, .str [41], .int .i64 0, .bool false, .int .i64 4], .agg [.int .i64 6, .str [], .int .i64 0, .bool false, .int .i64 5]], .int .i64 6, .int .i64 0]),
 ([.str [97, 32, 45, 32, 49, 46]], .tuple [.sl [.agg [.int .i64 1, .str [97], .int .i64 0, .bool false, .int .i64 0], .agg [.int .i64 1, .str [45], .int .i64 0, .bool false, .int .i64 2], .agg [.int .i64 4, .str [], .int .i64 1, .bool false, .int .i64 4], .agg [.int .i64 6, .str [], .int .i64 0, .bool false, .int .i64 5]], .int .i64 6, .int .i64 0]),
 ([.str [97, 32, 45, 49, 46]], .tuple [.sl [.agg [.int .i64 1, .str [97], .int .i64 0, .bool false, .int .i64 0], .agg [.int .i64 1, .str [45], .int .i64 0, .bool false, .int .i64 2], .agg [.int .i64 4, .str [], .int .i64 1, .bool false, .int .i64 3], .agg [.int .i64 6, .str [], .int .i64 0, .bool false, .int .i64 4]], .int .i64 5, .int .i64 0]),
 ([.str [102, 40, 45, 41, 46]], .tuple [.sl [.agg [.int .i64 1, .str [102], .int .i64 0, .bool true, .int .i64 0], .agg [.int .i64 5, .str [40], .int .i64 0, .bool false, .int .i64 1], .agg [.int .i64 1, .str [45], .int .i64 0, .bool false, .int .i64 2], .agg [.int .i64 5, .str [41], .int .i64 0, .bool false, .int .i64 3], .agg [.int .i64 6, .str [], .int .i64 0, .bool false, .int .i64 4]], .int .i64 5, .int .i64 0]),
 ([.str [91, 97, 44, 98, 124, 84, 93, 46]], .tuple [.sl [.agg [.int .i64 5, .str [91], .int .i64 0, .bool false, .int .i64 0], .agg [.int .i64 1, .str [97], .int .i64 0, .bool false, .int .i64 1], .agg [.int .i64 5, .str [44], .int .i64 0, .bool false, .int .i64 2], .agg [.int .i64 1, .str [98], .int .i64 0, .bool false, .int .i64 3], .agg [.int .i64 5, .str [124], .int .i64 0, .bool false, .int .i64 4], .agg [.int .i64 3, .str [84], .int .i64 0, .bool false, .int .i64 5], .agg [.int .i64 5, .str [93], .int .i64 0, .bool false, .int .i64 6], .agg [.int .i64 6, .str [], .int .i64 0, .bool false, .int .i64 7]], .int .i64 8, .int .i64 0]),
 ([.str [123, 97, 44, 98, 125, 46]], .tuple [.sl [.agg [.int .i64 5, .str [123], .int .i64 0, .bool false, .int .i64 0], .agg [.int .i64 1, .str [97], .int .i64 0, .bool false, .int .i64 1], .agg [.int .i64 5, .str [44], .int .i64 0, .bool false, .int .i64 2], .agg [.int .i64 1, .str [98], .int .i64 0, .bool false, .int .i64 3], .agg [.int .i64 5, .str [125], .int .i64 0, .bool false, .int .i64 4], .agg [.int .i64 6, .str [], .int .i64 0, .bool false, .int .i64 5]], .int .i64 6, .int .i64 0]),
 ([.str [92, 43, 32, 97, 32, 61, 32, 98, 46]], .tuple [.sl [.agg [.int .i64 1, .str [92, 43], .int .i64 0, .bool false, .int .i64 0], .agg [.int .i64 1, .str [97], .int .i64 0, .bool false, .int .i64 3], .agg [.int .i64 1, .str [61], .int .i64 0, .bool false, .int .i64 5], .agg [.int .i64 1, .str [98], .int .i64 0, .bool false, .int .i64 7], .agg [.int .i64 6, .str [], .int .i64 0, .bool false, .int .i64 8]], .int .i64 9, .int .i64 0]),
 ([.str [45, 32, 45, 32, 97, 46]], .tuple [.sl [.agg [.int .i64 1, .str [45], .int .i64 0, .bool false, .int .i64 0], .agg [.int .i64 1, .str [45], .int .i64 0, .bool false, .int .i64 2], .agg [.int .i64 1, .str [97], .int .i64 0, .bool false, .int .i64 4], .agg [.int .i64 6, .str [], .int .i64 0, .bool false, .int .i64 5]], .int .i64 6, .int .i64 0]),
 ([.str [102, 40, 97, 44, 32, 40, 98, 32, 58, 45, 32, 99, 41, 41, 46]], .tuple [.sl [.agg [.int .i64 1, .str [102], .int .i64 0, .bool true, .int .i64 0], .agg [.int .i64 5, .str [40], .int .i64 0, .bool false, .int .i64 1], .agg [.int .i64 1, .str [97], .int .i64 0, .bool false, .int .i64 2], .agg [.int .i64 5, .str [44], .int .i64 0, .bool false, .int .i64 3], .agg [.int .i64 5, .str [40], .int .i64 0, .bool false, .int .i64 5], .agg [.int .i64 1, .str [98], .int .i64 0, .bool false, .int .i64 6], .agg [.int .i64 1, .str [58, 45], .int .i64 0, .bool false, .int .i64 8], .agg [.int .i64 1, .str [99], .int .i64 0, .bool false, .int .i64 11], .agg [.int .i64 5, .str [41], .int .i64 0, .bool false, .int .i64 12], .agg [.int .i64 5, .str [41], .int .i64 0, .bool false, .int .i64 13], .agg [.int .i64 6, .str [], .int .i64 0, .bool false, .int .i64 14]], .int .i64 15, .int .i64 0]),
 ([.str [39, 43, 39, 40, 49, 44, 50, 41, 46]], .tuple [.sl [.agg [.int .i64 2, .str [43], .int .i64 0, .bool true, .int .i64 0], .agg [.int .i64 5, .str [40], .int .i64 0, .bool false, .int .i64 3], .agg [.int .i64 4, .str [], .int .i64 1, .bool false, .int .i64 4], .agg [.int .i64 5, .str [44], .int .i64 0, .bool false, .int .i64 5], .agg [.int .i64 4, .str [], .int .i64 2, .bool false, .int .i64 6], .agg [.int .i64 5, .str [41], .int .i64 0, .bool false, .int .i64 7], .agg [.int .i64 6, .str [], .int .i64 0, .bool false, .int .i64 8]], .int .i64 9, .int .i64 0]),
 ([.str [97, 58, 45, 98, 44, 99, 59, 100, 45, 62, 101, 46]], .tuple [.sl [.agg [.int .i64 1, .str [97], .int .i64 0, .bool false, .int .i64 0], .agg [.int .i64 1, .str [58, 45], .int .i64 0, .bool false, .int .i64 1], .agg [.int .i64 1, .str [98], .int .i64 0, .bool false, .int .i64 3], .agg [.int .i64 5, .str [44], .int .i64 0, .bool false, .int .i64 4], .agg [.int .i64 1, .str [99], .int .i64 0, .bool false, .int .i64 5], .agg [.int .i64 1, .str [59], .int .i64 0, .bool false, .int .i64 6], .agg [.int .i64 1, .str [100], .int .i64 0, .bool false, .int .i64 7], .agg [.int .i64 1, .str [45, 62], .int .i64 0, .bool false, .int .i64 8], .agg [.int .i64 1, .str [101], .int .i64 0, .bool false, .int .i64 10], .agg [.int .i64 6, .str [], .int .i64 0, .bool false, .int .i64 11]], .int .i64 12, .int .i64 0]),
 ([.str [88, 32, 61, 32, 39, 61, 39, 46]], .tuple [.sl [.agg [.int .i64 3, .str [88], .int .i64 0, .bool false, .int .i64 0], .agg [.int .i64 1, .str [61], .int .i64 0, .bool false, .int .i64 2], .agg [.int .i64 2, .str [61], .int .i64 0, .bool false, .int .i64 4], .agg [.int .i64 6, .str [], .int .i64 0, .bool false, .int .i64 7]], .int .i64 8, .int .i64 0]),
 ([.str [91, 93, 46]], .tuple [.sl [.agg [.int .i64 1, .str [91, 93], .int .i64 0, .bool false, .int .i64 0], .agg [.int .i64 6, .str [], .int .i64 0, .bool false, .int .i64 2]], .int .i64 3, .int .i64 0]),
 ([.str [102, 40, 43, 41, 46]], .tuple [.sl [.agg [.int .i64 1, .str [102], .int .i64 0, .bool true, .int .i64 0], .agg [.int .i64 5, .str [40], .int .i64 0, .bool false, .int .i64 1], .agg [.int .i64 1, .str [43], .int .i64 0, .bool false, .int .i64 2], .agg [.int .i64 5, .str [41], .int .i64 0, .bool false, .int .i64 3], .agg [.int .i64 6, .str [], .int .i64 0, .bool false, .int .i64 4]], .int .i64 5, .int .i64 0]),
 ([.str [45, 32, 97, 32, 42, 32, 98, 46]], .tuple [.sl [.agg [.int .i64 1, .str [45], .int .i64 0, .bool false, .int .i64 0], .agg [.int .i64 1, .str [97], .int .i64 0, .bool false, .int .i64 2], .agg [.int .i64 1, .str [42], .int .i64 0, .bool false, .int .i64 4], .agg [.int .i64 1, .str [98], .int .i64 0, .bool false, .int .i64 6], .agg [.int .i64 6, .str [], .int .i64 0, .bool false, .int .i64 7]], .int .i64 8, .int .i64 0]),
 ([.str [91, 45, 93, 46]], .tuple [.sl [.agg [.int .i64 5, .str [91], .int .i64 0, .bool false, .int .i64 0], .agg [.int .i64 1, .str [45], .int .i64 0, .bool false, .int .i64 1], .agg [.int .i64 5, .str [93], .int .i64 0, .bool false, .int .i64 2], .agg [.int .i64 6, .str [], .int .i64 0, .bool false, .int .i64 3]], .int .i64 4, .int .i64 0]),
 ([.str [45, 40, 49, 44, 50, 41, 46]], .tuple [.sl [.agg [.int .i64 1, .str [45], .int .i64 0, .bool true, .int .i64 0], .agg [.int .i64 5, .str [40], .int .i64 0, .bool false, .int .i64 1], .agg [.int .i64 4, .str [], .int .i64 1, .bool false, .int .i64 2], .agg [.int .i64 5, .str [44], .int .i64 0, .bool false, .int .i64 3], .agg [.int .i64 4, .str [], .int .i64 2, .bool false, .int .i64 4], .agg [.int .i64 5, .str [41], .int .i64 0, .bool false, .int .i64 5], .agg [.int .i64 6, .str [], .int .i64 0, .bool false, .int .i64 6]], .int .i64 7, .int .i64 0]),
 ([.str [95, 32, 61, 32, 95, 46]], .tuple [.sl [.agg [.int .i64 3, .str [95], .int .i64 0, .bool false, .int .i64 0], .agg [.int .i64 1, .str [61], .int .i64 0, .bool false, .int .i64 2], .agg [.int .i64 3, .str [95], .int .i64 0, .bool false, .int .i64 4], .agg [.int .i64 6, .str [], .int .i64 0, .bool false, .int .i64 5]], .int .i64 6, .int .i64 0]),
 ([.str [50, 32, 45, 32, 45, 49, 46]], .tuple [.sl [.agg [.int .i64 4, .str [], .int .i64 2, .bool false, .int .i64 0], .agg [.int .i64 1, .str [45], .int .i64 0, .bool false, .int .i64 2], .agg [.int .i64 1, .str [45], .int .i64 0, .bool false, .int .i64 4], .agg [.int .i64 4, .str [], .int .i64 1, .bool false, .int .i64 5], .agg [.int .i64 6, .str [], .int .i64 0, .bool false, .int .i64 6]], .int .i64 7, .int .i64 0]),
 ([.str [97, 32, 105, 115, 32, 98, 32, 109, 111, 100, 32, 99, 46]], .tuple [.sl [.agg [.int .i64 1, .str [97], .int .i64 0, .bool false, .int .i64 0], .agg [.int .i64 1, .str [105, 115], .int .i64 0, .bool false, .int .i64 2], .agg [.int .i64 1, .str [98], .int .i64 0, .bool false, .int .i64 5], .agg [.int .i64 1, .str [109, 111, 100], .int .i64 0, .bool false, .int .i64 7], .agg [.int .i64 1, .str [99], .int .i64 0, .bool false, .int .i64 11], .agg [.int .i64 6, .str [], .int .i64 0, .bool false, .int .i64 12]], .int .i64 13, .int .i64 0]),
 ([.str [112, 40, 88, 41, 46, 32, 113, 40, 89, 44, 32, 88, 41, 32, 58, 45, 32, 114, 46]], .tuple [.sl [.agg [.int .i64 1, .str [112], .int .i64 0, .bool true, .int .i64 0], .agg [.int .i64 5, .str [40], .int .i64 0, .bool false, .int .i64 1], .agg [.int .i64 3, .str [88], .int .i64 0, .bool false, .int .i64 2], .agg [.int .i64 5, .str [41], .int .i64 0, .bool false, .int .i64 3], .agg [.int .i64 6, .str [], .int .i64 0, .bool false, .int .i64 4], .agg [.int .i64 1, .str [113], .int .i64 0, .bool true, .int .i64 6], .agg [.int .i64 5, .str [40], .int .i64 0, .bool false, .int .i64 7], .agg [.int .i64 3, .str [89], .int .i64 0, .bool false, .int .i64 8], .agg [.int .i64 5, .str [44], .int .i64 0, .bool false, .int .i64 9], .agg [.int .i64 3, .str [88], .int .i64 0, .bool false, .int .i64 11], .agg [.int .i64 5, .str [41], .int .i64 0, .bool false, .int .i64 12], .agg [.int .i64 1, .str [58, 45], .int .i64 0, .bool false, .int .i64 14], .agg [.int .i64 1, .str [114], .int .i64 0, .bool false, .int .i64 17], .agg [.int .i64 6, .str [], .int .i64 0, .bool false, .int .i64 18]], .int .i64 19, .int .i64 0]),
 ([.str [32, 37, 32, 110, 111, 116, 104, 105, 110, 103]], .tuple [.nils, .int .i64 10, .int .i64 0]),
 ([.str [112, 46, 32, 113]], .tuple [.sl [.agg [.int .i64 1, .str [112], .int .i64 0, .bool false, .int .i64 0], .agg [.int .i64 6, .str [], .int .i64 0, .bool false, .int .i64 1], .agg [.int .i64 1, .str [113], .int .i64 0, .bool false, .int .i64 3]], .int .i64 4, .int .i64 0])]
theorem krT1_73_ok : KSpecOKX Tryz.prog TabX krT1_73 := KSpec.tab_ok (by
  have E := envOf_okX ssA_ok
  exact List.forall_mem_cons.2 ⟨prim_of E kre1_1 (by kernel_rfl) (by kernel_rfl), List.forall_mem_cons.2 ⟨prim_of E kre1_6 (by kernel_rfl) (by kernel_rfl), List.forall_mem_cons.2 ⟨prim_of E kre1_7 (by kernel_rfl) (by kernel_rfl), List.forall_mem_cons.2 ⟨prim_of E kre1_8 (by kernel_rfl) (by kernel_rfl), List.forall_mem_cons.2 ⟨prim_of E kre1_9 (by kernel_rfl) (by kernel_rfl), List.forall_mem_cons.2 ⟨prim_of E kre1_10 (by kernel_rfl) (by kernel_rfl), List.forall_mem_cons.2 ⟨prim_of E kre1_11 (by kernel_rfl) (by kernel_rfl), List.forall_mem_cons.2 ⟨prim_of E kre1_12 (by kernel_rfl) (by kernel_rfl), List.forall_mem_cons.2 ⟨prim_of E kre1_13 (by kernel_rfl) (by kernel_rfl), List.forall_mem_cons.2 ⟨prim_of E kre1_14 (by kernel_rfl) (by kernel_rfl), List.forall_mem_cons.2 ⟨prim_of E kre1_15 (by kernel_rfl) (by kernel_rfl), List.forall_mem_cons.2 ⟨prim_of E kre1_16 (by kernel_rfl) (by kernel_rfl), List.forall_mem_cons.2 ⟨prim_of E kre1_17 (by kernel_rfl) (by kernel_rfl), List.forall_mem_cons.2 ⟨prim_of E kre1_18 (by kernel_rfl) (by kernel_rfl), List.forall_mem_cons.2 ⟨prim_of E kre1_19 (by kernel_rfl) (by kernel_rfl), List.forall_mem_cons.2 ⟨prim_of E kre1_20 (by kernel_rfl) (by kernel_rfl), List.forall_mem_cons.2 ⟨prim_of E kre1_21 (by kernel_rfl) (by kernel_rfl), List.forall_mem_cons.2 ⟨prim_of E kre1_22 (by kernel_rfl) (by kernel_rfl), List.forall_mem_cons.2 ⟨prim_of E kre1_23 (by kernel_rfl) (by kernel_rfl), List.forall_mem_cons.2 ⟨prim_of E kre1_24 (by kernel_rfl) (by kernel_rfl), List.forall_mem_cons.2 ⟨prim_of E kre1_26 (by kernel_rfl) (by kernel_rfl), List.forall_mem_cons.2 ⟨prim_of E kre1_28 (by kernel_rfl) (by kernel_rfl), List.forall_mem_cons.2 ⟨prim_of E kre1_30 (by kernel_rfl) (by kernel_rfl), List.forall_mem_cons.2 ⟨prim_of E kre1_31 (by kernel_rfl) (by kernel_rfl), List.forall_mem_cons.2 ⟨prim_of E kre1_32 (by kernel_rfl) (by kernel_rfl), List.forall_mem_cons.2 ⟨prim_of E kre1_34 (by kernel_rfl) (by kernel_rfl), List.forall_mem_cons.2 ⟨prim_of E kre1_35 (by kernel_rfl) (by kernel_rfl), List.forall_mem_cons.2 ⟨prim_of E kre1_37 (by kernel_rfl) (by kernel_rfl), List.forall_mem_cons.2 ⟨prim_of E kre1_39 (by kernel_rfl) (by kernel_rfl), List.forall_mem_cons.2 ⟨prim_of E kre1_42 (by kernel_rfl) (by kernel_rfl), List.forall_mem_cons.2 ⟨prim_of E kre1_45 (by kernel_rfl) (by kernel_rfl), List.forall_mem_cons.2 ⟨prim_of E kre1_47 (by kernel_rfl) (by kernel_rfl), List.forall_mem_cons.2 ⟨prim_of E kre1_50 (by kernel_rfl) (by kernel_rfl), List.forall_mem_cons.2 ⟨prim_of E kre1_52 (by kernel_rfl) (by kernel_rfl), List.forall_mem_cons.2 ⟨prim_of E kre1_57 (by kernel_rfl) (by kernel_rfl), List.forall_mem_cons.2 ⟨prim_of E kre1_59 (by kernel_rfl) (by kernel_rfl), List.forall_mem_cons.2 ⟨prim_of E kre1_61 (by kernel_rfl) (by kernel_rfl), List.forall_mem_cons.2 ⟨prim_of E kre1_63 (by kernel_rfl) (by kernel_rfl), List.forall_mem_cons.2 ⟨prim_of E kre1_66 (by kernel_rfl) (by kernel_rfl), List.forall_mem_cons.2 ⟨prim_of E kre1_68 (by kernel_rfl) (by kernel_rfl), List.forall_mem_cons.2 ⟨prim_of E kre1_70 (by kernel_rfl) (by kernel_rfl), List.forall_mem_cons.2 ⟨prim_of E kre1_72 (by kernel_rfl) (by kernel_rfl), List.forall_mem_cons.2 ⟨prim_of E kre1_74 (by kernel_rfl) (by kernel_rfl), List.forall_mem_cons.2 ⟨prim_of E kre1_76 (by kernel_rfl) (by kernel_rfl), List.forall_mem_cons.2 ⟨prim_of E kre1_77 (by kernel_rfl) (by kernel_rfl), List.forall_mem_cons.2 ⟨prim_of E kre1_78 (by kernel_rfl) (by kernel_rfl), fun _ h => nomatch h⟩⟩⟩⟩⟩⟩⟩⟩⟩⟩⟩⟩⟩⟩⟩⟩⟩⟩⟩⟩⟩⟩⟩⟩⟩⟩⟩⟩⟩⟩⟩⟩⟩⟩⟩⟩⟩⟩⟩⟩⟩⟩⟩⟩⟩⟩)
def krT1_95 : KSpec := .tab 95 [
 ([.agg [.int .i64 2, .int .i64 0, .str [61], .sl [.agg [.int .i64 0, .int .i64 0, .str [], .nils], .agg [.int .i64 2, .int .i64 0, .str [43], .sl [.agg [.int .i64 2, .int .i64 0, .str [97], .nils], .agg [.int .i64 0, .int .i64 1, .str [], .nils]]]]]], .bool true),
 ([.agg [.int .i64 2, .int .i64 0, .str [43], .sl [.agg [.int .i64 2, .int .i64 0, .str [43], .sl [.agg [.int .i64 2, .int .i64 0, .str [97], .nils], .agg [.int .i64 2, .int .i64 0, .str [98], .nils]]], .agg [.int .i64 2, .int .i64 0, .str [99], .nils]]]], .bool true),
 ([.agg [.int .i64 2, .int .i64 0, .str [59], .sl [.agg [.int .i64 2, .int .i64 0, .str [97], .nils], .agg [.int .i64 2, .int .i64 0, .str [59], .sl [.agg [.int .i64 2, .int .i64 0, .str [98], .nils], .agg [.int .i64 2, .int .i64 0, .str [99], .nils]]]]]], .bool true),
 ([.agg [.int .i64 2, .int .i64 0, .str [46], .sl [.agg [.int .i64 2, .int .i64 0, .str [97], .nils], .agg [.int .i64 2, .int .i64 0, .str [46], .sl [.agg [.int .i64 2, .int .i64 0, .str [98], .nils], .agg [.int .i64 0, .int .i64 0, .str [], .nils]]]]]], .bool true),
 ([.agg [.int .i64 2, .int .i64 0, .str [123, 125], .sl [.agg [.int .i64 2, .int .i64 0, .str [44], .sl [.agg [.int .i64 2, .int .i64 0, .str [97], .nils], .agg [.int .i64 2, .int .i64 0, .str [98], .nils]]]]]], .bool true),
 ([.agg [.int .i64 2, .int .i64 0, .str [92, 43], .sl [.agg [.int .i64 2, .int .i64 0, .str [61], .sl [.agg [.int .i64 2, .int .i64 0, .str [97], .nils], .agg [.int .i64 2, .int .i64 0, .str [98], .nils]]]]]], .bool true),
 ([.agg [.int .i64 2, .int .i64 0, .str [102], .sl [.agg [.int .i64 2, .int .i64 0, .str [97], .nils], .agg [.int .i64 2, .int .i64 0, .str [58, 45], .sl [.agg [.int .i64 2, .int .i64 0, .str [98], .nils], .agg [.int .i64 2, .int .i64 0, .str [99], .nils]]]]]], .bool true),
 ([.agg [.int .i64 2, .int .i64 0, .str [59], .sl [.agg [.int .i64 2, .int .i64 0, .str [44], .sl [.agg [.int .i64 2, .int .i64 0, .str [98], .nils], .agg [.int .i64 2, .int .i64 0, .str [99], .nils]]], .agg [.int .i64 2, .int .i64 0, .str [45, 62], .sl [.agg [.int .i64 2, .int .i64 0, .str [100], .nils], .agg [.int .i64 2, .int .i64 0, .str [101], .nils]]]]]], .bool true),
 ([.agg [.int .i64 2, .int .i64 0, .str [42], .sl [.agg [.int .i64 2, .int .i64 0, .str [45], .sl [.agg [.int .i64 2, .int .i64 0, .str [97], .nils]]], .agg [.int .i64 2, .int .i64 0, .str [98], .nils]]]], .bool true),
 ([.agg [.int .i64 2, .int .i64 0, .str [105, 115], .sl [.agg [.int .i64 2, .int .i64 0, .str [97], .nils], .agg [.int .i64 2, .int .i64 0, .str [109, 111, 100], .sl [.agg [.int .i64 2, .int .i64 0, .str [98], .nils], .agg [.int .i64 2, .int .i64 0, .str [99], .nils]]]]]], .bool true)]
theorem krT1_95_ok : KSpecOKX Tryz.prog TabX krT1_95 := KSpec.tab_ok (by
  have E := envOf_okX ssA_ok
  exact List.forall_mem_cons.2 ⟨prim_of E kre1_2 (by kernel_rfl) (by kernel_rfl), List.forall_mem_cons.2 ⟨prim_of E kre1_25 (by kernel_rfl) (by kernel_rfl), List.forall_mem_cons.2 ⟨prim_of E kre1_27 (by kernel_rfl) (by kernel_rfl), List.forall_mem_cons.2 ⟨prim_of E kre1_38 (by kernel_rfl) (by kernel_rfl), List.forall_mem_cons.2 ⟨prim_of E kre1_40 (by kernel_rfl) (by kernel_rfl), List.forall_mem_cons.2 ⟨prim_of E kre1_43 (by kernel_rfl) (by kernel_rfl), List.forall_mem_cons.2 ⟨prim_of E kre1_48 (by kernel_rfl) (by kernel_rfl), List.forall_mem_cons.2 ⟨prim_of E kre1_55 (by kernel_rfl) (by kernel_rfl), List.forall_mem_cons.2 ⟨prim_of E kre1_64 (by kernel_rfl) (by kernel_rfl), List.forall_mem_cons.2 ⟨prim_of E kre1_75 (by kernel_rfl) (by kernel_rfl), fun _ h => nomatch h⟩⟩⟩⟩⟩⟩⟩⟩⟩⟩)
def krT1_167 : KSpec := .tab 167 [
 ([.str [61], .int .i64 0], .tuple [.agg [.int .i64 1, .str [61], .int .i64 0, .bool false, .int .i64 0], .int .i64 1, .int .i64 0]),
 ([.str [92, 43], .int .i64 0], .tuple [.agg [.int .i64 1, .str [92, 43], .int .i64 0, .bool false, .int .i64 0], .int .i64 2, .int .i64 0]),
 ([.str [58, 45], .int .i64 0], .tuple [.agg [.int .i64 1, .str [58, 45], .int .i64 0, .bool false, .int .i64 0], .int .i64 2, .int .i64 0]),
 ([.str [45, 62], .int .i64 0], .tuple [.agg [.int .i64 1, .str [45, 62], .int .i64 0, .bool false, .int .i64 0], .int .i64 2, .int .i64 0]),
 ([.str [42], .int .i64 0], .tuple [.agg [.int .i64 1, .str [42], .int .i64 0, .bool false, .int .i64 0], .int .i64 1, .int .i64 0])]
theorem krT1_167_ok : KSpecOKX Tryz.prog TabX krT1_167 := KSpec.tab_ok (by
  have E := envOf_okX ssA_ok
  exact List.forall_mem_cons.2 ⟨prim_of E kre1_3 (by kernel_rfl) (by kernel_rfl), List.forall_mem_cons.2 ⟨prim_of E kre1_44 (by kernel_rfl) (by kernel_rfl), List.forall_mem_cons.2 ⟨prim_of E kre1_49 (by kernel_rfl) (by kernel_rfl), List.forall_mem_cons.2 ⟨prim_of E kre1_56 (by kernel_rfl) (by kernel_rfl), List.forall_mem_cons.2 ⟨prim_of E kre1_65 (by kernel_rfl) (by kernel_rfl), fun _ h => nomatch h⟩⟩⟩⟩⟩)
def krT1_152 : KSpec := .tab 152 [
 ([.str [43]], .tuple [.sl [.agg [.int .i64 1, .str [43], .int .i64 0, .bool false, .int .i64 0]], .int .i64 1, .int .i64 0]),
 ([.str [45]], .tuple [.sl [.agg [.int .i64 1, .str [45], .int .i64 0, .bool false, .int .i64 0]], .int .i64 1, .int .i64 0])]
theorem krT1_152_ok : KSpecOKX Tryz.prog TabX krT1_152 := KSpec.tab_ok (by
  have E := envOf_okX ssA_ok
  exact List.forall_mem_cons.2 ⟨prim_of E kre1_4 (by kernel_rfl) (by kernel_rfl), List.forall_mem_cons.2 ⟨prim_of E kre1_29 (by kernel_rfl) (by kernel_rfl), fun _ h => nomatch h⟩⟩)
def krT1_12 : KSpec := .tab 12 [
 ([krV0, .str [97]], .tuple [.agg [.int .i64 0, .int .i64 0, .str [], .nils], .nils, .int .i64 2])]
theorem krT1_12_ok : KSpecOKX Tryz.prog TabX krT1_12 := KSpec.tab_ok (by
  have E := envOf_okX ssA_ok
  exact List.forall_mem_cons.2 ⟨prim_of E kre1_5 (by kernel_rfl) (by kernel_rfl), fun _ h => nomatch h⟩)
def krT1_66 : KSpec := .tab 66 [
 ([.agg [.int .i64 2, .int .i64 0, .str [45], .sl [.agg [.int .i64 2, .int .i64 0, .str [97], .nils], .agg [.int .i64 1, .int .i64 1, .str [], .nils]]]], .bool true),
 ([.agg [.int .i64 2, .int .i64 0, .str [45], .sl [.agg [.int .i64 2, .int .i64 0, .str [45], .sl [.agg [.int .i64 2, .int .i64 0, .str [97], .nils]]]]]], .bool true),
 ([.agg [.int .i64 2, .int .i64 0, .str [43], .sl [.agg [.int .i64 1, .int .i64 1, .str [], .nils], .agg [.int .i64 1, .int .i64 2, .str [], .nils]]]], .bool true),
 ([.agg [.int .i64 2, .int .i64 0, .str [61], .sl [.agg [.int .i64 0, .int .i64 0, .str [], .nils], .agg [.int .i64 2, .int .i64 0, .str [61], .nils]]]], .bool true),
 ([.agg [.int .i64 2, .int .i64 0, .str [46], .sl [.agg [.int .i64 2, .int .i64 0, .str [45], .nils], .agg [.int .i64 2, .int .i64 0, .str [91, 93], .nils]]]], .bool true),
 ([.agg [.int .i64 2, .int .i64 0, .str [45], .sl [.agg [.int .i64 1, .int .i64 1, .str [], .nils], .agg [.int .i64 1, .int .i64 2, .str [], .nils]]]], .bool true),
 ([.agg [.int .i64 2, .int .i64 0, .str [61], .sl [.agg [.int .i64 0, .int .i64 0, .str [], .nils], .agg [.int .i64 0, .int .i64 1, .str [], .nils]]]], .bool true),
 ([.agg [.int .i64 2, .int .i64 0, .str [45], .sl [.agg [.int .i64 1, .int .i64 2, .str [], .nils], .agg [.int .i64 1, .int .i64 (-1), .str [], .nils]]]], .bool true)]
theorem krT1_66_ok : KSpecOKX Tryz.prog TabX krT1_66 := KSpec.tab_ok (by
  have E := envOf_okX ssA_ok
  exact List.forall_mem_cons.2 ⟨prim_of E kre1_33 (by kernel_rfl) (by kernel_rfl), List.forall_mem_cons.2 ⟨prim_of E kre1_46 (by kernel_rfl) (by kernel_rfl), List.forall_mem_cons.2 ⟨prim_of E kre1_51 (by kernel_rfl) (by kernel_rfl), List.forall_mem_cons.2 ⟨prim_of E kre1_58 (by kernel_rfl) (by kernel_rfl), List.forall_mem_cons.2 ⟨prim_of E kre1_67 (by kernel_rfl) (by kernel_rfl), List.forall_mem_cons.2 ⟨prim_of E kre1_69 (by kernel_rfl) (by kernel_rfl), List.forall_mem_cons.2 ⟨prim_of E kre1_71 (by kernel_rfl) (by kernel_rfl), List.forall_mem_cons.2 ⟨prim_of E kre1_73 (by kernel_rfl) (by kernel_rfl), fun _ h => nomatch h⟩⟩⟩⟩⟩⟩⟩⟩)
def krT1_70 : KSpec := .tab 70 [
 ([.agg [.int .i64 2, .int .i64 0, .str [102], .sl [.agg [.int .i64 2, .int .i64 0, .str [45], .nils]]]], .nils),
 ([.agg [.int .i64 2, .int .i64 0, .str [102], .sl [.agg [.int .i64 2, .int .i64 0, .str [43], .nils]]]], .nils)]
theorem krT1_70_ok : KSpecOKX Tryz.prog TabX krT1_70 := KSpec.tab_ok (by
  have E := envOf_okX ssA_ok
  exact List.forall_mem_cons.2 ⟨prim_of E kre1_36 (by kernel_rfl) (by kernel_rfl), List.forall_mem_cons.2 ⟨prim_of E kre1_62 (by kernel_rfl) (by kernel_rfl), fun _ h => nomatch h⟩⟩)
def krT1_98 : KSpec := .tab 98 [
 ([.str [44]], .str [39, 44, 39])]
theorem krT1_98_ok : KSpecOKX Tryz.prog TabX krT1_98 := KSpec.tab_ok (by
  have E := envOf_okX ssA_ok
  exact List.forall_mem_cons.2 ⟨prim_of E kre1_41 (by kernel_rfl) (by kernel_rfl), fun _ h => nomatch h⟩)
def krT1_41 : KSpec := .tab 41 [
 ([.agg [.int .i64 2, .int .i64 0, .str [58, 45], .sl [.agg [.int .i64 2, .int .i64 0, .str [97], .nils], .agg [.int .i64 2, .int .i64 0, .str [59], .sl [.agg [.int .i64 2, .int .i64 0, .str [44], .sl [.agg [.int .i64 2, .int .i64 0, .str [98], .nils], .agg [.int .i64 2, .int .i64 0, .str [99], .nils]]], .agg [.int .i64 2, .int .i64 0, .str [45, 62], .sl [.agg [.int .i64 2, .int .i64 0, .str [100], .nils], .agg [.int .i64 2, .int .i64 0, .str [101], .nils]]]]]]]], .agg [.int .i64 2, .int .i64 0, .str [58, 45], .sl [.agg [.int .i64 2, .int .i64 0, .str [97], .nils], .agg [.int .i64 2, .int .i64 0, .str [59], .sl [.agg [.int .i64 2, .int .i64 0, .str [44], .sl [.agg [.int .i64 2, .int .i64 0, .str [98], .nils], .agg [.int .i64 2, .int .i64 0, .str [99], .nils]]], .agg [.int .i64 2, .int .i64 0, .str [45, 62], .sl [.agg [.int .i64 2, .int .i64 0, .str [100], .nils], .agg [.int .i64 2, .int .i64 0, .str [101], .nils]]]]]]])]
theorem krT1_41_ok : KSpecOKX Tryz.prog TabX krT1_41 := KSpec.tab_ok (by
  have E := envOf_okX ssA_ok
  exact List.forall_mem_cons.2 ⟨prim_of E kre1_53 (by kernel_rfl) (by kernel_rfl), fun _ h => nomatch h⟩)
def krT1_93 : KSpec := .tab 93 [
 ([.agg [.int .i64 2, .int .i64 0, .str [58, 45], .sl [.agg [.int .i64 2, .int .i64 0, .str [97], .nils], .agg [.int .i64 2, .int .i64 0, .str [59], .sl [.agg [.int .i64 2, .int .i64 0, .str [44], .sl [.agg [.int .i64 2, .int .i64 0, .str [98], .nils], .agg [.int .i64 2, .int .i64 0, .str [99], .nils]]], .agg [.int .i64 2, .int .i64 0, .str [45, 62], .sl [.agg [.int .i64 2, .int .i64 0, .str [100], .nils], .agg [.int .i64 2, .int .i64 0, .str [101], .nils]]]]]]], .int .i64 2000], .int .i64 9)]
theorem krT1_93_ok : KSpecOKX Tryz.prog TabX krT1_93 := KSpec.tab_ok (by
  have E := envOf_okX ssA_ok
  exact List.forall_mem_cons.2 ⟨prim_of E kre1_54 (by kernel_rfl) (by kernel_rfl), fun _ h => nomatch h⟩)
def krT1_40 : KSpec := .tab 40 [
 ([.agg [.int .i64 2, .int .i64 0, .str [91, 93], .nils]], .tuple [.str [91, 93], .int .i64 0])]
theorem krT1_40_ok : KSpecOKX Tryz.prog TabX krT1_40 := KSpec.tab_ok (by
  have E := envOf_okX ssA_ok
  exact List.forall_mem_cons.2 ⟨prim_of E kre1_60 (by kernel_rfl) (by kernel_rfl), fun _ h => nomatch h⟩)
def krT1_18 : KSpec := .tab 18 [
 ([.agg [.int .i64 2, .int .i64 0, .str [58, 45], .sl [.agg [.int .i64 2, .int .i64 0, .str [113], .sl [.agg [.int .i64 0, .int .i64 0, .str [], .nils], .agg [.int .i64 0, .int .i64 1, .str [], .nils]]], .agg [.int .i64 2, .int .i64 0, .str [114], .nils]]]], .sl [.int .i64 0, .int .i64 1])]
theorem krT1_18_ok : KSpecOKX Tryz.prog TabX krT1_18 := KSpec.tab_ok (by
  have E := envOf_okX ssA_ok
  exact List.forall_mem_cons.2 ⟨prim_of E kre1_79 (by kernel_rfl) (by kernel_rfl), fun _ h => nomatch h⟩)
def krS1 : List KSpec := [krT1_14, krT1_73, krT1_95, krT1_167, krT1_152, krT1_12, krT1_66, krT1_70, krT1_98, krT1_41, krT1_93, krT1_40, krT1_18] ++ ssA
theorem krS1_ok : ∀ s ∈ krS1, KSpecOKX Tryz.prog TabX s := fun s hs => by
  rcases List.mem_append.1 hs with h | h
  · revert s
    exact fun s _ h => (show ∀ s ∈ [krT1_14, krT1_73, krT1_95, krT1_167, krT1_152, krT1_12, krT1_66, krT1_70, krT1_98, krT1_41, krT1_93, krT1_40, krT1_18], KSpecOKX Tryz.prog TabX s from List.forall_mem_cons.2 ⟨krT1_14_ok, List.forall_mem_cons.2 ⟨krT1_73_ok, List.forall_mem_cons.2 ⟨krT1_95_ok, List.forall_mem_cons.2 ⟨krT1_167_ok, List.forall_mem_cons.2 ⟨krT1_152_ok, List.forall_mem_cons.2 ⟨krT1_12_ok, List.forall_mem_cons.2 ⟨krT1_66_ok, List.forall_mem_cons.2 ⟨krT1_70_ok, List.forall_mem_cons.2 ⟨krT1_98_ok, List.forall_mem_cons.2 ⟨krT1_41_ok, List.forall_mem_cons.2 ⟨krT1_93_ok, List.forall_mem_cons.2 ⟨krT1_40_ok, List.forall_mem_cons.2 ⟨krT1_18_ok, fun _ h => nomatch h⟩⟩⟩⟩⟩⟩⟩⟩⟩⟩⟩⟩⟩) s h
  · exact ssA_ok s h

end Go.Proofs.YtlakiipofcibhaaGreatDoor

namespace Go.Proofs.YtlakiipofcibhaaGreatDoor
open Go Sz
set_option maxRecDepth 100000

/-! Closed runs. -/
theorem kre2_0 : evCall (envOf krS1) 90 12 [krV0, .str [88, 32, 61, 32, 97, 32, 43, 32, 89, 46]] h0 = some (.tuple [.agg [.int .i64 2, .int .i64 0, .str [61], .sl [.agg [.int .i64 0, .int .i64 0, .str [], .nils], .agg [.int .i64 2, .int .i64 0, .str [43], .sl [.agg [.int .i64 2, .int .i64 0, .str [97], .nils], .agg [.int .i64 0, .int .i64 1, .str [], .nils]]]]], .sl [.agg [.str [88], .int .i64 0], .agg [.str [89], .int .i64 1]], .int .i64 0], h0) := by kernel_rfl
theorem kre2_1 : evCall (envOf krS1) 90 66 [.agg [.int .i64 2, .int .i64 0, .str [61], .sl [.agg [.int .i64 0, .int .i64 0, .str [], .nils], .agg [.int .i64 2, .int .i64 0, .str [43], .sl [.agg [.int .i64 2, .int .i64 0, .str [97], .nils], .agg [.int .i64 0, .int .i64 1, .str [], .nils]]]]]] h0 = some (.bool true, h0) := by kernel_rfl
theorem kre2_2 : evCall (envOf krS1) 90 12 [krV0, .str [97, 32, 98, 46]] h0 = some (.tuple [.agg [.int .i64 0, .int .i64 0, .str [], .nils], .nils, .int .i64 2], h0) := by kernel_rfl
theorem kre2_3 : evCall (envOf krS1) 90 12 [krV0, .str [97, 46, 98]] h0 = some (.tuple [.agg [.int .i64 0, .int .i64 0, .str [], .nils], .nils, .int .i64 2], h0) := by kernel_rfl
theorem kre2_4 : evCall (envOf krS1) 90 12 [krV0, .str [97, 32, 61, 32, 98, 32, 61, 32, 99, 46]] h0 = some (.tuple [.agg [.int .i64 0, .int .i64 0, .str [], .nils], .nils, .int .i64 2], h0) := by kernel_rfl

end Go.Proofs.YtlakiipofcibhaaGreatDoor

namespace Go.Proofs.YtlakiipofcibhaaGreatDoor
open Go Sz
set_option maxRecDepth 100000

/-! Closed runs. -/
theorem kre2_5 : evCall (envOf krS1) 90 12 [krV0, .str [102, 40, 97, 46]] h0 = some (.tuple [.agg [.int .i64 0, .int .i64 0, .str [], .nils], .nils, .int .i64 2], h0) := by kernel_rfl
theorem kre2_6 : evCall (envOf krS1) 90 12 [krV0, .str [91, 97, 124, 98, 44, 99, 93, 46]] h0 = some (.tuple [.agg [.int .i64 0, .int .i64 0, .str [], .nils], .nils, .int .i64 2], h0) := by kernel_rfl
theorem kre2_7 : evCall (envOf krS1) 90 12 [krV0, .str [97, 32, 58, 45, 32, 98, 32, 58, 45, 32, 99, 46]] h0 = some (.tuple [.agg [.int .i64 0, .int .i64 0, .str [], .nils], .nils, .int .i64 2], h0) := by kernel_rfl
theorem kre2_8 : evCall (envOf krS1) 90 12 [krV0, .str [61, 32, 97, 46]] h0 = some (.tuple [.agg [.int .i64 0, .int .i64 0, .str [], .nils], .nils, .int .i64 2], h0) := by kernel_rfl
theorem kre2_9 : evCall (envOf krS1) 90 12 [krV0, .str [102, 40, 97, 32, 58, 45, 32, 98, 41, 46]] h0 = some (.tuple [.agg [.int .i64 0, .int .i64 0, .str [], .nils], .nils, .int .i64 2], h0) := by kernel_rfl

end Go.Proofs.YtlakiipofcibhaaGreatDoor

namespace Go.Proofs.YtlakiipofcibhaaGreatDoor
open Go Sz
set_option maxRecDepth 100000

/-! Closed runs. -/
theorem kre2_10 : evCall (envOf krS1) 90 12 [krV0, .str [40, 97, 46]] h0 = some (.tuple [.agg [.int .i64 0, .int .i64 0, .str [], .nils], .nils, .int .i64 2], h0) := by kernel_rfl
theorem kre2_11 : evCall (envOf krS1) 90 12 [krV0, .str [97, 41, 46]] h0 = some (.tuple [.agg [.int .i64 0, .int .i64 0, .str [], .nils], .nils, .int .i64 2], h0) := by kernel_rfl
theorem kre2_12 : evCall (envOf krS1) 90 12 [krV0, .str [97, 46, 32, 98, 46]] h0 = some (.tuple [.agg [.int .i64 0, .int .i64 0, .str [], .nils], .nils, .int .i64 2], h0) := by kernel_rfl
theorem kre2_13 : evCall (envOf krS1) 90 12 [krV0, .str [123, 97, 46]] h0 = some (.tuple [.agg [.int .i64 0, .int .i64 0, .str [], .nils], .nils, .int .i64 2], h0) := by kernel_rfl
theorem kre2_14 : evCall (envOf krS1) 90 12 [krV0, .str [88, 40, 97, 41, 46]] h0 = some (.tuple [.agg [.int .i64 0, .int .i64 0, .str [], .nils], .nils, .int .i64 2], h0) := by kernel_rfl
theorem kre2_15 : evCall (envOf krS1) 90 12 [krV0, .str [102, 40, 41, 46]] h0 = some (.tuple [.agg [.int .i64 0, .int .i64 0, .str [], .nils], .nils, .int .i64 2], h0) := by kernel_rfl
theorem kre2_16 : evCall (envOf krS1) 90 12 [krV0, .str [91, 97, 124, 93, 46]] h0 = some (.tuple [.agg [.int .i64 0, .int .i64 0, .str [], .nils], .nils, .int .i64 2], h0) := by kernel_rfl

end Go.Proofs.YtlakiipofcibhaaGreatDoor

namespace Go.Proofs.YtlakiipofcibhaaGreatDoor
open Go Sz
set_option maxRecDepth 100000

/-! Closed runs. -/
theorem kre2_17 : evCall (envOf krS1) 90 12 [krV0, .str [97, 32, 59, 32, 46]] h0 = some (.tuple [.agg [.int .i64 0, .int .i64 0, .str [], .nils], .nils, .int .i64 2], h0) := by kernel_rfl
theorem kre2_18 : evCall (envOf krS1) 90 12 [krV0, .str [97, 32, 45, 62, 32, 46]] h0 = some (.tuple [.agg [.int .i64 0, .int .i64 0, .str [], .nils], .nils, .int .i64 2], h0) := by kernel_rfl
theorem kre2_19 : evCall (envOf krS1) 90 12 [krV0, .str [97, 32, 43, 32, 98, 32, 43, 32, 99, 46]] h0 = some (.tuple [.agg [.int .i64 2, .int .i64 0, .str [43], .sl [.agg [.int .i64 2, .int .i64 0, .str [43], .sl [.agg [.int .i64 2, .int .i64 0, .str [97], .nils], .agg [.int .i64 2, .int .i64 0, .str [98], .nils]]], .agg [.int .i64 2, .int .i64 0, .str [99], .nils]]], .nils, .int .i64 0], h0) := by kernel_rfl
theorem kre2_20 : evCall (envOf krS1) 90 66 [.agg [.int .i64 2, .int .i64 0, .str [43], .sl [.agg [.int .i64 2, .int .i64 0, .str [43], .sl [.agg [.int .i64 2, .int .i64 0, .str [97], .nils], .agg [.int .i64 2, .int .i64 0, .str [98], .nils]]], .agg [.int .i64 2, .int .i64 0, .str [99], .nils]]]] h0 = some (.bool true, h0) := by kernel_rfl

end Go.Proofs.YtlakiipofcibhaaGreatDoor

namespace Go.Proofs.YtlakiipofcibhaaGreatDoor
open Go Sz
set_option maxRecDepth 100000

/-! Closed runs. -/
theorem kre2_21 : evCall (envOf krS1) 90 12 [krV0, .str [97, 32, 59, 32, 98, 32, 59, 32, 99, 46]] h0 = some (.tuple [.agg [.int .i64 2, .int .i64 0, .str [59], .sl [.agg [.int .i64 2, .int .i64 0, .str [97], .nils], .agg [.int .i64 2, .int .i64 0, .str [59], .sl [.agg [.int .i64 2, .int .i64 0, .str [98], .nils], .agg [.int .i64 2, .int .i64 0, .str [99], .nils]]]]], .nils, .int .i64 0], h0) := by kernel_rfl
theorem kre2_22 : evCall (envOf krS1) 90 66 [.agg [.int .i64 2, .int .i64 0, .str [59], .sl [.agg [.int .i64 2, .int .i64 0, .str [97], .nils], .agg [.int .i64 2, .int .i64 0, .str [59], .sl [.agg [.int .i64 2, .int .i64 0, .str [98], .nils], .agg [.int .i64 2, .int .i64 0, .str [99], .nils]]]]]] h0 = some (.bool true, h0) := by kernel_rfl
theorem kre2_23 : evCall (envOf krS1) 90 12 [krV0, .str [45, 32, 49, 46]] h0 = some (.tuple [.agg [.int .i64 2, .int .i64 0, .str [45], .sl [.agg [.int .i64 1, .int .i64 1, .str [], .nils]]], .nils, .int .i64 0], h0) := by kernel_rfl
theorem kre2_24 : evCall (envOf krS1) 90 40 [.agg [.int .i64 2, .int .i64 0, .str [45], .sl [.agg [.int .i64 1, .int .i64 1, .str [], .nils]]]] h0 = some (.tuple [.str [45, 40, 49, 41], .int .i64 0], h0) := by kernel_rfl
theorem kre2_25 : evCall (envOf krS1) 90 12 [krV0, .str [45, 49, 46]] h0 = some (.tuple [.agg [.int .i64 1, .int .i64 (-1), .str [], .nils], .nils, .int .i64 0], h0) := by kernel_rfl

end Go.Proofs.YtlakiipofcibhaaGreatDoor
