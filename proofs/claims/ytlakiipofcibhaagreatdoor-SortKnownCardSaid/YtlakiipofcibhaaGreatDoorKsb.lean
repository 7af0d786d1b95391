import Derived.Test.YtlakiipofcibhaaGreatDoorKsa
set_option linter.unusedVariables false
set_option linter.unusedSimpArgs false
set_option linter.unusedSectionVars false

namespace Go.Proofs.YtlakiipofcibhaaGreatDoor
open Go Sz
set_option maxRecDepth 100000

/-! Closed runs. -/
theorem kse1_8 : evCall (envK ssI) 90 73 [.str [91, 49, 32, 45, 32, 97, 44, 32, 51, 44, 32, 88, 93, 32, 46]] h0 = some (.tuple [.sl [.agg [.int .i64 5, .str [91], .int .i64 0, .bool false, .int .i64 0], .agg [.int .i64 4, .str [], .int .i64 1, .bool false, .int .i64 1], .agg [.int .i64 1, .str [45], .int .i64 0, .bool false, .int .i64 3], .agg [.int .i64 1, .str [97], .int .i64 0, .bool false, .int .i64 5], .agg [.int .i64 5, .str [44], .int .i64 0, .bool false, .int .i64 6], .agg [.int .i64 4, .str [], .int .i64 3, .bool false, .int .i64 8], .agg [.int .i64 5, .str [44], .int .i64 0, .bool false, .int .i64 9], .agg [.int .i64 3, .str [88], .int .i64 0, .bool false, .int .i64 11], .agg [.int .i64 5, .str [93], .int .i64 0, .bool false, .int .i64 12], .agg [.int .i64 6, .str [], .int .i64 0, .bool false, .int .i64 14]], .int .i64 15, .int .i64 0], h0) := by kernel_rfl

end Go.Proofs.YtlakiipofcibhaaGreatDoor

namespace Go.Proofs.YtlakiipofcibhaaGreatDoor
open Go Sz
set_option maxRecDepth 100000

/-! Closed runs. -/
theorem kse1_9 : evCall (envK ssI) 90 73 [.str [91, 97, 124, 88, 93, 32, 46]] h0 = some (.tuple [.sl [.agg [.int .i64 5, .str [91], .int .i64 0, .bool false, .int .i64 0], .agg [.int .i64 1, .str [97], .int .i64 0, .bool false, .int .i64 1], .agg [.int .i64 5, .str [124], .int .i64 0, .bool false, .int .i64 2], .agg [.int .i64 3, .str [88], .int .i64 0, .bool false, .int .i64 3], .agg [.int .i64 5, .str [93], .int .i64 0, .bool false, .int .i64 4], .agg [.int .i64 6, .str [], .int .i64 0, .bool false, .int .i64 6]], .int .i64 7, .int .i64 0], h0) := by kernel_rfl
theorem kse1_10 : evCall (envK ssI) 90 73 [.str [91, 97, 124, 98, 93, 32, 46]] h0 = some (.tuple [.sl [.agg [.int .i64 5, .str [91], .int .i64 0, .bool false, .int .i64 0], .agg [.int .i64 1, .str [97], .int .i64 0, .bool false, .int .i64 1], .agg [.int .i64 5, .str [124], .int .i64 0, .bool false, .int .i64 2], .agg [.int .i64 1, .str [98], .int .i64 0, .bool false, .int .i64 3], .agg [.int .i64 5, .str [93], .int .i64 0, .bool false, .int .i64 4], .agg [.int .i64 6, .str [], .int .i64 0, .bool false, .int .i64 6]], .int .i64 7, .int .i64 0], h0) := by kernel_rfl
theorem kse1_11 : evCall (envK ssI) 90 73 [.str [88, 32, 46]] h0 = some (.tuple [.sl [.agg [.int .i64 3, .str [88], .int .i64 0, .bool false, .int .i64 0], .agg [.int .i64 6, .str [], .int .i64 0, .bool false, .int .i64 2]], .int .i64 3, .int .i64 0], h0) := by kernel_rfl

end Go.Proofs.YtlakiipofcibhaaGreatDoor

namespace Go.Proofs.YtlakiipofcibhaaGreatDoor
open Go Sz
set_option maxRecDepth 100000

/-! Closed runs. -/
theorem kse1_12 : evCall (envK ssI) 90 73 [.str [91, 93, 32, 46]] h0 = some (.tuple [.sl [.agg [.int .i64 1, .str [91, 93], .int .i64 0, .bool false, .int .i64 0], .agg [.int .i64 6, .str [], .int .i64 0, .bool false, .int .i64 3]], .int .i64 4, .int .i64 0], h0) := by kernel_rfl
theorem kse1_13 : evCall (envK ssI) 90 73 [.str [91, 97, 44, 98, 44, 97, 93, 32, 46]] h0 = some (.tuple [.sl [.agg [.int .i64 5, .str [91], .int .i64 0, .bool false, .int .i64 0], .agg [.int .i64 1, .str [97], .int .i64 0, .bool false, .int .i64 1], .agg [.int .i64 5, .str [44], .int .i64 0, .bool false, .int .i64 2], .agg [.int .i64 1, .str [98], .int .i64 0, .bool false, .int .i64 3], .agg [.int .i64 5, .str [44], .int .i64 0, .bool false, .int .i64 4], .agg [.int .i64 1, .str [97], .int .i64 0, .bool false, .int .i64 5], .agg [.int .i64 5, .str [93], .int .i64 0, .bool false, .int .i64 6], .agg [.int .i64 6, .str [], .int .i64 0, .bool false, .int .i64 8]], .int .i64 9, .int .i64 0], h0) := by kernel_rfl

end Go.Proofs.YtlakiipofcibhaaGreatDoor

namespace Go.Proofs.YtlakiipofcibhaaGreatDoor
open Go Sz
set_option maxRecDepth 100000

/-! Closed runs. -/
theorem kse1_14 : evCall (envK ssI) 90 73 [.str [91, 88, 44, 49, 93, 32, 46]] h0 = some (.tuple [.sl [.agg [.int .i64 5, .str [91], .int .i64 0, .bool false, .int .i64 0], .agg [.int .i64 3, .str [88], .int .i64 0, .bool false, .int .i64 1], .agg [.int .i64 5, .str [44], .int .i64 0, .bool false, .int .i64 2], .agg [.int .i64 4, .str [], .int .i64 1, .bool false, .int .i64 3], .agg [.int .i64 5, .str [93], .int .i64 0, .bool false, .int .i64 4], .agg [.int .i64 6, .str [], .int .i64 0, .bool false, .int .i64 6]], .int .i64 7, .int .i64 0], h0) := by kernel_rfl

end Go.Proofs.YtlakiipofcibhaaGreatDoor

namespace Go.Proofs.YtlakiipofcibhaaGreatDoor
open Go Sz
set_option maxRecDepth 100000

/-! Closed runs. -/
theorem kse1_15 : evCall (envK ssI) 90 73 [.str [91, 102, 40, 97, 41, 44, 97, 44, 51, 44, 88, 44, 102, 40, 97, 41, 44, 45, 49, 93, 32, 46]] h0 = some (.tuple [.sl [.agg [.int .i64 5, .str [91], .int .i64 0, .bool false, .int .i64 0], .agg [.int .i64 1, .str [102], .int .i64 0, .bool true, .int .i64 1], .agg [.int .i64 5, .str [40], .int .i64 0, .bool false, .int .i64 2], .agg [.int .i64 1, .str [97], .int .i64 0, .bool false, .int .i64 3], .agg [.int .i64 5, .str [41], .int .i64 0, .bool false, .int .i64 4], .agg [.int .i64 5, .str [44], .int .i64 0, .bool false, .int .i64 5], .agg [.int .i64 1, .str [97], .int .i64 0, .bool false, .int .i64 6], .agg [.int .i64 5, .str [44], .int .i64 0, .bool false, .int .i64 7], .agg [.int .i64 4, .str [], .int .i64 3, .bool false, .int .i64 8], .agg [.int .i64 5, .str [44], .int .i64 0, .bool false, .int .i64 9], .agg [.int .i64 3, .str [88], .int .i64 0, .bool false, .int .i64 10], .agg [.int .i64 5, .str [44], .int .i64 0, .bool false, .int .i64 11], .agg [.int .i64 1, .str [102], .int .i64 0, .bool true, .int .i64 12], .agg [.int .i64 5, .str [40], .int .i64 0, .bool false, .int .i64 13], .agg [.int .i64 1, .str [97], .int .i64 0, .bool false, .int .i64 14], .agg [.int .i64 5, .str [41], .int .i64 0, .bool false, .int .i64 15], .agg [.int .i64 5, .str [44], .int .i64 0, .bool false, .int .i64 16], .agg [.int .i64 1, .str [45], .int .i64 0, .bool false, .int .i64 17], .agg [.int .i64 4, .str [], .int .i64 1, .bool false, .int .i64 18], .agg [.int .i64 5, .str [93], .int .i64 0, .bool false, .int .i64 19], .agg [.int .i64 6, .str [], .int .i64 0, .bool false, .int .i64 21]], .int .i64 22, .int .i64 0], h0) := by kernel_rfl

end Go.Proofs.YtlakiipofcibhaaGreatDoor

namespace Go.Proofs.YtlakiipofcibhaaGreatDoor
open Go Sz
set_option maxRecDepth 100000

/-! Closed runs. -/
theorem kse1_16 : evCall (envK ssI) 90 59 [.agg [.int .i64 2, .int .i64 0, .str [102], .sl [.agg [.int .i64 2, .int .i64 0, .str [97], .nils]]], .agg [.int .i64 2, .int .i64 0, .str [102], .sl [.agg [.int .i64 2, .int .i64 0, .str [97], .nils]]]] h0 = some (.int .i64 0, h0) := by kernel_rfl
theorem kse1_17 : evCall (envK ssI) 90 73 [.str [91, 97, 44, 98, 44, 98, 93, 32, 46]] h0 = some (.tuple [.sl [.agg [.int .i64 5, .str [91], .int .i64 0, .bool false, .int .i64 0], .agg [.int .i64 1, .str [97], .int .i64 0, .bool false, .int .i64 1], .agg [.int .i64 5, .str [44], .int .i64 0, .bool false, .int .i64 2], .agg [.int .i64 1, .str [98], .int .i64 0, .bool false, .int .i64 3], .agg [.int .i64 5, .str [44], .int .i64 0, .bool false, .int .i64 4], .agg [.int .i64 1, .str [98], .int .i64 0, .bool false, .int .i64 5], .agg [.int .i64 5, .str [93], .int .i64 0, .bool false, .int .i64 6], .agg [.int .i64 6, .str [], .int .i64 0, .bool false, .int .i64 8]], .int .i64 9, .int .i64 0], h0) := by kernel_rfl

end Go.Proofs.YtlakiipofcibhaaGreatDoor
